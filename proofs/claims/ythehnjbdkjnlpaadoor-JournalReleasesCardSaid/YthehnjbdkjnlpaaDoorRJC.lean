/- The laws of chapter 15 (journal), walked over the given program; no condition but what stands in each theorem: part JC. -/
import Derived.Test.YthehnjbdkjnlpaaDoorRFH
import Derived.Test.YthehnjbdkjnlpaaDoorRRA
set_option linter.unusedVariables false
set_option linter.unusedSimpArgs false
set_option maxRecDepth 100000
set_option maxHeartbeats 8000000
namespace Go.Proofs.YthehnjbdkjnlpaaDoor
open Go Go.Sl Go.RowKit Go.Extern.Stop Go.Stop Go.Extern
theorem jopen_ (B : Option Addr) (d : Nat) (rules : List Rul) (A : Option Addr) (c : Nat) (l : List Jen) : Con Tryd.prog 24 [.slice B rules.length d, .slice A l.length c] [] [] (fun v L' I' => ∃ b : Nat, ∃ m : Nat, v = .pointer (some ⟨b, 0, none⟩) ∧ L' = [pt b [.slice A l.length c, .slice B rules.length d, .map (some m)] 68, mpi m (fun _ => 0)] ∧ I' = []) := by
 refine fn_of Tryd.func24 rfl Tryd.ntmps24 (by kernel_rfl) rfl (fun C => ?_)
 refine c_seq (c_region ?_)
 refine s_y rfl (v := .pointer none) (y_as rfl) rfl ?_
 refine s_nil (q_then (c_seq (c_region ?_)))
 refine s_y rfl (v := .slice A l.length c) (y_mv rfl) rfl ?_
 refine s_y rfl (v := .agg #[.slice A l.length c]) (y_k rfl rfl (fun _ => by kernel_rfl)) rfl ?_
 refine s_y rfl (v := .slice B rules.length d) (y_mv rfl) rfl ?_
 refine st rfl (o_mkmap rfl (fun m1 => ?_))
 refine e_weak 0 rfl mpi_new ?_
 refine s_y rfl (v := .agg #[.slice A l.length c, .slice B rules.length d, .map (some m1)]) (y_k rfl rfl (fun _ => by kernel_rfl)) rfl ?_
 refine st rfl (o_box (cs := [.slice A l.length c, .slice B rules.length d, .map (some m1)]) (T := 68) rfl rfl rfl rfl (fun _ => by kernel_rfl) (fun b1 => ?_))
 refine s_y rfl (v := .pointer (some ⟨b1, 0, none⟩)) (y_as rfl) rfl ?_
 refine s_nil (q_then (c_ret ?_))
 refine c_fin (I' := []) [0, 0] [] rfl (.tmp rfl .nil) rfl rfl rfl ?_
 exact ⟨b1, m1, rfl, rfl, rfl⟩
theorem isNext_ (s : Int) (t : Int) : Con Tryd.prog 29 [.int .i64 s, .int .i64 t] [] [] (fun v L' I' => v = .bool (decide (t < s ∧ 1 ≤ s ∧ s ≤ 400)) ∧ L' = [] ∧ I' = []) := by
 refine fn_of Tryd.func29 rfl Tryd.ntmps29 (by kernel_rfl) rfl (fun C => ?_)
 refine c_seq (c_region ?_)
 refine s_y rfl (v := .bool false) (y_as rfl) rfl ?_
 refine s_nil (q_then (c_seq (c_region ?_)))
 refine s_y rfl (v := .int .i64 s) (y_mv rfl) rfl ?_
 refine s_y rfl (v := .int .i64 t) (y_mv rfl) rfl ?_
 refine e_by (s > t) (fun h1 => ?_) (fun h1 => ?_)
 ·
  refine s_y rfl (v := .bool true) (y_t (y_k (v := .bool (decide (s > t))) rfl rfl (fun _ => by kernel_rfl)) h1) rfl ?_
  refine s_y rfl (v := .bool true) (y_mv rfl) rfl ?_
  refine st_on 8 rfl rfl rfl (o_y (v := .int .i64 s) (y_mv rfl) rfl rfl rfl ?_)
  refine e_by (s ≥ 1) (fun h2 => ?_) (fun h2 => ?_)
  ·
   refine st_on 8 rfl rfl rfl (o_y (v := .bool true) (y_t (y_k (v := .bool (decide (s ≥ 1))) rfl rfl (fun _ => by kernel_rfl)) h2) rfl rfl rfl ?_)
   refine s_y rfl (v := .bool true) (y_pick rfl rfl) rfl ?_
   refine s_y rfl (v := .bool true) (y_mv rfl) rfl ?_
   refine st_on 12 rfl rfl rfl (o_y (v := .int .i64 s) (y_mv rfl) rfl rfl rfl ?_)
   refine e_by (s ≤ 400) (fun h3 => ?_) (fun h3 => ?_)
   ·
    refine st_on 12 rfl rfl rfl (o_y (v := .bool true) (y_t (y_k (v := .bool (decide (s ≤ 400))) rfl rfl (fun _ => by kernel_rfl)) h3) rfl rfl rfl ?_)
    refine s_y rfl (v := .bool true) (y_pick rfl rfl) rfl ?_
    refine s_y rfl (v := .bool true) (y_as rfl) rfl ?_
    refine s_nil (q_then (c_ret ?_))
    refine c_fin (I' := []) [] [] rfl (.tmp rfl .nil) rfl rfl rfl ?_
    exact ⟨dec_t (by omega), rfl, rfl⟩
   ·
    refine st_on 12 rfl rfl rfl (o_y (v := .bool false) (y_f (y_k (v := .bool (decide (s ≤ 400))) rfl rfl (fun _ => by kernel_rfl)) h3) rfl rfl rfl ?_)
    refine s_y rfl (v := .bool false) (y_pick rfl rfl) rfl ?_
    refine s_y rfl (v := .bool false) (y_as rfl) rfl ?_
    refine s_nil (q_then (c_ret ?_))
    refine c_fin (I' := []) [] [] rfl (.tmp rfl .nil) rfl rfl rfl ?_
    exact ⟨dec_f (by omega), rfl, rfl⟩
  ·
   refine st_on 8 rfl rfl rfl (o_y (v := .bool false) (y_f (y_k (v := .bool (decide (s ≥ 1))) rfl rfl (fun _ => by kernel_rfl)) h2) rfl rfl rfl ?_)
   refine s_y rfl (v := .bool false) (y_pick rfl rfl) rfl ?_
   refine s_y rfl (v := .bool false) (y_mv rfl) rfl ?_
   refine st_off 12 rfl rfl rfl rfl rfl rfl ?_
   refine st_off 12 rfl rfl rfl rfl rfl rfl ?_
   refine s_y rfl (v := .bool false) (y_pick rfl rfl) rfl ?_
   refine s_y rfl (v := .bool false) (y_as rfl) rfl ?_
   refine s_nil (q_then (c_ret ?_))
   refine c_fin (I' := []) [] [] rfl (.tmp rfl .nil) rfl rfl rfl ?_
   exact ⟨dec_f (by omega), rfl, rfl⟩
 ·
  refine s_y rfl (v := .bool false) (y_f (y_k (v := .bool (decide (s > t))) rfl rfl (fun _ => by kernel_rfl)) h1) rfl ?_
  refine s_y rfl (v := .bool false) (y_mv rfl) rfl ?_
  refine st_off 8 rfl rfl rfl rfl rfl rfl ?_
  refine st_off 8 rfl rfl rfl rfl rfl rfl ?_
  refine s_y rfl (v := .bool false) (y_pick rfl rfl) rfl ?_
  refine s_y rfl (v := .bool false) (y_mv rfl) rfl ?_
  refine st_off 12 rfl rfl rfl rfl rfl rfl ?_
  refine st_off 12 rfl rfl rfl rfl rfl rfl ?_
  refine s_y rfl (v := .bool false) (y_pick rfl rfl) rfl ?_
  refine s_y rfl (v := .bool false) (y_as rfl) rfl ?_
  refine s_nil (q_then (c_ret ?_))
  refine c_fin (I' := []) [] [] rfl (.tmp rfl .nil) rfl rfl rfl ?_
  exact ⟨dec_f (by omega), rfl, rfl⟩
theorem jpass_ (b : Nat) (m : Nat) (f : Int → Int) (X : Value) (Y : Value) (r : Rul) (da : ByteArray) (ef : Addr) (es : Addr) (hfb : 0 ≤ f r.id ∧ f r.id ≤ 1000000000) (hrs : rulSm r) (hd_ : da.size ≤ 100000) : Con Tryd.prog 34 [.pointer (some ⟨b, 0, none⟩), .agg #[.int .i64 r.id, .int .i64 r.fr.lv, .int .u64 (r.fr.cs : Int), .int .i64 r.fr.ig, .int .i64 r.to.lv, .int .u64 (r.to.cs : Int), .int .i64 r.to.ig, .int .i64 r.bu, .int .i64 r.wh.kd, .int .i64 r.wh.mx, .string r.wh.fm], .string da] [pt b [X, Y, .map (some m)] 68, mpi m f] [cellsAt 2 0 [.iface 154 (.pointer (some ef))], errAt ef, cellsAt 0 0 [.iface 154 (.pointer (some es))], errAt es, cellsAt 1 0 [.iface 121 (.agg #[.pointer (some ⟨4, 57, none⟩)])]] (fun v L' I' => ((¬ (passP r.wh da)) ∧ v = .iface 59 (.agg #[.int .i64 130, .nilIface]) ∧ L' = [pt b [X, Y, .map (some m)] 68, mpi m f] ∧ I' = []) ∨ ((passP r.wh da) ∧ (¬ (f r.id + (da.size : Int) ≤ r.bu)) ∧ v = .iface 59 (.agg #[.int .i64 151, .iface 154 (.pointer (some es))]) ∧ L' = [pt b [X, Y, .map (some m)] 68, mpi m (fun j => if j = r.id then (f r.id) + (da.size : Int) else f j)] ∧ I' = []) ∨ ((passP r.wh da) ∧ (f r.id + (da.size : Int) ≤ r.bu) ∧ v = .nilIface ∧ L' = [pt b [X, Y, .map (some m)] 68, mpi m (fun j => if j = r.id then (f r.id) + (da.size : Int) else f j)] ∧ I' = [])) := by
 refine fn_of Tryd.func34 rfl Tryd.ntmps34 (by kernel_rfl) rfl (fun C => ?_)
 refine c_seq (c_region ?_)
 refine st rfl (o_box (cs := [.int .i64 r.id, .int .i64 r.fr.lv, .int .u64 (r.fr.cs : Int), .int .i64 r.fr.ig, .int .i64 r.to.lv, .int .u64 (r.to.cs : Int), .int .i64 r.to.ig, .int .i64 r.bu, .int .i64 r.wh.kd, .int .i64 r.wh.mx, .string r.wh.fm]) (T := 41) rfl rfl rfl rfl (fun _ => by kernel_rfl) (fun b1 => ?_))
 refine s_y rfl (v := .nilIface) (y_as rfl) rfl ?_
 refine s_nil (q_then (c_seq (c_seq (c_region ?_))))
 refine s_y rfl (v := .pointer (some ⟨b1, 8, none⟩)) (y_k rfl rfl (fun _ => by kernel_rfl)) rfl ?_
 refine st rfl (o_ldn 0 3 rfl rfl rfl rfl Tryd.underlying39 rfl (by kernel_rfl) (by kernel_rfl) rfl ?_)
 refine s_y rfl (v := .string da) (y_mv rfl) rfl ?_
 refine st rfl (o_call [] [0, 1] (Pass_ r.wh da ef (hd_) (by unfold rulSm at hrs; omega)) rfl rfl rfl rfl rfl rfl (fun v L' I' hq1 => ?_))
 rcases hq1 with ⟨e1, h1, h2, rfl, rfl, rfl⟩ | ⟨e2, h3, rfl, rfl, rfl⟩
 ·
  refine s_y rfl (v := .tuple #[.bool true, .int .i64 e1]) (y_mv rfl) rfl ?_
  refine s_y rfl (v := .bool true) (y_k rfl rfl (fun _ => by kernel_rfl)) rfl ?_
  refine s_y rfl (v := .int .i64 e1) (y_k rfl rfl (fun _ => by kernel_rfl)) rfl ?_
  refine s_y rfl (v := .bool true) (y_as rfl) rfl ?_
  refine s_y rfl (v := .int .i64 e1) (y_as rfl) rfl ?_
  refine s_nil (q_then (c_seq (c_region ?_)))
  refine s_y rfl (v := .bool true) (y_mv rfl) rfl ?_
  refine s_y rfl (v := .bool false) (y_k rfl rfl (fun _ => by kernel_rfl)) rfl ?_
  refine s_y rfl (v := .bool false) (y_mv rfl) rfl ?_
  refine st_on 18 rfl rfl rfl (o_y (v := .int .i64 e1) (y_mv rfl) rfl rfl rfl ?_)
  have h4 : e1 = 0 := h2
  refine st_on 18 rfl rfl rfl (o_y (v := .bool false) (y_nt (y_k (v := .bool (!decide (e1 = 0))) rfl rfl (fun _ => by kernel_rfl)) h4) rfl rfl rfl ?_)
  refine s_y rfl (v := .bool false) (y_pick rfl rfl) rfl ?_
  refine s_nil (q_then (c_false rfl (c_skip (q_then (c_seq (c_seq ?_))))))
  refine c_draw (l := ticked 11 0) [(⟨b, 2, none⟩, .map (some m)), (⟨b1, 0, none⟩, .int .i64 r.id)] [] (by kernel_rfl) rfl rfl ?_
  refine b_y (i := 0) (v := .pointer (some ⟨b, 0, none⟩)) (ticked 11 1) rfl rfl (by exact y_mv rfl) ?_
  refine b_y (i := 1) (v := .pointer (some ⟨b, 0, none⟩)) (ticked 11 3) rfl rfl (by exact y_k rfl rfl (fun _ => by kernel_rfl)) ?_
  refine b_y (i := 2) (v := .pointer (some ⟨b, 2, none⟩)) (ticked 11 7) rfl rfl (by exact y_k rfl rfl (fun _ => by kernel_rfl)) ?_
  refine b_y (i := 4) (v := .pointer (some ⟨b1, 0, none⟩)) (ticked 11 23) rfl rfl (by exact y_k rfl rfl (fun _ => by kernel_rfl)) ?_
  refine b_y (i := 7) (v := .string da) (ticked 11 151) rfl rfl (by exact y_mv rfl) ?_
  refine b_y (i := 8) (v := .int .i64 (da.size : Int)) (ticked 11 407) rfl rfl (by exact y_k rfl rfl (fun _ => by kernel_rfl)) ?_
  refine a_held (i := 3) (ticked 11 415) rfl (by as_aux_lemma => kernel_rfl) rfl rfl rfl (held_pt 1 rfl rfl (held_pt 0 rfl rfl held_nil)) (h_ld 0 rfl rfl Tryd.underlying66 rfl) ?_
  refine a_held (i := 5) (ticked 11 447) rfl (by as_aux_lemma => kernel_rfl) rfl rfl rfl (held_pt 1 rfl rfl (held_pt 0 rfl rfl held_nil)) (h_ld 1 rfl rfl Tryd.underlying3 rfl) ?_
  refine a_each (rs := [6]) (by as_aux_lemma => kernel_rfl) (.cons (ticked 11 511) rfl rfl rfl (o_lkv (v := f r.id) 2 rfl rfl rfl (rfl) Tryd.underlying66 Tryd.underlying3 (fun w => by kernel_rfl) rfl ?_) .nil) (List.cons_ne_nil _ _)
  refine a_and (held_pt 1 rfl rfl (held_pt 0 rfl rfl held_nil)) ?_
  refine b_y (i := 9) (v := .int .i64 ((f r.id) + (da.size : Int))) (ticked 11 1023) rfl rfl (by exact y_add (r := (f r.id) + (da.size : Int)) rfl rfl rfl (by omega)) ?_
  refine a_each (rs := [10]) (by as_aux_lemma => kernel_rfl) (.cons (ticked 11 2047) rfl rfl rfl (o_upi 2 rfl rfl rfl rfl Tryd.underlying66 Tryd.underlying3 ?_) .nil) (List.cons_ne_nil _ _)
  refine a_and (held_pt 1 rfl rfl (held_pt 0 rfl rfl held_nil)) ?_
  refine a_done (by as_aux_lemma => kernel_rfl) ?_
  refine q_then (c_seq ?_)
  refine c_draw (l := ticked 10 0) [(⟨b, 2, none⟩, .map (some m)), (⟨b1, 0, none⟩, .int .i64 r.id), (⟨b1, 7, none⟩, .int .i64 r.bu)] [] (by kernel_rfl) rfl rfl ?_
  refine b_y (i := 0) (v := .pointer (some ⟨b, 0, none⟩)) (ticked 10 1) rfl rfl (by exact y_mv rfl) ?_
  refine b_y (i := 1) (v := .pointer (some ⟨b, 0, none⟩)) (ticked 10 3) rfl rfl (by exact y_k rfl rfl (fun _ => by kernel_rfl)) ?_
  refine b_y (i := 2) (v := .pointer (some ⟨b, 2, none⟩)) (ticked 10 7) rfl rfl (by exact y_k rfl rfl (fun _ => by kernel_rfl)) ?_
  refine b_y (i := 4) (v := .pointer (some ⟨b1, 0, none⟩)) (ticked 10 23) rfl rfl (by exact y_k rfl rfl (fun _ => by kernel_rfl)) ?_
  refine b_y (i := 7) (v := .pointer (some ⟨b1, 7, none⟩)) (ticked 10 151) rfl rfl (by exact y_k rfl rfl (fun _ => by kernel_rfl)) ?_
  refine a_held (i := 3) (ticked 10 159) rfl (by as_aux_lemma => kernel_rfl) rfl rfl rfl (held_pt 1 rfl rfl (held_pt 0 rfl rfl (held_pt 0 rfl rfl held_nil))) (h_ld 0 rfl rfl Tryd.underlying66 rfl) ?_
  refine a_held (i := 5) (ticked 10 191) rfl (by as_aux_lemma => kernel_rfl) rfl rfl rfl (held_pt 1 rfl rfl (held_pt 0 rfl rfl (held_pt 0 rfl rfl held_nil))) (h_ld 1 rfl rfl Tryd.underlying3 rfl) ?_
  refine a_held (i := 8) (ticked 10 447) rfl (by as_aux_lemma => kernel_rfl) rfl rfl rfl (held_pt 1 rfl rfl (held_pt 0 rfl rfl (held_pt 0 rfl rfl held_nil))) (h_ld 2 rfl rfl Tryd.underlying3 rfl) ?_
  refine a_each (rs := [6]) (by as_aux_lemma => kernel_rfl) (.cons (ticked 10 511) rfl rfl rfl (o_lkv (v := (f r.id) + (da.size : Int)) 2 rfl rfl rfl (if_pos rfl) Tryd.underlying66 Tryd.underlying3 (fun w => by kernel_rfl) rfl ?_) .nil) (List.cons_ne_nil _ _)
  refine a_and (held_pt 1 rfl rfl (held_pt 0 rfl rfl (held_pt 0 rfl rfl held_nil))) ?_
  refine e_by ((f r.id) + (da.size : Int) > r.bu) (fun h5 => ?_) (fun h5 => ?_)
  ·
   refine b_y (i := 9) (v := .bool true) (ticked 10 1023) rfl rfl (by exact y_t (y_k (v := .bool (decide ((f r.id) + (da.size : Int) > r.bu))) rfl rfl (fun _ => by kernel_rfl)) h5) ?_
   refine a_done (by as_aux_lemma => kernel_rfl) ?_
   refine q_then (c_true rfl (c_seq (c_region ?_)))
   refine st rfl (o_ldf 2 0 rfl rfl rfl Tryd.underlying57 rfl rfl ?_)
   refine s_y rfl (v := .agg #[.int .i64 151, .iface 154 (.pointer (some es))]) (y_k rfl rfl (fun _ => by kernel_rfl)) rfl ?_
   refine s_y rfl (v := .iface 59 (.agg #[.int .i64 151, .iface 154 (.pointer (some es))])) (y_k rfl rfl (fun _ => by kernel_rfl)) rfl ?_
   refine s_y rfl (v := .iface 59 (.agg #[.int .i64 151, .iface 154 (.pointer (some es))])) (y_as rfl) rfl ?_
   refine s_nil (q_then (c_ret (q_then_ret ?_)))
   refine c_fin (I' := []) [1, 1] [0, 1, 2, 3, 4] rfl (.tmp rfl .nil) rfl rfl rfl ?_
   exact .inr (.inl ⟨by assumption, by omega, rfl, rfl, rfl⟩)
  ·
   refine b_y (i := 9) (v := .bool false) (ticked 10 1023) rfl rfl (by exact y_f (y_k (v := .bool (decide ((f r.id) + (da.size : Int) > r.bu))) rfl rfl (fun _ => by kernel_rfl)) h5) ?_
   refine a_done (by as_aux_lemma => kernel_rfl) ?_
   refine q_then (c_false rfl (c_skip (q_then (c_seq (c_region ?_)))))
   refine s_y rfl (v := .nilIface) (y_as rfl) rfl ?_
   refine s_nil (q_then (c_ret ?_))
   refine c_fin (I' := []) [1, 1] [0, 1, 2, 3, 4] rfl (.tmp rfl .nil) rfl rfl rfl ?_
   exact .inr (.inr ⟨by assumption, by omega, rfl, rfl, rfl⟩)
 ·
  refine s_y rfl (v := .tuple #[.bool false, .int .i64 e2]) (y_mv rfl) rfl ?_
  refine s_y rfl (v := .bool false) (y_k rfl rfl (fun _ => by kernel_rfl)) rfl ?_
  refine s_y rfl (v := .int .i64 e2) (y_k rfl rfl (fun _ => by kernel_rfl)) rfl ?_
  refine s_y rfl (v := .bool false) (y_as rfl) rfl ?_
  refine s_y rfl (v := .int .i64 e2) (y_as rfl) rfl ?_
  refine s_nil (q_then (c_seq (c_region ?_)))
  refine s_y rfl (v := .bool false) (y_mv rfl) rfl ?_
  refine s_y rfl (v := .bool true) (y_k rfl rfl (fun _ => by kernel_rfl)) rfl ?_
  refine s_y rfl (v := .bool true) (y_mv rfl) rfl ?_
  refine st_off 18 rfl rfl rfl rfl rfl rfl ?_
  refine st_off 18 rfl rfl rfl rfl rfl rfl ?_
  refine s_y rfl (v := .bool true) (y_pick rfl rfl) rfl ?_
  refine s_nil (q_then (c_true rfl (c_seq (c_region ?_))))
  refine s_y rfl (v := .agg #[.int .i64 130, .nilIface]) (y_k rfl rfl (fun _ => by kernel_rfl)) rfl ?_
  refine s_y rfl (v := .iface 59 (.agg #[.int .i64 130, .nilIface])) (y_k rfl rfl (fun _ => by kernel_rfl)) rfl ?_
  refine s_y rfl (v := .iface 59 (.agg #[.int .i64 130, .nilIface])) (y_as rfl) rfl ?_
  refine s_nil (q_then (c_ret (q_then_ret ?_)))
  refine c_fin (I' := []) [1, 1] [0, 1, 2, 3, 4] rfl (.tmp rfl .nil) rfl rfl rfl ?_
  exact .inl ⟨by assumption, rfl, rfl, rfl⟩
end Go.Proofs.YthehnjbdkjnlpaaDoor
