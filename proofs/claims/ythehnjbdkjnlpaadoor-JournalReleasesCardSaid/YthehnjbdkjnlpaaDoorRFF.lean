/- The laws of chapter 15 (journal), walked over the given program; no condition but what stands in each theorem: part FF. -/
import Derived.Test.YthehnjbdkjnlpaaDoorRFD
import Derived.Test.YthehnjbdkjnlpaaDoorRFE
set_option linter.unusedVariables false
set_option linter.unusedSimpArgs false
set_option maxRecDepth 100000
set_option maxHeartbeats 8000000
namespace Go.Proofs.YthehnjbdkjnlpaaDoor
open Go Go.Sl Go.RowKit Go.Extern.Stop Go.Stop Go.Extern
theorem ftold_nil_ (ef : Addr) : Con Tryd.prog 73 [.nilIface] [] [cellsAt 2 0 [.iface 154 (.pointer (some ef))], errAt ef] (fun v L' I' => v = .int .i64 0 ∧ L' = [] ∧ I' = []) := by
 refine fn_of Tryd.func73 rfl Tryd.ntmps73 (by kernel_rfl) rfl (fun C => ?_)
 refine c_seq (c_region ?_)
 refine s_y rfl (v := .int .i64 0) (y_as rfl) rfl ?_
 refine s_nil (q_then (c_seq (c_seq (c_region ?_))))
 refine s_y rfl (v := .nilIface) (y_mv rfl) rfl ?_
 refine st rfl (o_ldf 0 0 rfl rfl rfl Tryd.underlying57 rfl rfl ?_)
 refine st rfl (o_call [] [] (is_nil_ ef) rfl rfl rfl rfl rfl rfl (fun v L' I' hq1 => ?_))
 obtain ⟨rfl, rfl, rfl⟩ := hq1
 refine s_nil (q_then (c_false rfl (c_skip (q_then (c_seq (c_region ?_))))))
 refine s_y rfl (v := .int .i64 0) (y_as rfl) rfl ?_
 refine s_nil (q_then (c_ret ?_))
 refine c_fin (I' := []) [] [0, 1] rfl (.tmp rfl .nil) rfl rfl rfl ?_
 exact ⟨rfl, rfl, rfl⟩
theorem ftold_ef_ (ef : Addr) : Con Tryd.prog 73 [.iface 154 (.pointer (some ef))] [] [cellsAt 2 0 [.iface 154 (.pointer (some ef))], errAt ef] (fun v L' I' => v = .int .i64 130 ∧ L' = [] ∧ I' = []) := by
 refine fn_of Tryd.func73 rfl Tryd.ntmps73 (by kernel_rfl) rfl (fun C => ?_)
 refine c_seq (c_region ?_)
 refine s_y rfl (v := .int .i64 0) (y_as rfl) rfl ?_
 refine s_nil (q_then (c_seq (c_seq (c_region ?_))))
 refine s_y rfl (v := .iface 154 (.pointer (some ef))) (y_mv rfl) rfl ?_
 refine st rfl (o_ldf 0 0 rfl rfl rfl Tryd.underlying57 rfl rfl ?_)
 refine st rfl (o_call [] [] (is_same_ ef) rfl rfl rfl rfl rfl rfl (fun v L' I' hq1 => ?_))
 obtain ⟨rfl, rfl, rfl⟩ := hq1
 refine s_nil (q_then (c_true rfl (c_seq (c_region ?_))))
 refine s_y rfl (v := .int .i64 130) (y_as rfl) rfl ?_
 refine s_nil (q_then (c_ret (q_then_ret ?_)))
 refine c_fin (I' := []) [] [0, 1] rfl (.tmp rfl .nil) rfl rfl rfl ?_
 exact ⟨rfl, rfl, rfl⟩
theorem ftold_fe_ (ef : Addr) (q : Bool) : Con Tryd.prog 73 [fefV ef q] [] [cellsAt 2 0 [.iface 154 (.pointer (some ef))], errAt ef] (fun v L' I' => v = .int .i64 (fefN q) ∧ L' = [] ∧ I' = []) := by
  cases q with
  | false => exact ftold_nil_ ef
  | true => exact ftold_ef_ ef
theorem fchecked_ (f : Fil) (ef : Addr) (hsz : f.fm.size ≤ 1000) : Con Tryd.prog 72 [.agg #[.int .i64 f.kd, .int .i64 f.mx, .string f.fm]] [] [cellsAt 2 0 [.iface 154 (.pointer (some ef))], errAt ef] (fun v L' I' => (∃ b1 : Nat, ∃ b2 : Nat, (filR f) ∧ (f.kd = 1) ∧ v = .tuple #[.slice (some ⟨b1, 0, none⟩) 1 1, .int .i64 0, .nilIface] ∧ L' = [pt b1 [.func (.func 80) #[] #[.pointer (some ⟨b2, 0, none⟩)]] 137, pt b2 [.int .i64 f.kd, .int .i64 f.mx, .string f.fm] 39] ∧ I' = []) ∨ (∃ b1 : Nat, ∃ b2 : Nat, ∃ b3 : Nat, (filR f) ∧ (f.kd = 2) ∧ v = .tuple #[.slice (some ⟨b1, 0, none⟩) 2 2, .int .i64 0, .nilIface] ∧ L' = [pt b1 [.func (.func 80) #[] #[.pointer (some ⟨b2, 0, none⟩)], .func (.func 85) #[] #[.pointer (some ⟨b3, 0, none⟩)]] 137, pt b2 [.int .i64 f.kd, .int .i64 f.mx, .string f.fm] 39, pt b3 [.string f.fm] 9] ∧ I' = []) ∨ (∃ b1 : Nat, ∃ b2 : Nat, ∃ b3 : Nat, ((0 ≤ f.mx ∧ f.mx ≤ 200 ∧ f.fm.size ≤ 40) ∧ f.kd = 3) ∧ (f.kd = 3) ∧ v = .tuple #[.slice (some ⟨b1, 0, none⟩) 2 2, .int .i64 ((recF f.fm).1.size : Int), fefV ef ((recF f.fm).2)] ∧ L' = [pt b1 [.func (.func 80) #[] #[.pointer (some ⟨b2, 0, none⟩)], .func (.func 87) #[] #[.pointer (some ⟨b3, 0, none⟩)]] 137, pt b2 [.int .i64 f.kd, .int .i64 f.mx, .string f.fm] 39, pt b3 [.string ((recF f.fm).1)] 9] ∧ I' = []) ∨ ((¬ (filR f)) ∧ v = .tuple #[.slice none 0 0, .int .i64 0, .iface 154 (.pointer (some ef))] ∧ L' = [] ∧ I' = [])) := by
 refine fn_of Tryd.func72 rfl Tryd.ntmps72 (by kernel_rfl) rfl (fun C => ?_)
 refine c_seq (c_region ?_)
 refine st rfl (o_box (cs := [.int .i64 f.kd, .int .i64 f.mx, .string f.fm]) (T := 39) rfl rfl rfl rfl (fun _ => by kernel_rfl) (fun b1 => ?_))
 refine s_y rfl (v := .slice none 0 0) (y_as rfl) rfl ?_
 refine s_y rfl (v := .int .i64 0) (y_as rfl) rfl ?_
 refine s_y rfl (v := .nilIface) (y_as rfl) rfl ?_
 refine s_nil (q_then (c_seq (c_seq (c_region ?_))))
 refine s_y rfl (v := .pointer (some ⟨b1, 1, none⟩)) (y_k rfl rfl (fun _ => by kernel_rfl)) rfl ?_
 refine st rfl (o_ld 0 rfl rfl rfl Tryd.underlying3 rfl rfl ?_)
 refine e_by (f.mx < 0) (fun h1 => ?_) (fun h1 => ?_)
 ·
  refine s_y rfl (v := .bool true) (y_t (y_k (v := .bool (decide (f.mx < 0))) rfl rfl (fun _ => by kernel_rfl)) h1) rfl ?_
  refine s_y rfl (v := .bool true) (y_mv rfl) rfl ?_
  refine st_off 11 rfl rfl rfl rfl rfl rfl ?_
  refine st_off 11 rfl rfl rfl rfl rfl rfl ?_
  refine st_off 11 rfl rfl rfl rfl rfl rfl ?_
  refine s_y rfl (v := .bool true) (y_pick rfl rfl) rfl ?_
  refine s_y rfl (v := .bool true) (y_mv rfl) rfl ?_
  refine st_off 16 rfl rfl rfl rfl rfl rfl ?_
  refine st_off 16 rfl rfl rfl rfl rfl rfl ?_
  refine st_off 16 rfl rfl rfl rfl rfl rfl ?_
  refine st_off 16 rfl rfl rfl rfl rfl rfl ?_
  refine s_y rfl (v := .bool true) (y_pick rfl rfl) rfl ?_
  refine s_nil (q_then (c_true rfl (c_seq ?_)))
  refine c_draw (l := ticked 4 0) [(⟨2, 0, none⟩, .iface 154 (.pointer (some ef)))] [] (by kernel_rfl) rfl rfl ?_
  refine b_y (i := 1) (v := .slice none 0 0) (ticked 4 2) rfl rfl (by exact y_as rfl) ?_
  refine b_y (i := 2) (v := .int .i64 0) (ticked 4 6) rfl rfl (by exact y_as rfl) ?_
  refine a_held (i := 0) (ticked 4 7) rfl (by as_aux_lemma => kernel_rfl) rfl rfl rfl (held_fact (j := 0) 0 rfl rfl held_nil) (h_ld 0 rfl rfl Tryd.underlying57 rfl) ?_
  refine b_y (i := 3) (v := .iface 154 (.pointer (some ef))) (ticked 4 15) rfl rfl (by exact y_as rfl) ?_
  refine a_done (by as_aux_lemma => kernel_rfl) ?_
  refine q_then (c_ret (q_then_ret ?_))
  refine c_fin (I' := []) [] [0, 1] rfl (.tmp rfl (.tmp rfl (.tmp rfl .nil))) rfl rfl rfl ?_
  exact .inr (.inr (.inr ⟨by first | exact ⟨⟨by omega, by omega, by omega⟩, .inl ⟨by assumption, by assumption⟩⟩ | exact ⟨⟨by omega, by omega, by omega⟩, .inr (.inl ⟨by assumption, by assumption⟩)⟩ | exact ⟨⟨by omega, by omega, by omega⟩, by assumption⟩ | exact filR_no (by omega) | exact filR_no1 (by assumption) (by assumption) | exact filR_no2 (by assumption) (by assumption) | exact filR_no0 (by assumption) (by assumption) (by assumption), rfl, rfl, rfl⟩))
 ·
  refine s_y rfl (v := .bool false) (y_f (y_k (v := .bool (decide (f.mx < 0))) rfl rfl (fun _ => by kernel_rfl)) h1) rfl ?_
  refine s_y rfl (v := .bool false) (y_mv rfl) rfl ?_
  refine st_on 11 rfl rfl rfl (o_y (v := .pointer (some ⟨b1, 1, none⟩)) (y_k rfl rfl (fun _ => by kernel_rfl)) rfl rfl rfl ?_)
  refine st_on 11 rfl rfl rfl (o_ld 0 rfl rfl rfl Tryd.underlying3 rfl rfl ?_)
  refine e_by (f.mx > 200) (fun h2 => ?_) (fun h2 => ?_)
  ·
   refine st_on 11 rfl rfl rfl (o_y (v := .bool true) (y_t (y_k (v := .bool (decide (f.mx > 200))) rfl rfl (fun _ => by kernel_rfl)) h2) rfl rfl rfl ?_)
   refine s_y rfl (v := .bool true) (y_pick rfl rfl) rfl ?_
   refine s_y rfl (v := .bool true) (y_mv rfl) rfl ?_
   refine st_off 16 rfl rfl rfl rfl rfl rfl ?_
   refine st_off 16 rfl rfl rfl rfl rfl rfl ?_
   refine st_off 16 rfl rfl rfl rfl rfl rfl ?_
   refine st_off 16 rfl rfl rfl rfl rfl rfl ?_
   refine s_y rfl (v := .bool true) (y_pick rfl rfl) rfl ?_
   refine s_nil (q_then (c_true rfl (c_seq ?_)))
   refine c_draw (l := ticked 4 0) [(⟨2, 0, none⟩, .iface 154 (.pointer (some ef)))] [] (by kernel_rfl) rfl rfl ?_
   refine b_y (i := 1) (v := .slice none 0 0) (ticked 4 2) rfl rfl (by exact y_as rfl) ?_
   refine b_y (i := 2) (v := .int .i64 0) (ticked 4 6) rfl rfl (by exact y_as rfl) ?_
   refine a_held (i := 0) (ticked 4 7) rfl (by as_aux_lemma => kernel_rfl) rfl rfl rfl (held_fact (j := 0) 0 rfl rfl held_nil) (h_ld 0 rfl rfl Tryd.underlying57 rfl) ?_
   refine b_y (i := 3) (v := .iface 154 (.pointer (some ef))) (ticked 4 15) rfl rfl (by exact y_as rfl) ?_
   refine a_done (by as_aux_lemma => kernel_rfl) ?_
   refine q_then (c_ret (q_then_ret ?_))
   refine c_fin (I' := []) [] [0, 1] rfl (.tmp rfl (.tmp rfl (.tmp rfl .nil))) rfl rfl rfl ?_
   exact .inr (.inr (.inr ⟨by first | exact ⟨⟨by omega, by omega, by omega⟩, .inl ⟨by assumption, by assumption⟩⟩ | exact ⟨⟨by omega, by omega, by omega⟩, .inr (.inl ⟨by assumption, by assumption⟩)⟩ | exact ⟨⟨by omega, by omega, by omega⟩, by assumption⟩ | exact filR_no (by omega) | exact filR_no1 (by assumption) (by assumption) | exact filR_no2 (by assumption) (by assumption) | exact filR_no0 (by assumption) (by assumption) (by assumption), rfl, rfl, rfl⟩))
  ·
   refine st_on 11 rfl rfl rfl (o_y (v := .bool false) (y_f (y_k (v := .bool (decide (f.mx > 200))) rfl rfl (fun _ => by kernel_rfl)) h2) rfl rfl rfl ?_)
   refine s_y rfl (v := .bool false) (y_pick rfl rfl) rfl ?_
   refine s_y rfl (v := .bool false) (y_mv rfl) rfl ?_
   refine st_on 16 rfl rfl rfl (o_y (v := .pointer (some ⟨b1, 2, none⟩)) (y_k rfl rfl (fun _ => by kernel_rfl)) rfl rfl rfl ?_)
   refine st_on 16 rfl rfl rfl (o_ld 0 rfl rfl rfl Tryd.underlying9 rfl rfl ?_)
   refine st_on 16 rfl rfl rfl (o_y (v := .int .i64 (f.fm.size : Int)) (y_k rfl rfl (fun _ => by kernel_rfl)) rfl rfl rfl ?_)
   refine e_by ((f.fm.size : Int) > 40) (fun h3 => ?_) (fun h3 => ?_)
   ·
    refine st_on 16 rfl rfl rfl (o_y (v := .bool true) (y_t (y_k (v := .bool (decide ((f.fm.size : Int) > 40))) rfl rfl (fun _ => by kernel_rfl)) h3) rfl rfl rfl ?_)
    refine s_y rfl (v := .bool true) (y_pick rfl rfl) rfl ?_
    refine s_nil (q_then (c_true rfl (c_seq ?_)))
    refine c_draw (l := ticked 4 0) [(⟨2, 0, none⟩, .iface 154 (.pointer (some ef)))] [] (by kernel_rfl) rfl rfl ?_
    refine b_y (i := 1) (v := .slice none 0 0) (ticked 4 2) rfl rfl (by exact y_as rfl) ?_
    refine b_y (i := 2) (v := .int .i64 0) (ticked 4 6) rfl rfl (by exact y_as rfl) ?_
    refine a_held (i := 0) (ticked 4 7) rfl (by as_aux_lemma => kernel_rfl) rfl rfl rfl (held_fact (j := 0) 0 rfl rfl held_nil) (h_ld 0 rfl rfl Tryd.underlying57 rfl) ?_
    refine b_y (i := 3) (v := .iface 154 (.pointer (some ef))) (ticked 4 15) rfl rfl (by exact y_as rfl) ?_
    refine a_done (by as_aux_lemma => kernel_rfl) ?_
    refine q_then (c_ret (q_then_ret ?_))
    refine c_fin (I' := []) [] [0, 1] rfl (.tmp rfl (.tmp rfl (.tmp rfl .nil))) rfl rfl rfl ?_
    exact .inr (.inr (.inr ⟨by first | exact ⟨⟨by omega, by omega, by omega⟩, .inl ⟨by assumption, by assumption⟩⟩ | exact ⟨⟨by omega, by omega, by omega⟩, .inr (.inl ⟨by assumption, by assumption⟩)⟩ | exact ⟨⟨by omega, by omega, by omega⟩, by assumption⟩ | exact filR_no (by omega) | exact filR_no1 (by assumption) (by assumption) | exact filR_no2 (by assumption) (by assumption) | exact filR_no0 (by assumption) (by assumption) (by assumption), rfl, rfl, rfl⟩))
   ·
    refine st_on 16 rfl rfl rfl (o_y (v := .bool false) (y_f (y_k (v := .bool (decide ((f.fm.size : Int) > 40))) rfl rfl (fun _ => by kernel_rfl)) h3) rfl rfl rfl ?_)
    refine s_y rfl (v := .bool false) (y_pick rfl rfl) rfl ?_
    refine s_nil (q_then (c_false rfl (c_skip (q_then (c_seq (c_region ?_))))))
    refine s_y rfl (v := .func (.func 80) #[] #[.pointer (some ⟨b1, 0, none⟩)]) (y_k rfl rfl (fun _ => by kernel_rfl)) rfl ?_
    refine s_y rfl (v := .func (.func 80) #[] #[.pointer (some ⟨b1, 0, none⟩)]) (y_as rfl) rfl ?_
    refine s_nil (q_then (c_seq (c_seq (c_region ?_))))
    refine s_y rfl (v := .pointer (some ⟨b1, 0, none⟩)) (y_k rfl rfl (fun _ => by kernel_rfl)) rfl ?_
    refine st rfl (o_ld 0 rfl rfl rfl Tryd.underlying3 rfl rfl ?_)
    refine s_nil (q_then (c_block (c_seq (c_region ?_))))
    refine e_by (f.kd = 1) (fun h4 => ?_) (fun h4 => ?_)
    ·
     refine s_y rfl (v := .bool true) (y_t (y_k (v := .bool (decide (f.kd = 1))) rfl rfl (fun _ => by kernel_rfl)) h4) rfl ?_
     refine s_y rfl (v := .bool true) (y_as rfl) rfl ?_
     refine s_nil (q_then (c_true rfl (c_seq (c_region ?_))))
     refine s_y rfl (v := .pointer (some ⟨b1, 2, none⟩)) (y_k rfl rfl (fun _ => by kernel_rfl)) rfl ?_
     refine st rfl (o_ld 0 rfl rfl rfl Tryd.underlying9 rfl rfl ?_)
     refine e_by (f.fm = (⟨#[]⟩ : ByteArray)) (fun h5 => ?_) (fun h5 => ?_)
     ·
      refine s_y rfl (v := .bool true) (y_b (y_k (v := .bool (f.fm.toList == (⟨#[]⟩ : ByteArray).toList)) rfl rfl (fun _ => by kernel_rfl)) (str_t h5)) rfl ?_
      refine s_nil (q_then (c_true rfl (c_seq (c_region ?_))))
      refine s_y rfl (v := .func (.func 80) #[] #[.pointer (some ⟨b1, 0, none⟩)]) (y_mv rfl) rfl ?_
      refine st rfl (o_lit (cs := [.func (.func 80) #[] #[.pointer (some ⟨b1, 0, none⟩)]]) (T := 137) (m := 1) rfl rfl rfl rfl (fun _ => by kernel_rfl) (fun b2 => ?_))
      refine s_y rfl (v := .slice (some ⟨b2, 0, none⟩) 1 1) (y_as rfl) rfl ?_
      refine s_y rfl (v := .int .i64 0) (y_as rfl) rfl ?_
      refine s_y rfl (v := .nilIface) (y_as rfl) rfl ?_
      refine s_nil (q_then (c_ret (q_block_ret (q_then_ret ?_))))
      refine c_fin (I' := []) [0, 0] [0, 1] rfl (.tmp rfl (.tmp rfl (.tmp rfl .nil))) rfl rfl rfl ?_
      exact .inl ⟨b2, b1, by first | exact ⟨⟨by omega, by omega, by omega⟩, .inl ⟨by assumption, by assumption⟩⟩ | exact ⟨⟨by omega, by omega, by omega⟩, .inr (.inl ⟨by assumption, by assumption⟩)⟩ | exact ⟨⟨by omega, by omega, by omega⟩, by assumption⟩ | exact filR_no (by omega) | exact filR_no1 (by assumption) (by assumption) | exact filR_no2 (by assumption) (by assumption) | exact filR_no0 (by assumption) (by assumption) (by assumption), by assumption, rfl, rfl, rfl⟩
     ·
      refine s_y rfl (v := .bool false) (y_b (y_k (v := .bool (f.fm.toList == (⟨#[]⟩ : ByteArray).toList)) rfl rfl (fun _ => by kernel_rfl)) (str_f h5)) rfl ?_
      refine s_nil (q_then (c_false rfl (c_skip (q_block (q_then (c_seq ?_))))))
      refine c_draw (l := ticked 4 0) [(⟨2, 0, none⟩, .iface 154 (.pointer (some ef)))] [] (by kernel_rfl) rfl rfl ?_
      refine b_y (i := 1) (v := .slice none 0 0) (ticked 4 2) rfl rfl (by exact y_as rfl) ?_
      refine b_y (i := 2) (v := .int .i64 0) (ticked 4 6) rfl rfl (by exact y_as rfl) ?_
      refine a_held (i := 0) (ticked 4 7) rfl (by as_aux_lemma => kernel_rfl) rfl rfl rfl (held_fact (j := 0) 0 rfl rfl held_nil) (h_ld 0 rfl rfl Tryd.underlying57 rfl) ?_
      refine b_y (i := 3) (v := .iface 154 (.pointer (some ef))) (ticked 4 15) rfl rfl (by exact y_as rfl) ?_
      refine a_done (by as_aux_lemma => kernel_rfl) ?_
      refine q_then (c_ret ?_)
      refine c_fin (I' := []) [] [0, 1] rfl (.tmp rfl (.tmp rfl (.tmp rfl .nil))) rfl rfl rfl ?_
      exact .inr (.inr (.inr ⟨by first | exact ⟨⟨by omega, by omega, by omega⟩, .inl ⟨by assumption, by assumption⟩⟩ | exact ⟨⟨by omega, by omega, by omega⟩, .inr (.inl ⟨by assumption, by assumption⟩)⟩ | exact ⟨⟨by omega, by omega, by omega⟩, by assumption⟩ | exact filR_no (by omega) | exact filR_no1 (by assumption) (by assumption) | exact filR_no2 (by assumption) (by assumption) | exact filR_no0 (by assumption) (by assumption) (by assumption), rfl, rfl, rfl⟩))
    ·
     refine s_y rfl (v := .bool false) (y_f (y_k (v := .bool (decide (f.kd = 1))) rfl rfl (fun _ => by kernel_rfl)) h4) rfl ?_
     refine s_y rfl (v := .bool false) (y_as rfl) rfl ?_
     refine s_nil (q_then (c_false rfl (c_seq (c_region ?_))))
     refine e_by (f.kd = 2) (fun h6 => ?_) (fun h6 => ?_)
     ·
      refine s_y rfl (v := .bool true) (y_t (y_k (v := .bool (decide (f.kd = 2))) rfl rfl (fun _ => by kernel_rfl)) h6) rfl ?_
      refine s_y rfl (v := .bool true) (y_as rfl) rfl ?_
      refine s_nil (q_then (c_true rfl (c_seq (c_region ?_))))
      refine s_y rfl (v := .pointer (some ⟨b1, 2, none⟩)) (y_k rfl rfl (fun _ => by kernel_rfl)) rfl ?_
      refine st rfl (o_ld 0 rfl rfl rfl Tryd.underlying9 rfl rfl ?_)
      refine st rfl (o_call [] [] (isClass_ f.fm (by first | omega | assumption)) rfl rfl rfl rfl rfl rfl (fun v L' I' hq1 => ?_))
      obtain ⟨hv1, rfl, rfl⟩ := hq1
      refine e_by (classP f.fm) (fun h7 => ?_) (fun h7 => ?_)
      ·
       obtain rfl : v = .bool true := by rw [hv1, decide_eq_true h7]
       refine s_nil (q_then (c_true rfl (c_seq (c_region ?_))))
       refine s_y rfl (v := .func (.func 80) #[] #[.pointer (some ⟨b1, 0, none⟩)]) (y_mv rfl) rfl ?_
       refine s_y rfl (v := .pointer (some ⟨b1, 2, none⟩)) (y_k rfl rfl (fun _ => by kernel_rfl)) rfl ?_
       refine st rfl (o_ld 0 rfl rfl rfl Tryd.underlying9 rfl rfl ?_)
       refine st rfl (o_call [] [] (isOf_ f.fm) rfl rfl rfl rfl rfl rfl (fun v L' I' hq2 => ?_))
       obtain ⟨k1, rfl, rfl, rfl⟩ := hq2
       refine st rfl (o_lit (cs := [.func (.func 80) #[] #[.pointer (some ⟨b1, 0, none⟩)], .func (.func 85) #[] #[.pointer (some ⟨k1, 0, none⟩)]]) (T := 137) (m := 2) rfl rfl rfl rfl (fun _ => by kernel_rfl) (fun b3 => ?_))
       refine s_y rfl (v := .slice (some ⟨b3, 0, none⟩) 2 2) (y_as rfl) rfl ?_
       refine s_y rfl (v := .int .i64 0) (y_as rfl) rfl ?_
       refine s_y rfl (v := .nilIface) (y_as rfl) rfl ?_
       refine s_nil (q_then (c_ret (q_block_ret (q_then_ret ?_))))
       refine c_fin (I' := []) [0, 1, 0] [0, 1] rfl (.tmp rfl (.tmp rfl (.tmp rfl .nil))) rfl rfl rfl ?_
       exact .inr (.inl ⟨b3, b1, k1, by first | exact ⟨⟨by omega, by omega, by omega⟩, .inl ⟨by assumption, by assumption⟩⟩ | exact ⟨⟨by omega, by omega, by omega⟩, .inr (.inl ⟨by assumption, by assumption⟩)⟩ | exact ⟨⟨by omega, by omega, by omega⟩, by assumption⟩ | exact filR_no (by omega) | exact filR_no1 (by assumption) (by assumption) | exact filR_no2 (by assumption) (by assumption) | exact filR_no0 (by assumption) (by assumption) (by assumption), by assumption, rfl, rfl, rfl⟩)
      ·
       obtain rfl : v = .bool false := by rw [hv1, decide_eq_false h7]
       refine s_nil (q_then (c_false rfl (c_skip (q_block (q_then (c_seq ?_))))))
       refine c_draw (l := ticked 4 0) [(⟨2, 0, none⟩, .iface 154 (.pointer (some ef)))] [] (by kernel_rfl) rfl rfl ?_
       refine b_y (i := 1) (v := .slice none 0 0) (ticked 4 2) rfl rfl (by exact y_as rfl) ?_
       refine b_y (i := 2) (v := .int .i64 0) (ticked 4 6) rfl rfl (by exact y_as rfl) ?_
       refine a_held (i := 0) (ticked 4 7) rfl (by as_aux_lemma => kernel_rfl) rfl rfl rfl (held_fact (j := 0) 0 rfl rfl held_nil) (h_ld 0 rfl rfl Tryd.underlying57 rfl) ?_
       refine b_y (i := 3) (v := .iface 154 (.pointer (some ef))) (ticked 4 15) rfl rfl (by exact y_as rfl) ?_
       refine a_done (by as_aux_lemma => kernel_rfl) ?_
       refine q_then (c_ret ?_)
       refine c_fin (I' := []) [] [0, 1] rfl (.tmp rfl (.tmp rfl (.tmp rfl .nil))) rfl rfl rfl ?_
       exact .inr (.inr (.inr ⟨by first | exact ⟨⟨by omega, by omega, by omega⟩, .inl ⟨by assumption, by assumption⟩⟩ | exact ⟨⟨by omega, by omega, by omega⟩, .inr (.inl ⟨by assumption, by assumption⟩)⟩ | exact ⟨⟨by omega, by omega, by omega⟩, by assumption⟩ | exact filR_no (by omega) | exact filR_no1 (by assumption) (by assumption) | exact filR_no2 (by assumption) (by assumption) | exact filR_no0 (by assumption) (by assumption) (by assumption), rfl, rfl, rfl⟩))
     ·
      refine s_y rfl (v := .bool false) (y_f (y_k (v := .bool (decide (f.kd = 2))) rfl rfl (fun _ => by kernel_rfl)) h6) rfl ?_
      refine s_y rfl (v := .bool false) (y_as rfl) rfl ?_
      refine s_nil (q_then (c_false rfl (c_seq (c_region ?_))))
      refine e_by (f.kd = 3) (fun h8 => ?_) (fun h8 => ?_)
      ·
       refine s_y rfl (v := .bool true) (y_t (y_k (v := .bool (decide (f.kd = 3))) rfl rfl (fun _ => by kernel_rfl)) h8) rfl ?_
       refine s_y rfl (v := .bool true) (y_as rfl) rfl ?_
       refine s_nil (q_then (c_true rfl (c_seq (c_region ?_))))
       refine s_y rfl (v := .pointer (some ⟨b1, 2, none⟩)) (y_k rfl rfl (fun _ => by kernel_rfl)) rfl ?_
       refine st rfl (o_ld 0 rfl rfl rfl Tryd.underlying9 rfl rfl ?_)
       refine st rfl (o_call [] [0, 1] (record_ f.fm ef (by first | omega | assumption)) rfl rfl rfl rfl rfl rfl (fun v L' I' hq3 => ?_))
       obtain ⟨rfl, rfl, rfl⟩ := hq3
       refine s_y rfl (v := .tuple #[.string ((recF f.fm).1), fefV ef ((recF f.fm).2)]) (y_mv rfl) rfl ?_
       refine s_y rfl (v := .string ((recF f.fm).1)) (y_k rfl rfl (fun _ => by kernel_rfl)) rfl ?_
       refine s_y rfl (v := fefV ef ((recF f.fm).2)) (y_k rfl rfl (fun _ => by kernel_rfl)) rfl ?_
       refine s_y rfl (v := .string ((recF f.fm).1)) (y_as rfl) rfl ?_
       refine s_y rfl (v := fefV ef ((recF f.fm).2)) (y_as rfl) rfl ?_
       refine s_nil (q_then (c_seq (c_region ?_)))
       refine s_y rfl (v := .func (.func 80) #[] #[.pointer (some ⟨b1, 0, none⟩)]) (y_mv rfl) rfl ?_
       refine s_y rfl (v := .string ((recF f.fm).1)) (y_mv rfl) rfl ?_
       refine st rfl (o_call [] [] (isIn_ ((recF f.fm).1)) rfl rfl rfl rfl rfl rfl (fun v L' I' hq4 => ?_))
       obtain ⟨k2, rfl, rfl, rfl⟩ := hq4
       refine st rfl (o_lit (cs := [.func (.func 80) #[] #[.pointer (some ⟨b1, 0, none⟩)], .func (.func 87) #[] #[.pointer (some ⟨k2, 0, none⟩)]]) (T := 137) (m := 2) rfl rfl rfl rfl (fun _ => by kernel_rfl) (fun b4 => ?_))
       refine s_y rfl (v := .string ((recF f.fm).1)) (y_mv rfl) rfl ?_
       refine s_y rfl (v := .int .i64 (((recF f.fm).1).size : Int)) (y_k rfl rfl (fun _ => by kernel_rfl)) rfl ?_
       refine s_y rfl (v := fefV ef ((recF f.fm).2)) (y_mv rfl) rfl ?_
       refine s_y rfl (v := .slice (some ⟨b4, 0, none⟩) 2 2) (y_as rfl) rfl ?_
       refine s_y rfl (v := .int .i64 (((recF f.fm).1).size : Int)) (y_as rfl) rfl ?_
       refine s_y rfl (v := fefV ef ((recF f.fm).2)) (y_as rfl) rfl ?_
       refine s_nil (q_then (c_ret (q_block_ret (q_then_ret ?_))))
       refine c_fin (I' := []) [0, 1, 0] [0, 1] rfl (.tmp rfl (.tmp rfl (.tmp rfl .nil))) rfl rfl rfl ?_
       exact .inr (.inr (.inl ⟨b4, b1, k2, by first | exact ⟨⟨by omega, by omega, by omega⟩, .inl ⟨by assumption, by assumption⟩⟩ | exact ⟨⟨by omega, by omega, by omega⟩, .inr (.inl ⟨by assumption, by assumption⟩)⟩ | exact ⟨⟨by omega, by omega, by omega⟩, by assumption⟩ | exact filR_no (by omega) | exact filR_no1 (by assumption) (by assumption) | exact filR_no2 (by assumption) (by assumption) | exact filR_no0 (by assumption) (by assumption) (by assumption), by assumption, rfl, rfl, rfl⟩))
      ·
       refine s_y rfl (v := .bool false) (y_f (y_k (v := .bool (decide (f.kd = 3))) rfl rfl (fun _ => by kernel_rfl)) h8) rfl ?_
       refine s_y rfl (v := .bool false) (y_as rfl) rfl ?_
       refine s_nil (q_then (c_false rfl (c_skip (q_block (q_then (c_seq ?_))))))
       refine c_draw (l := ticked 4 0) [(⟨2, 0, none⟩, .iface 154 (.pointer (some ef)))] [] (by kernel_rfl) rfl rfl ?_
       refine b_y (i := 1) (v := .slice none 0 0) (ticked 4 2) rfl rfl (by exact y_as rfl) ?_
       refine b_y (i := 2) (v := .int .i64 0) (ticked 4 6) rfl rfl (by exact y_as rfl) ?_
       refine a_held (i := 0) (ticked 4 7) rfl (by as_aux_lemma => kernel_rfl) rfl rfl rfl (held_fact (j := 0) 0 rfl rfl held_nil) (h_ld 0 rfl rfl Tryd.underlying57 rfl) ?_
       refine b_y (i := 3) (v := .iface 154 (.pointer (some ef))) (ticked 4 15) rfl rfl (by exact y_as rfl) ?_
       refine a_done (by as_aux_lemma => kernel_rfl) ?_
       refine q_then (c_ret ?_)
       refine c_fin (I' := []) [] [0, 1] rfl (.tmp rfl (.tmp rfl (.tmp rfl .nil))) rfl rfl rfl ?_
       exact .inr (.inr (.inr ⟨by first | exact ⟨⟨by omega, by omega, by omega⟩, .inl ⟨by assumption, by assumption⟩⟩ | exact ⟨⟨by omega, by omega, by omega⟩, .inr (.inl ⟨by assumption, by assumption⟩)⟩ | exact ⟨⟨by omega, by omega, by omega⟩, by assumption⟩ | exact filR_no (by omega) | exact filR_no1 (by assumption) (by assumption) | exact filR_no2 (by assumption) (by assumption) | exact filR_no0 (by assumption) (by assumption) (by assumption), rfl, rfl, rfl⟩))
theorem fRight_ (f : Fil) (ef : Addr) (hsz : f.fm.size ≤ 1000) : Con Tryd.prog 79 [.agg #[.int .i64 f.kd, .int .i64 f.mx, .string f.fm]] [] [cellsAt 2 0 [.iface 154 (.pointer (some ef))], errAt ef] (fun v L' I' => v = .bool (decide (filR f)) ∧ L' = [] ∧ I' = []) := by
 refine fn_of Tryd.func79 rfl Tryd.ntmps79 (by kernel_rfl) rfl (fun C => ?_)
 refine c_seq (c_region ?_)
 refine st rfl (o_box (cs := [.int .i64 f.kd, .int .i64 f.mx, .string f.fm]) (T := 39) rfl rfl rfl rfl (fun _ => by kernel_rfl) (fun b1 => ?_))
 refine s_y rfl (v := .bool false) (y_as rfl) rfl ?_
 refine s_nil (q_then (c_seq (c_region ?_)))
 refine st rfl (o_ldn 0 3 rfl rfl rfl rfl Tryd.underlying39 rfl (by kernel_rfl) (by kernel_rfl) rfl ?_)
 refine st rfl (o_call [] [0, 1] (fchecked_ f ef (by first | omega | assumption)) rfl rfl rfl rfl rfl rfl (fun v L' I' hq1 => ?_))
 rcases hq1 with ⟨b2, b3, h1, h2, rfl, rfl, rfl⟩ | ⟨b4, b5, b6, h3, h4, rfl, rfl, rfl⟩ | ⟨b7, b8, b9, h5, h6, rfl, rfl, rfl⟩ | ⟨h7, rfl, rfl, rfl⟩
 ·
  refine s_y rfl (v := .tuple #[.slice (some ⟨b2, 0, none⟩) 1 1, .int .i64 0, .nilIface]) (y_mv rfl) rfl ?_
  refine s_y rfl (v := .slice (some ⟨b2, 0, none⟩) 1 1) (y_k rfl rfl (fun _ => by kernel_rfl)) rfl ?_
  refine s_y rfl (v := .int .i64 0) (y_k rfl rfl (fun _ => by kernel_rfl)) rfl ?_
  refine s_y rfl (v := .nilIface) (y_k rfl rfl (fun _ => by kernel_rfl)) rfl ?_
  refine s_y rfl (v := .slice (some ⟨b2, 0, none⟩) 1 1) (y_as rfl) rfl ?_
  refine s_y rfl (v := .int .i64 0) (y_as rfl) rfl ?_
  refine s_y rfl (v := .nilIface) (y_as rfl) rfl ?_
  refine s_nil (q_then (c_seq (c_region ?_)))
  refine s_y rfl (v := .nilIface) (y_mv rfl) rfl ?_
  refine s_y rfl (v := .bool true) (y_k rfl rfl (fun _ => by kernel_rfl)) rfl ?_
  refine s_y rfl (v := .bool true) (y_as rfl) rfl ?_
  refine s_nil (q_then (c_ret ?_))
  refine c_fin (I' := []) [] [0, 1] rfl (.tmp rfl .nil) rfl rfl rfl ?_
  exact ⟨dec_t (by first | assumption | exact (filR_3 (by assumption)).2 (by assumption) | exact fun q => absurd ((filR_3 (by assumption)).1 q) (by assumption)), rfl, rfl⟩
 ·
  refine s_y rfl (v := .tuple #[.slice (some ⟨b4, 0, none⟩) 2 2, .int .i64 0, .nilIface]) (y_mv rfl) rfl ?_
  refine s_y rfl (v := .slice (some ⟨b4, 0, none⟩) 2 2) (y_k rfl rfl (fun _ => by kernel_rfl)) rfl ?_
  refine s_y rfl (v := .int .i64 0) (y_k rfl rfl (fun _ => by kernel_rfl)) rfl ?_
  refine s_y rfl (v := .nilIface) (y_k rfl rfl (fun _ => by kernel_rfl)) rfl ?_
  refine s_y rfl (v := .slice (some ⟨b4, 0, none⟩) 2 2) (y_as rfl) rfl ?_
  refine s_y rfl (v := .int .i64 0) (y_as rfl) rfl ?_
  refine s_y rfl (v := .nilIface) (y_as rfl) rfl ?_
  refine s_nil (q_then (c_seq (c_region ?_)))
  refine s_y rfl (v := .nilIface) (y_mv rfl) rfl ?_
  refine s_y rfl (v := .bool true) (y_k rfl rfl (fun _ => by kernel_rfl)) rfl ?_
  refine s_y rfl (v := .bool true) (y_as rfl) rfl ?_
  refine s_nil (q_then (c_ret ?_))
  refine c_fin (I' := []) [] [0, 1] rfl (.tmp rfl .nil) rfl rfl rfl ?_
  exact ⟨dec_t (by first | assumption | exact (filR_3 (by assumption)).2 (by assumption) | exact fun q => absurd ((filR_3 (by assumption)).1 q) (by assumption)), rfl, rfl⟩
 ·
  refine s_y rfl (v := .tuple #[.slice (some ⟨b7, 0, none⟩) 2 2, .int .i64 ((recF f.fm).1.size : Int), fefV ef ((recF f.fm).2)]) (y_mv rfl) rfl ?_
  refine s_y rfl (v := .slice (some ⟨b7, 0, none⟩) 2 2) (y_k rfl rfl (fun _ => by kernel_rfl)) rfl ?_
  refine s_y rfl (v := .int .i64 ((recF f.fm).1.size : Int)) (y_k rfl rfl (fun _ => by kernel_rfl)) rfl ?_
  refine s_y rfl (v := fefV ef ((recF f.fm).2)) (y_k rfl rfl (fun _ => by kernel_rfl)) rfl ?_
  refine s_y rfl (v := .slice (some ⟨b7, 0, none⟩) 2 2) (y_as rfl) rfl ?_
  refine s_y rfl (v := .int .i64 ((recF f.fm).1.size : Int)) (y_as rfl) rfl ?_
  refine s_y rfl (v := fefV ef ((recF f.fm).2)) (y_as rfl) rfl ?_
  refine s_nil (q_then (c_seq (c_region ?_)))
  refine s_y rfl (v := fefV ef ((recF f.fm).2)) (y_mv rfl) rfl ?_
  refine e_by ((recF f.fm).2 = false) (fun h8 => ?_) (fun h8 => ?_)
  ·
   refine s_y rfl (v := .bool true) (y_t (y_bin rfl rfl (fun w => fef_eq ef ((recF f.fm).2) _ w)) h8) rfl ?_
   refine s_y rfl (v := .bool true) (y_as rfl) rfl ?_
   refine s_nil (q_then (c_ret ?_))
   refine c_fin (I' := []) [] [0, 1] rfl (.tmp rfl .nil) rfl rfl rfl ?_
   exact ⟨dec_t (by first | assumption | exact (filR_3 (by assumption)).2 (by assumption) | exact fun q => absurd ((filR_3 (by assumption)).1 q) (by assumption)), rfl, rfl⟩
  ·
   refine s_y rfl (v := .bool false) (y_f (y_bin rfl rfl (fun w => fef_eq ef ((recF f.fm).2) _ w)) h8) rfl ?_
   refine s_y rfl (v := .bool false) (y_as rfl) rfl ?_
   refine s_nil (q_then (c_ret ?_))
   refine c_fin (I' := []) [] [0, 1] rfl (.tmp rfl .nil) rfl rfl rfl ?_
   exact ⟨dec_f (by first | assumption | exact (filR_3 (by assumption)).2 (by assumption) | exact fun q => absurd ((filR_3 (by assumption)).1 q) (by assumption)), rfl, rfl⟩
 ·
  refine s_y rfl (v := .tuple #[.slice none 0 0, .int .i64 0, .iface 154 (.pointer (some ef))]) (y_mv rfl) rfl ?_
  refine s_y rfl (v := .slice none 0 0) (y_k rfl rfl (fun _ => by kernel_rfl)) rfl ?_
  refine s_y rfl (v := .int .i64 0) (y_k rfl rfl (fun _ => by kernel_rfl)) rfl ?_
  refine s_y rfl (v := .iface 154 (.pointer (some ef))) (y_k rfl rfl (fun _ => by kernel_rfl)) rfl ?_
  refine s_y rfl (v := .slice none 0 0) (y_as rfl) rfl ?_
  refine s_y rfl (v := .int .i64 0) (y_as rfl) rfl ?_
  refine s_y rfl (v := .iface 154 (.pointer (some ef))) (y_as rfl) rfl ?_
  refine s_nil (q_then (c_seq (c_region ?_)))
  refine s_y rfl (v := .iface 154 (.pointer (some ef))) (y_mv rfl) rfl ?_
  refine s_y rfl (v := .bool false) (y_k rfl rfl (fun _ => by kernel_rfl)) rfl ?_
  refine s_y rfl (v := .bool false) (y_as rfl) rfl ?_
  refine s_nil (q_then (c_ret ?_))
  refine c_fin (I' := []) [] [0, 1] rfl (.tmp rfl .nil) rfl rfl rfl ?_
  exact ⟨dec_f (by first | assumption | exact (filR_3 (by assumption)).2 (by assumption) | exact fun q => absurd ((filR_3 (by assumption)).1 q) (by assumption)), rfl, rfl⟩
end Go.Proofs.YthehnjbdkjnlpaaDoor
