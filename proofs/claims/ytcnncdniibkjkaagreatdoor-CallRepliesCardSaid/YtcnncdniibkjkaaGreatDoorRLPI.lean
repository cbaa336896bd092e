/- The laws of chapter 17 (call), walked over the given program; no condition but what stands in each theorem: part LPI. -/
import Derived.Test.YtcnncdniibkjkaaGreatDoorRLPH
set_option linter.unusedVariables false
set_option linter.unusedSimpArgs false
set_option maxRecDepth 100000
set_option maxHeartbeats 8000000
namespace Go.Proofs.YtcnncdniibkjkaaGreatDoor
open Go Go.Sl Go.RowKit Go.Extern.Stop Go.Stop Go.Extern
theorem fewr_ (e : Int) (n : Int) (d : ByteArray) (A : Option Addr) (c : Nat) (l : List ByteArray) (a : Lab) (hzd : d.size ≤ 9223372036854775807) (hzt : ∀ t ∈ l, t.size ≤ 9223372036854775807) : Con Tryz.prog 14 [.agg #[.int .i64 e, .int .i64 n, .string d, .slice A l.length c, .int .i64 a.lv, .int .u64 (a.cs : Int), .int .i64 a.ig]] [] [rd strTy A c l] (fun v L' I' => ∃ A1 : Option Addr, ∃ c1 : Nat, v = .agg #[.int .i64 e, .int .i64 n, .string (cutW d), .slice A1 (fewT l).length c1, .int .i64 a.lv, .int .u64 (a.cs : Int), .int .i64 a.ig] ∧ L' = [ars strTy 9 A1 c1 (fewT l)] ∧ I' = []) := by
 refine fn_of Tryz.func14 rfl Tryz.ntmps14 (by kernel_rfl) rfl (fun C => ?_)
 refine c_seq (c_region ?_)
 refine st rfl (o_box (cs := [.int .i64 e, .int .i64 n, .string d, .slice A l.length c, .int .i64 a.lv, .int .u64 (a.cs : Int), .int .i64 a.ig]) (T := 39) rfl rfl rfl rfl (fun _ => by kernel_rfl) (fun b1 => ?_))
 refine st rfl (o_box (cs := [.int .i64 0, .int .i64 0, .string (⟨#[]⟩ : ByteArray), .slice none 0 0, .int .i64 0, .int .u64 0, .int .i64 0]) (T := 39) rfl rfl rfl rfl (fun _ => by kernel_rfl) (fun b2 => ?_))
 refine s_nil (q_then (c_seq ?_))
 refine c_drawx (l := ticked 12 0) [(⟨b1, 0, none⟩, .int .i64 e), (⟨b1, 1, none⟩, .int .i64 n), (⟨b1, 2, none⟩, .string d), (⟨b1, 4, none⟩, .int .i64 a.lv), (⟨b1, 5, none⟩, .int .u64 (a.cs : Int)), (⟨b1, 6, none⟩, .int .i64 a.ig)] [] (by kernel_rfl) rfl rfl (fun Y back => ?_)
 have cut1 : ∀ (b3 : Nat), Ent 38 C [(1, .pointer (some ⟨b1, 0, none⟩)), (2, .pointer (some ⟨b2, 0, none⟩)), (3, .pointer (some ⟨b3, 0, none⟩))] [] [pt b3 [.int .i64 e, .int .i64 n, .string (cutW d), .slice none 0 0, .int .i64 a.lv, .int .u64 (a.cs : Int), .int .i64 a.ig] 39, pt b2 [.int .i64 0, .int .i64 0, .string (⟨#[]⟩ : ByteArray), .slice none 0 0, .int .i64 0, .int .u64 0, .int .i64 0] 39, pt b1 [.int .i64 e, .int .i64 n, .string d, .slice A l.length c, .int .i64 a.lv, .int .u64 (a.cs : Int), .int .i64 a.ig] 39] [rd strTy A c l] Y := by
  intro b3
  refine back ?_
  refine q_then (c_seq (c_seq (c_region ?_)))
  refine s_y rfl (v := .int .i64 0) (y_as rfl) rfl ?_
  refine s_nil (q_then (c_block ?_))
  refine e_nil strTy 9 ?_
  refine c_loopn (ι := Nat × (Option Addr) × Nat × (List ByteArray)) (fun (k, A2, c2, acc) => (k ≤ 20) ∧ (k ≤ l.length) ∧ (acc = (l.take k).map shortW)) (fun (k, A2, c2, acc) => [(1, .pointer (some ⟨b1, 0, none⟩)), (2, .pointer (some ⟨b2, 0, none⟩)), (3, .pointer (some ⟨b3, 0, none⟩)), (4, .int .i64 (k : Int))]) (fun (k, A2, c2, acc) => [pt b3 [.int .i64 e, .int .i64 n, .string (cutW d), .slice A2 acc.length c2, .int .i64 a.lv, .int .u64 (a.cs : Int), .int .i64 a.ig] 39, pt b2 [.int .i64 0, .int .i64 0, .string (⟨#[]⟩ : ByteArray), .slice none 0 0, .int .i64 0, .int .u64 0, .int .i64 0] 39, pt b1 [.int .i64 e, .int .i64 n, .string d, .slice A l.length c, .int .i64 a.lv, .int .u64 (a.cs : Int), .int .i64 a.ig] 39, ars strTy 9 A2 c2 acc]) (fun (k, A2, c2, acc) => [rd strTy A c l]) (fun (k, A2, c2, acc) => 20 - k) (0, none, 0, []) [1, 1, 1, 0] [0] (show (0 ≤ 20) ∧ (0 ≤ l.length) ∧ ([] = (l.take 0).map shortW) from ⟨by first | omega | simp_all | (simp; done), by first | omega | simp_all | (simp; done), rfl⟩) ((.cons rfl rfl (.cons rfl rfl (.cons rfl rfl (.cons rfl rfl .nil))))) rfl rfl ?_
  rintro ⟨k, A2, c2, acc⟩ ⟨hk, hl, ha⟩
  show Ent 38 C [(1, .pointer (some ⟨b1, 0, none⟩)), (2, .pointer (some ⟨b2, 0, none⟩)), (3, .pointer (some ⟨b3, 0, none⟩)), (4, .int .i64 (k : Int))] [] [pt b3 [.int .i64 e, .int .i64 n, .string (cutW d), .slice A2 acc.length c2, .int .i64 a.lv, .int .u64 (a.cs : Int), .int .i64 a.ig] 39, pt b2 [.int .i64 0, .int .i64 0, .string (⟨#[]⟩ : ByteArray), .slice none 0 0, .int .i64 0, .int .u64 0, .int .i64 0] 39, pt b1 [.int .i64 e, .int .i64 n, .string d, .slice A l.length c, .int .i64 a.lv, .int .u64 (a.cs : Int), .int .i64 a.ig] 39, ars strTy 9 A2 c2 acc] [rd strTy A c l] _
  refine c_seq (c_seq (c_region ?_))
  refine s_y rfl (v := .int .i64 (k : Int)) (y_mv rfl) rfl ?_
  refine s_y rfl (v := .pointer (some ⟨b1, 3, none⟩)) (y_k rfl rfl (fun _ => by kernel_rfl)) rfl ?_
  refine st rfl (o_ld 2 rfl rfl rfl Tryz.underlying37 rfl rfl ?_)
  refine s_y rfl (v := .int .i64 (l.length : Int)) (y_k rfl rfl (fun _ => by kernel_rfl)) rfl ?_
  refine e_by ((k : Int) < (l.length : Int)) (fun h1 => ?_) (fun h1 => ?_)
  ·
   refine s_y rfl (v := .bool true) (y_t (y_k (v := .bool (decide ((k : Int) < (l.length : Int)))) rfl rfl (fun _ => by kernel_rfl)) h1) rfl ?_
   refine s_y rfl (v := .bool true) (y_mv rfl) rfl ?_
   refine st_on 20 rfl rfl rfl (o_y (v := .int .i64 (k : Int)) (y_mv rfl) rfl rfl rfl ?_)
   refine e_by ((k : Int) < 20) (fun h2 => ?_) (fun h2 => ?_)
   ·
    refine st_on 20 rfl rfl rfl (o_y (v := .bool true) (y_t (y_k (v := .bool (decide ((k : Int) < 20))) rfl rfl (fun _ => by kernel_rfl)) h2) rfl rfl rfl ?_)
    refine s_y rfl (v := .bool true) (y_pick rfl rfl) rfl ?_
    refine s_nil (q_then (c_true rfl (c_skip (q_then (c_seq (c_block ?_))))))
    refine e_at 0 k rfl (by omega) (fun b4 o1 x1 hA1 hx1 => ?_)
    refine c_draw (l := ticked 12 0) [(⟨b3, 3, none⟩, .slice A2 acc.length c2), (⟨b1, 3, none⟩, .slice A l.length c), (⟨b4, o1 + k * 1, none⟩, .string x1)] [11] (by kernel_rfl) rfl rfl ?_
    refine b_y (i := 0) (v := .pointer (some ⟨b3, 3, none⟩)) (ticked 12 1) rfl rfl (by exact y_k rfl rfl (fun _ => by kernel_rfl)) ?_
    refine b_y (i := 2) (v := .pointer (some ⟨b1, 3, none⟩)) (ticked 12 5) rfl rfl (by exact y_k rfl rfl (fun _ => by kernel_rfl)) ?_
    refine b_y (i := 4) (v := .int .i64 (k : Int)) (ticked 12 21) rfl rfl (by exact y_mv rfl) ?_
    refine a_held (i := 1) (ticked 12 23) rfl (by as_aux_lemma => kernel_rfl) rfl rfl rfl (held_pt 0 rfl rfl (held_pt 2 rfl rfl (held_fact (j := 0) 0 rfl rfl held_nil))) (h_ld 0 rfl rfl Tryz.underlying37 rfl) ?_
    refine a_held (i := 3) (ticked 12 31) rfl (by as_aux_lemma => kernel_rfl) rfl rfl rfl (held_pt 0 rfl rfl (held_pt 2 rfl rfl (held_fact (j := 0) 0 rfl rfl held_nil))) (h_ld 1 rfl rfl Tryz.underlying37 rfl) ?_
    refine b_y (i := 5) (v := .pointer (some ⟨b4, o1 + k * 1, none⟩)) (ticked 12 63) rfl rfl (by exact y_at (d := strTy) (l := l) k hA1 rfl rfl rfl (rfl) (List.getElem?_eq_some_iff.1 hx1).1 Tryz.underlying37 (by kernel_rfl) (by kernel_rfl)) ?_
    refine a_held (i := 6) (ticked 12 127) rfl (by as_aux_lemma => kernel_rfl) rfl rfl rfl (held_pt 0 rfl rfl (held_pt 2 rfl rfl (held_fact (j := 0) 0 rfl rfl held_nil))) (h_ld 2 rfl rfl Tryz.underlying9 rfl) ?_
    refine a_each (rs := [7]) (by as_aux_lemma => kernel_rfl) (.cons (ticked 12 255) rfl rfl rfl (o_call [] [] (shortw_ x1 (hzt _ (List.mem_of_getElem? (by assumption)))) rfl rfl rfl rfl rfl rfl (fun v L' I' hq1 => ?_)) .nil) (List.cons_ne_nil _ _)
    obtain ⟨rfl, rfl, rfl⟩ := hq1
    refine a_and (held_pt 0 rfl rfl (held_pt 2 rfl rfl (held_fact (j := 0) 0 rfl rfl held_nil))) ?_
    refine a_each (rs := [8]) (by as_aux_lemma => kernel_rfl) (.cons (ticked 12 511) rfl rfl rfl (o_lit (cs := [.string (shortW x1)]) (T := 9) (m := 1) rfl rfl rfl rfl (fun _ => by kernel_rfl) (fun b5 => ?_)) .nil) (List.cons_ne_nil _ _)
    refine a_and (held_pt 1 rfl rfl (held_pt 3 rfl rfl (held_fact (j := 0) 0 rfl rfl held_nil))) ?_
    refine a_each (rs := [9]) (by as_aux_lemma => kernel_rfl) (.cons (ticked 12 1023) rfl rfl rfl (o_app (l := acc) (us := [shortW x1]) 4 rfl rfl rfl rfl rfl (src_pt 0 rfl) Tryz.underlying37 (elem_of (z := .string (⟨#[]⟩ : ByteArray)) (sz := 1) (bytes := 16) (by kernel_rfl) rfl) rfl (by simp only [ha, List.length_map, List.length_take, List.length_cons, List.length_nil]; omega) rfl rfl (fun A1 c1 => ?_)) .nil) (List.cons_ne_nil _ _)
    refine a_and (held_pt 1 rfl rfl (held_pt 3 rfl rfl (held_fact (j := 0) 0 rfl rfl held_nil))) ?_
    refine b_y (i := 10) (v := .pointer (some ⟨b3, 3, none⟩)) (ticked 12 2047) rfl rfl (by exact y_k rfl rfl (fun _ => by kernel_rfl)) ?_
    refine a_each (rs := [11]) (by as_aux_lemma => kernel_rfl) (.last (ticked 12 4095) rfl rfl rfl rfl (o_st 1 rfl rfl rfl rfl rfl (by kernel_rfl) (by kernel_rfl) rfl ?_) .nil) (List.cons_ne_nil _ _)
    refine a_done (by as_aux_lemma => kernel_rfl) ?_
    refine q_block (q_then (c_region ?_))
    refine s_y rfl (v := .int .i64 (k : Int)) (y_mv rfl) rfl ?_
    refine s_y rfl (v := .int .i64 ((k : Int) + 1)) (y_add (r := (k : Int) + 1) rfl rfl rfl (by omega)) rfl ?_
    refine s_y rfl (v := .int .i64 ((k : Int) + 1)) (y_as rfl) rfl ?_
    refine s_nil (q_then ?_)
    refine c_next [1, 1, 1, 1] [1] (k + 1, A1, c1, acc ++ [shortW x1]) ?_ ?_ ?_ (by rfl) (by rfl)
    · exact (show ((k + 1) ≤ 20) ∧ ((k + 1) ≤ l.length) ∧ ((acc ++ [shortW x1]) = (l.take (k + 1)).map shortW) from ⟨by first | omega | simp_all | (simp; done), by first | omega | simp_all | (simp; done), fewt_step ha hx1⟩)
    · show 20 - (k + 1) < 20 - k; omega
    · exact (.cons rfl rfl (.cons rfl rfl (.cons rfl rfl (.cons rfl (show (.int .i64 ((k : Int) + 1) : Value) = .int .i64 ((k + 1) : Int) from by first | rfl | (congr 1; omega) | (congr 1; simp; done) | (congr 1; simp; omega)) .nil))))
   ·
    refine st_on 20 rfl rfl rfl (o_y (v := .bool false) (y_f (y_k (v := .bool (decide ((k : Int) < 20))) rfl rfl (fun _ => by kernel_rfl)) h2) rfl rfl rfl ?_)
    refine s_y rfl (v := .bool false) (y_pick rfl rfl) rfl ?_
    refine s_nil (q_then (c_false rfl ?_))
    refine c_exit ?_
    refine q_then_exit ?_
    refine q_then_exit ?_
    refine q_block_here ?_
    refine q_then (c_seq (c_region ?_))
    refine st rfl (o_ldn 0 7 rfl rfl rfl rfl Tryz.underlying39 rfl (by kernel_rfl) (by kernel_rfl) rfl ?_)
    refine st rfl (o_st 1 rfl rfl rfl rfl rfl (by kernel_rfl) (by kernel_rfl) rfl ?_)
    refine s_nil (q_then (c_ret ?_))
    obtain rfl : acc = fewT l := fewt_end (by assumption) (by assumption) (by first | (left; omega) | (right; omega))
    refine c_fin (I' := []) [3] [0] rfl (.agg 1 7 rfl rfl rfl rfl Tryz.underlying39 rfl (by kernel_rfl) (by kernel_rfl) .nil) rfl rfl rfl ?_
    exact ⟨A2, c2, rfl, rfl, rfl⟩
  ·
   refine s_y rfl (v := .bool false) (y_f (y_k (v := .bool (decide ((k : Int) < (l.length : Int)))) rfl rfl (fun _ => by kernel_rfl)) h1) rfl ?_
   refine s_y rfl (v := .bool false) (y_mv rfl) rfl ?_
   refine st_off 20 rfl rfl rfl rfl rfl rfl ?_
   refine st_off 20 rfl rfl rfl rfl rfl rfl ?_
   refine s_y rfl (v := .bool false) (y_pick rfl rfl) rfl ?_
   refine s_nil (q_then (c_false rfl ?_))
   refine c_exit ?_
   refine q_then_exit ?_
   refine q_then_exit ?_
   refine q_block_here ?_
   refine q_then (c_seq (c_region ?_))
   refine st rfl (o_ldn 0 7 rfl rfl rfl rfl Tryz.underlying39 rfl (by kernel_rfl) (by kernel_rfl) rfl ?_)
   refine st rfl (o_st 1 rfl rfl rfl rfl rfl (by kernel_rfl) (by kernel_rfl) rfl ?_)
   refine s_nil (q_then (c_ret ?_))
   obtain rfl : acc = fewT l := fewt_end (by assumption) (by assumption) (by first | (left; omega) | (right; omega))
   refine c_fin (I' := []) [3] [0] rfl (.agg 1 7 rfl rfl rfl rfl Tryz.underlying39 rfl (by kernel_rfl) (by kernel_rfl) .nil) rfl rfl rfl ?_
   exact ⟨A2, c2, rfl, rfl, rfl⟩
 refine b_y (i := 0) (v := .pointer (some ⟨b1, 0, none⟩)) (ticked 12 1) rfl rfl (by exact y_k rfl rfl (fun _ => by kernel_rfl)) ?_
 refine b_y (i := 2) (v := .pointer (some ⟨b1, 1, none⟩)) (ticked 12 5) rfl rfl (by exact y_k rfl rfl (fun _ => by kernel_rfl)) ?_
 refine b_y (i := 4) (v := .pointer (some ⟨b1, 2, none⟩)) (ticked 12 21) rfl rfl (by exact y_k rfl rfl (fun _ => by kernel_rfl)) ?_
 refine b_y (i := 7) (v := .pointer (some ⟨b1, 4, none⟩)) (ticked 12 149) rfl rfl (by exact y_k rfl rfl (fun _ => by kernel_rfl)) ?_
 refine a_held (i := 1) (ticked 12 151) rfl (by as_aux_lemma => kernel_rfl) rfl rfl rfl (held_pt 1 rfl rfl (held_pt 1 rfl rfl (held_pt 1 rfl rfl (held_pt 1 rfl rfl (held_pt 1 rfl rfl (held_pt 1 rfl rfl held_nil)))))) (h_ld 0 rfl rfl Tryz.underlying29 rfl) ?_
 refine a_held (i := 3) (ticked 12 159) rfl (by as_aux_lemma => kernel_rfl) rfl rfl rfl (held_pt 1 rfl rfl (held_pt 1 rfl rfl (held_pt 1 rfl rfl (held_pt 1 rfl rfl (held_pt 1 rfl rfl (held_pt 1 rfl rfl held_nil)))))) (h_ld 1 rfl rfl Tryz.underlying3 rfl) ?_
 refine a_held (i := 5) (ticked 12 191) rfl (by as_aux_lemma => kernel_rfl) rfl rfl rfl (held_pt 1 rfl rfl (held_pt 1 rfl rfl (held_pt 1 rfl rfl (held_pt 1 rfl rfl (held_pt 1 rfl rfl (held_pt 1 rfl rfl held_nil)))))) (h_ld 2 rfl rfl Tryz.underlying9 rfl) ?_
 refine a_held (i := 8) (ticked 12 447) rfl (by as_aux_lemma => kernel_rfl) rfl rfl rfl (held_pt 1 rfl rfl (held_pt 1 rfl rfl (held_pt 1 rfl rfl (held_pt 1 rfl rfl (held_pt 1 rfl rfl (held_pt 1 rfl rfl held_nil)))))) (h_ldn (vs := [.int .i64 a.lv, .int .u64 (a.cs : Int), .int .i64 a.ig]) 3 3 rfl rfl rfl Tryz.underlying24 rfl (by kernel_rfl) (by kernel_rfl)) ?_
 refine a_each (rs := [6, 10]) (by as_aux_lemma => kernel_rfl) (.cons (ticked 12 511) rfl rfl rfl ?_ (.cons (ticked 12 1471) rfl rfl rfl ?_ .nil)) (List.cons_ne_nil _ _)
 ·
  refine o_call [] [] (cutw_ d (by omega)) rfl rfl rfl rfl rfl rfl (fun v L' I' hq2 => ?_)
  obtain ⟨rfl, rfl, rfl⟩ := hq2
  refine a_and (held_pt 1 rfl rfl (held_pt 1 rfl rfl (held_pt 1 rfl rfl (held_pt 1 rfl rfl (held_pt 1 rfl rfl (held_pt 1 rfl rfl held_nil)))))) ?_
  refine b_y (i := 9) (v := .agg #[.int .i64 e, .int .i64 n, .string (cutW d), .slice none 0 0, .int .i64 a.lv, .int .u64 (a.cs : Int), .int .i64 a.ig]) (ticked 12 1023) rfl rfl (by exact y_k rfl rfl (fun _ => by kernel_rfl)) ?_
  refine a_each (rs := [10]) (by as_aux_lemma => kernel_rfl) (.cons (ticked 12 2047) rfl rfl rfl (o_box (cs := [.int .i64 0, .int .i64 0, .string (⟨#[]⟩ : ByteArray), .slice none 0 0, .int .i64 0, .int .u64 0, .int .i64 0]) (T := 39) rfl rfl rfl rfl (fun _ => by kernel_rfl) (fun b6 => ?_)) .nil) (List.cons_ne_nil _ _)
  refine a_and (held_pt 2 rfl rfl (held_pt 2 rfl rfl (held_pt 2 rfl rfl (held_pt 2 rfl rfl (held_pt 2 rfl rfl (held_pt 2 rfl rfl held_nil)))))) ?_
  refine a_each (rs := [11]) (by as_aux_lemma => kernel_rfl) (.cons (ticked 12 4095) rfl rfl rfl (o_st 0 rfl rfl rfl rfl rfl (by kernel_rfl) (by kernel_rfl) rfl ?_) .nil) (List.cons_ne_nil _ _)
  refine a_and (held_pt 2 rfl rfl (held_pt 2 rfl rfl (held_pt 2 rfl rfl (held_pt 2 rfl rfl (held_pt 2 rfl rfl (held_pt 2 rfl rfl held_nil)))))) ?_
  refine a_done (by as_aux_lemma => kernel_rfl) ?_
  refine e_norm (e' := [(1, .pointer (some ⟨b1, 0, none⟩)), (2, .pointer (some ⟨b2, 0, none⟩)), (3, .pointer (some ⟨b6, 0, none⟩))]) [0, 0, 0] [0] ((.cons rfl rfl (.cons rfl rfl (.cons rfl rfl .nil)))) rfl rfl ?_
  exact cut1 b6
 ·
  refine o_box (cs := [.int .i64 0, .int .i64 0, .string (⟨#[]⟩ : ByteArray), .slice none 0 0, .int .i64 0, .int .u64 0, .int .i64 0]) (T := 39) rfl rfl rfl rfl (fun _ => by kernel_rfl) (fun b7 => ?_)
  refine a_and (held_pt 2 rfl rfl (held_pt 2 rfl rfl (held_pt 2 rfl rfl (held_pt 2 rfl rfl (held_pt 2 rfl rfl (held_pt 2 rfl rfl held_nil)))))) ?_
  refine a_each (rs := [6]) (by as_aux_lemma => kernel_rfl) (.cons (ticked 12 1535) rfl rfl rfl (o_call [] [] (cutw_ d (by omega)) rfl rfl rfl rfl rfl rfl (fun v L' I' hq3 => ?_)) .nil) (List.cons_ne_nil _ _)
  obtain ⟨rfl, rfl, rfl⟩ := hq3
  refine a_and (held_pt 2 rfl rfl (held_pt 2 rfl rfl (held_pt 2 rfl rfl (held_pt 2 rfl rfl (held_pt 2 rfl rfl (held_pt 2 rfl rfl held_nil)))))) ?_
  refine b_y (i := 9) (v := .agg #[.int .i64 e, .int .i64 n, .string (cutW d), .slice none 0 0, .int .i64 a.lv, .int .u64 (a.cs : Int), .int .i64 a.ig]) (ticked 12 2047) rfl rfl (by exact y_k rfl rfl (fun _ => by kernel_rfl)) ?_
  refine a_each (rs := [11]) (by as_aux_lemma => kernel_rfl) (.cons (ticked 12 4095) rfl rfl rfl (o_st 0 rfl rfl rfl rfl rfl (by kernel_rfl) (by kernel_rfl) rfl ?_) .nil) (List.cons_ne_nil _ _)
  refine a_and (held_pt 2 rfl rfl (held_pt 2 rfl rfl (held_pt 2 rfl rfl (held_pt 2 rfl rfl (held_pt 2 rfl rfl (held_pt 2 rfl rfl held_nil)))))) ?_
  refine a_done (by as_aux_lemma => kernel_rfl) ?_
  refine e_norm (e' := [(1, .pointer (some ⟨b1, 0, none⟩)), (2, .pointer (some ⟨b2, 0, none⟩)), (3, .pointer (some ⟨b7, 0, none⟩))]) [0, 0, 0] [0] ((.cons rfl rfl (.cons rfl rfl (.cons rfl rfl .nil)))) rfl rfl ?_
  exact cut1 b7
end Go.Proofs.YtcnncdniibkjkaaGreatDoor
