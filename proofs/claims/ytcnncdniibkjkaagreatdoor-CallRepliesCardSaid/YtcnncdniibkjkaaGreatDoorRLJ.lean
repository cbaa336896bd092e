/- The laws of chapter 17 (call), walked over the given program; no condition but what stands in each theorem: part LJ. -/
import Derived.Test.YtcnncdniibkjkaaGreatDoorRS
import Derived.Test.YtcnncdniibkjkaaGreatDoorRRL
import Derived.Test.YtcnncdniibkjkaaGreatDoorRLA
set_option linter.unusedVariables false
set_option linter.unusedSimpArgs false
set_option maxRecDepth 100000
set_option maxHeartbeats 8000000
namespace Go.Proofs.YtcnncdniibkjkaaGreatDoor
open Go Go.Sl Go.RowKit Go.Extern.Stop Go.Stop Go.Extern
theorem rlPut_ (a : Lab) (h6a : lab64 a) : Con Tryz.prog 35 [.agg #[.int .i64 a.lv, .int .u64 (a.cs : Int), .int .i64 a.ig]] [] [] (fun v L' I' => v = .tuple #[.string ((putL a).1), .int .i64 ((putL a).2)] ∧ L' = [] ∧ I' = []) := by
 refine fn_of Tryz.func35 rfl Tryz.ntmps35 (by kernel_rfl) rfl (fun C => ?_)
 refine c_seq (c_region ?_)
 refine st rfl (o_box (cs := [.int .i64 a.lv, .int .u64 (a.cs : Int), .int .i64 a.ig]) (T := 24) rfl rfl rfl rfl (fun _ => by kernel_rfl) (fun b1 => ?_))
 refine s_y rfl (v := .string (⟨#[]⟩ : ByteArray)) (y_as rfl) rfl ?_
 refine s_y rfl (v := .int .i64 0) (y_as rfl) rfl ?_
 refine s_nil (q_then (c_seq (c_seq (c_region ?_))))
 refine st rfl (o_ldn 0 3 rfl rfl rfl rfl Tryz.underlying24 rfl (by kernel_rfl) (by kernel_rfl) rfl ?_)
 refine st rfl (o_call [] [] (rlabRight_ a) rfl rfl rfl rfl rfl rfl (fun v L' I' hq1 => ?_))
 obtain ⟨hv1, rfl, rfl⟩ := hq1
 refine e_by (labRight a) (fun h1 => ?_) (fun h1 => ?_)
 ·
  obtain rfl : v = .bool true := by rw [hv1, decide_eq_true h1]
  refine s_y rfl (v := .bool false) (y_k rfl rfl (fun _ => by kernel_rfl)) rfl ?_
  refine s_nil (q_then (c_false rfl (c_skip (q_then (c_seq (c_region ?_))))))
  refine st rfl (o_lit (cs := [.int .i64 1, .int .i64 1, .int .i64 8]) (T := 3) (m := 3) rfl rfl rfl rfl (fun _ => by kernel_rfl) (fun b2 => ?_))
  refine s_y rfl (v := .pointer (some ⟨b1, 0, none⟩)) (y_k rfl rfl (fun _ => by kernel_rfl)) rfl ?_
  refine st rfl (o_ld 1 rfl rfl rfl Tryz.underlying3 rfl rfl ?_)
  refine s_y rfl (v := .int .u64 ((a.lv).toNat : Int)) (y_cvi (r := ((a.lv).toNat : Int)) rfl Tryz.underlying3 Tryz.underlying22 (lv64 (by assumption))) rfl ?_
  refine s_y rfl (v := .pointer (some ⟨b1, 2, none⟩)) (y_k rfl rfl (fun _ => by kernel_rfl)) rfl ?_
  refine st rfl (o_ld 1 rfl rfl rfl Tryz.underlying3 rfl rfl ?_)
  refine s_y rfl (v := .int .u64 ((a.ig).toNat : Int)) (y_cvi (r := ((a.ig).toNat : Int)) rfl Tryz.underlying3 Tryz.underlying22 (ig64 (by assumption))) rfl ?_
  refine s_y rfl (v := .pointer (some ⟨b1, 1, none⟩)) (y_k rfl rfl (fun _ => by kernel_rfl)) rfl ?_
  refine st rfl (o_ld 1 rfl rfl rfl Tryz.underlying22 rfl rfl ?_)
  refine st rfl (o_lit (cs := [.int .u64 ((a.lv).toNat : Int), .int .u64 ((a.ig).toNat : Int), .int .u64 (a.cs : Int)]) (T := 22) (m := 3) rfl rfl rfl rfl (fun _ => by kernel_rfl) (fun b3 => ?_))
  refine e_calm 1 rfl ?_
  refine e_lit intTy [1, 1, 8] 0 rfl rfl (by simp) ?_
  refine e_calm 0 rfl ?_
  refine e_lit u64Ty [a.lv.toNat, a.ig.toNat, a.cs] 0 rfl rfl (by simp) ?_
  refine st rfl (o_call [] [2, 0] (rPack_ (some ⟨b2, 0, none⟩) 3 [1, 1, 8] (some ⟨b3, 0, none⟩) 3 [a.lv.toNat, a.ig.toNat, a.cs] (by first | assumption | omega | (simp; done)) (by first | assumption | omega | (simp; done)) (by intro x hx; simp only [List.mem_cons, List.not_mem_nil, or_false] at hx; rcases hx with rfl | rfl | rfl <;> first | (have hr_ := (by assumption : labRight _); obtain ⟨q1, q2, q3, q4⟩ := hr_; omega) | assumption)) rfl rfl rfl rfl rfl rfl (fun v L' I' hq2 => ?_))
  obtain ⟨rfl, rfl, rfl⟩ := hq2
  refine s_y rfl (v := .tuple #[.string ((packF [1, 1, 8] [a.lv.toNat, a.ig.toNat, a.cs]).1), .int .i64 ((packF [1, 1, 8] [a.lv.toNat, a.ig.toNat, a.cs]).2)]) (y_mv rfl) rfl ?_
  refine s_y rfl (v := .string ((packF [1, 1, 8] [a.lv.toNat, a.ig.toNat, a.cs]).1)) (y_k rfl rfl (fun _ => by kernel_rfl)) rfl ?_
  refine s_y rfl (v := .int .i64 ((packF [1, 1, 8] [a.lv.toNat, a.ig.toNat, a.cs]).2)) (y_k rfl rfl (fun _ => by kernel_rfl)) rfl ?_
  refine s_y rfl (v := .string ((packF [1, 1, 8] [a.lv.toNat, a.ig.toNat, a.cs]).1)) (y_as rfl) rfl ?_
  refine s_y rfl (v := .int .i64 ((packF [1, 1, 8] [a.lv.toNat, a.ig.toNat, a.cs]).2)) (y_as rfl) rfl ?_
  refine s_nil (q_then (c_seq (c_region ?_)))
  refine s_y rfl (v := .string ((packF [1, 1, 8] [a.lv.toNat, a.ig.toNat, a.cs]).1)) (y_mv rfl) rfl ?_
  refine s_y rfl (v := .string ((packF [1, 1, 8] [a.lv.toNat, a.ig.toNat, a.cs]).1)) (y_as rfl) rfl ?_
  refine s_y rfl (v := .int .i64 0) (y_as rfl) rfl ?_
  refine s_nil (q_then (c_ret ?_))
  have hp : putL a = ((packF [1, 1, 8] [a.lv.toNat, a.ig.toNat, a.cs]).1, 0) := by first | exact rput_no (by assumption) | exact rput_eq (by assumption)
  refine c_fin (I' := []) [] [] rfl (.tmp rfl (.tmp rfl .nil)) rfl rfl rfl ?_
  rw [hp]
  exact ⟨rfl, rfl, rfl⟩
 ·
  obtain rfl : v = .bool false := by rw [hv1, decide_eq_false h1]
  refine s_y rfl (v := .bool true) (y_k rfl rfl (fun _ => by kernel_rfl)) rfl ?_
  refine s_nil (q_then (c_true rfl (c_seq (c_region ?_))))
  refine s_y rfl (v := .string (⟨#[]⟩ : ByteArray)) (y_as rfl) rfl ?_
  refine s_y rfl (v := .int .i64 20) (y_as rfl) rfl ?_
  refine s_nil (q_then (c_ret (q_then_ret ?_)))
  have hp : putL a = ((⟨#[]⟩ : ByteArray), 20) := by first | exact rput_no (by assumption) | exact rput_eq (by assumption)
  refine c_fin (I' := []) [] [] rfl (.tmp rfl (.tmp rfl .nil)) rfl rfl rfl ?_
  rw [hp]
  exact ⟨rfl, rfl, rfl⟩
theorem rlGet_ (s : ByteArray) (hs : s.size ≤ 100000) : Con Tryz.prog 41 [.string s] [] [] (fun v L' I' => v = .tuple #[.agg #[.int .i64 (((labGet s).1).lv), .int .u64 (((labGet s).1).cs : Int), .int .i64 (((labGet s).1).ig)], .string ((labGet s).2.1), .int .i64 ((labGet s).2.2)] ∧ L' = [] ∧ I' = []) := by
 refine fn_of Tryz.func41 rfl Tryz.ntmps41 (by kernel_rfl) rfl (fun C => ?_)
 refine c_seq (c_region ?_)
 refine st rfl (o_box (cs := [.int .i64 0, .int .u64 0, .int .i64 0]) (T := 24) rfl rfl rfl rfl (fun _ => by kernel_rfl) (fun b1 => ?_))
 refine s_y rfl (v := .string (⟨#[]⟩ : ByteArray)) (y_as rfl) rfl ?_
 refine s_y rfl (v := .int .i64 0) (y_as rfl) rfl ?_
 refine s_nil (q_then (c_seq (c_region ?_)))
 refine st rfl (o_lit (cs := [.int .i64 1, .int .i64 1, .int .i64 8]) (T := 3) (m := 3) rfl rfl rfl rfl (fun _ => by kernel_rfl) (fun b2 => ?_))
 refine s_y rfl (v := .string s) (y_mv rfl) rfl ?_
 refine e_calm 0 rfl ?_
 refine e_lit intTy [1, 1, 8] 0 rfl rfl (by simp) ?_
 refine st rfl (o_call [] [0] (rUnpack_ (some ⟨b2, 0, none⟩) 3 [1, 1, 8] s (by first | omega | (rw [ByteArray.size_append]; omega) | decide | assumption) (by first | assumption | omega | (simp; done))) rfl rfl rfl rfl rfl rfl (fun v L' I' hq1 => ?_))
 obtain ⟨A1, c1, rfl, rfl, rfl⟩ := hq1
 refine s_y rfl (v := .tuple #[.slice A1 ((unpackF [1, 1, 8] s).1).length c1, .string ((unpackF [1, 1, 8] s).2.1), .int .i64 ((unpackF [1, 1, 8] s).2.2)]) (y_mv rfl) rfl ?_
 refine s_y rfl (v := .slice A1 ((unpackF [1, 1, 8] s).1).length c1) (y_k rfl rfl (fun _ => by kernel_rfl)) rfl ?_
 refine s_y rfl (v := .string ((unpackF [1, 1, 8] s).2.1)) (y_k rfl rfl (fun _ => by kernel_rfl)) rfl ?_
 refine s_y rfl (v := .int .i64 ((unpackF [1, 1, 8] s).2.2)) (y_k rfl rfl (fun _ => by kernel_rfl)) rfl ?_
 refine s_y rfl (v := .slice A1 ((unpackF [1, 1, 8] s).1).length c1) (y_as rfl) rfl ?_
 refine s_y rfl (v := .string ((unpackF [1, 1, 8] s).2.1)) (y_as rfl) rfl ?_
 refine s_y rfl (v := .int .i64 ((unpackF [1, 1, 8] s).2.2)) (y_as rfl) rfl ?_
 refine s_nil (q_then (c_seq (c_seq (c_region ?_))))
 refine s_y rfl (v := .int .i64 ((unpackF [1, 1, 8] s).2.2)) (y_mv rfl) rfl ?_
 refine e_by ((unpackF [1, 1, 8] s).2.2 = 0) (fun h1 => ?_) (fun h1 => ?_)
 ·
  refine s_y rfl (v := .bool false) (y_nt (y_k (v := .bool (!decide ((unpackF [1, 1, 8] s).2.2 = 0))) rfl rfl (fun _ => by kernel_rfl)) h1) rfl ?_
  refine s_nil (q_then (c_false rfl (c_skip (q_then (c_seq ?_)))))
  refine e_stillw 0 rfl ?_
  refine e_at 0 0 rfl (by have h3_ : (unpackF [1, 1, 8] s).1.length = 3 := un3_len (by assumption); omega) (fun b3 o1 x1 hA1 hx1 => ?_)
  refine e_at 1 1 rfl (by have h3_ : (unpackF [1, 1, 8] s).1.length = 3 := un3_len (by assumption); omega) (fun b4 o2 x2 hA2 hx2 => ?_)
  refine e_at 2 2 rfl (by have h3_ : (unpackF [1, 1, 8] s).1.length = 3 := un3_len (by assumption); omega) (fun b5 o3 x3 hA3 hx3 => ?_)
  refine c_draw (l := ticked 14 0) [(⟨b3, o1 + 0 * 1, none⟩, .int .u64 (x1 : Int)), (⟨b4, o2 + 1 * 1, none⟩, .int .u64 (x2 : Int)), (⟨b5, o3 + 2 * 1, none⟩, .int .u64 (x3 : Int))] [] (by kernel_rfl) rfl rfl ?_
  refine b_y (i := 0) (v := .slice A1 ((unpackF [1, 1, 8] s).1).length c1) (ticked 14 1) rfl rfl (by exact y_mv rfl) ?_
  refine b_y (i := 1) (v := .pointer (some ⟨b3, o1 + 0 * 1, none⟩)) (ticked 14 3) rfl rfl (by exact y_at (d := u64Ty) (l := (unpackF [1, 1, 8] s).1) 0 hA1 rfl rfl rfl (rfl) (List.getElem?_eq_some_iff.1 hx1).1 Tryz.underlying82 (by kernel_rfl) (by kernel_rfl)) ?_
  refine b_y (i := 4) (v := .slice A1 ((unpackF [1, 1, 8] s).1).length c1) (ticked 14 19) rfl rfl (by exact y_mv rfl) ?_
  refine b_y (i := 5) (v := .pointer (some ⟨b4, o2 + 1 * 1, none⟩)) (ticked 14 51) rfl rfl (by exact y_at (d := u64Ty) (l := (unpackF [1, 1, 8] s).1) 1 hA2 rfl rfl rfl (rfl) (List.getElem?_eq_some_iff.1 hx2).1 Tryz.underlying82 (by kernel_rfl) (by kernel_rfl)) ?_
  refine b_y (i := 8) (v := .slice A1 ((unpackF [1, 1, 8] s).1).length c1) (ticked 14 307) rfl rfl (by exact y_mv rfl) ?_
  refine b_y (i := 9) (v := .pointer (some ⟨b5, o3 + 2 * 1, none⟩)) (ticked 14 819) rfl rfl (by exact y_at (d := u64Ty) (l := (unpackF [1, 1, 8] s).1) 2 hA3 rfl rfl rfl (rfl) (List.getElem?_eq_some_iff.1 hx3).1 Tryz.underlying82 (by kernel_rfl) (by kernel_rfl)) ?_
  refine a_held (i := 2) (ticked 14 823) rfl (by as_aux_lemma => kernel_rfl) rfl rfl rfl (held_fact (j := 0) 2 rfl rfl (held_fact (j := 0) 1 rfl rfl (held_fact (j := 0) 0 rfl rfl held_nil))) (h_ld 0 rfl rfl Tryz.underlying22 rfl) ?_
  refine b_y (i := 3) (v := .int .i64 (x1 : Int)) (ticked 14 831) rfl rfl (by exact y_cvi (r := (x1 : Int)) rfl Tryz.underlying22 Tryz.underlying3 (u8_i64 (by first | exact un3_0 (by assumption) (by assumption) | exact un3_1 (by assumption) (by assumption)))) ?_
  refine a_held (i := 6) (ticked 14 895) rfl (by as_aux_lemma => kernel_rfl) rfl rfl rfl (held_fact (j := 0) 2 rfl rfl (held_fact (j := 0) 1 rfl rfl (held_fact (j := 0) 0 rfl rfl held_nil))) (h_ld 1 rfl rfl Tryz.underlying22 rfl) ?_
  refine b_y (i := 7) (v := .int .i64 (x2 : Int)) (ticked 14 1023) rfl rfl (by exact y_cvi (r := (x2 : Int)) rfl Tryz.underlying22 Tryz.underlying3 (u8_i64 (by first | exact un3_0 (by assumption) (by assumption) | exact un3_1 (by assumption) (by assumption)))) ?_
  refine a_held (i := 10) (ticked 14 2047) rfl (by as_aux_lemma => kernel_rfl) rfl rfl rfl (held_fact (j := 0) 2 rfl rfl (held_fact (j := 0) 1 rfl rfl (held_fact (j := 0) 0 rfl rfl held_nil))) (h_ld 2 rfl rfl Tryz.underlying22 rfl) ?_
  refine b_y (i := 11) (v := .agg #[.int .i64 (x1 : Int), .int .u64 (x3 : Int), .int .i64 (x2 : Int)]) (ticked 14 4095) rfl rfl (by exact y_k rfl rfl (fun _ => by kernel_rfl)) ?_
  refine a_each (rs := [12]) (by as_aux_lemma => kernel_rfl) (.cons (ticked 14 8191) rfl rfl rfl (o_box (cs := [.int .i64 0, .int .u64 0, .int .i64 0]) (T := 24) rfl rfl rfl rfl (fun _ => by kernel_rfl) (fun b6 => ?_)) .nil) (List.cons_ne_nil _ _)
  refine a_and (held_fact (j := 0) 2 rfl rfl (held_fact (j := 0) 1 rfl rfl (held_fact (j := 0) 0 rfl rfl held_nil))) ?_
  refine a_each (rs := [13]) (by as_aux_lemma => kernel_rfl) (.cons (ticked 14 16383) rfl rfl rfl (o_st 0 rfl rfl rfl rfl rfl (by kernel_rfl) (by kernel_rfl) rfl ?_) .nil) (List.cons_ne_nil _ _)
  refine a_and (held_fact (j := 0) 2 rfl rfl (held_fact (j := 0) 1 rfl rfl (held_fact (j := 0) 0 rfl rfl held_nil))) ?_
  refine a_done (by as_aux_lemma => kernel_rfl) ?_
  refine q_then (c_seq (c_seq (c_region ?_)))
  refine st rfl (o_ldn 0 3 rfl rfl rfl rfl Tryz.underlying24 rfl (by kernel_rfl) (by kernel_rfl) rfl ?_)
  refine st rfl (o_call [] [] (rlabRight_ (⟨(x1 : Int), x3, (x2 : Int)⟩ : Lab)) rfl rfl rfl rfl rfl rfl (fun v L' I' hq2 => ?_))
  obtain ⟨hv1, rfl, rfl⟩ := hq2
  refine e_by (labRight (⟨(x1 : Int), x3, (x2 : Int)⟩ : Lab)) (fun h2 => ?_) (fun h2 => ?_)
  ·
   obtain rfl : v = .bool true := by rw [hv1, decide_eq_true h2]
   refine s_y rfl (v := .bool false) (y_k rfl rfl (fun _ => by kernel_rfl)) rfl ?_
   refine s_nil (q_then (c_false rfl (c_skip (q_then (c_seq (c_region ?_))))))
   refine st rfl (o_ldn 0 3 rfl rfl rfl rfl Tryz.underlying24 rfl (by kernel_rfl) (by kernel_rfl) rfl ?_)
   refine s_y rfl (v := .string ((unpackF [1, 1, 8] s).2.1)) (y_mv rfl) rfl ?_
   refine st rfl (o_st 1 rfl rfl rfl rfl rfl (by kernel_rfl) (by kernel_rfl) rfl ?_)
   refine s_y rfl (v := .string ((unpackF [1, 1, 8] s).2.1)) (y_as rfl) rfl ?_
   refine s_y rfl (v := .int .i64 0) (y_as rfl) rfl ?_
   refine s_nil (q_then (c_ret ?_))
   have hp : labGet s = ((⟨(x1 : Int), x3, (x2 : Int)⟩ : Lab), (unpackF [1, 1, 8] s).2.1, 0) := by first | exact labGet_bad (by assumption) | exact labGet_code (by assumption) (labOf_at hx1 hx2 hx3) (by assumption) | exact labGet_ok (by assumption) (labOf_at hx1 hx2 hx3) (by assumption)
   refine c_fin (I' := []) [] [] rfl (.agg 1 3 rfl rfl rfl rfl Tryz.underlying24 rfl (by kernel_rfl) (by kernel_rfl) (.tmp rfl (.tmp rfl .nil))) rfl rfl rfl ?_
   rw [hp]
   exact ⟨rfl, rfl, rfl⟩
  ·
   obtain rfl : v = .bool false := by rw [hv1, decide_eq_false h2]
   refine s_y rfl (v := .bool true) (y_k rfl rfl (fun _ => by kernel_rfl)) rfl ?_
   refine s_nil (q_then (c_true rfl (c_seq (c_region ?_))))
   refine s_y rfl (v := .agg #[.int .i64 0, .int .u64 0, .int .i64 0]) (y_k rfl rfl (fun _ => by kernel_rfl)) rfl ?_
   refine st rfl (o_st 1 rfl rfl rfl rfl rfl (by kernel_rfl) (by kernel_rfl) rfl ?_)
   refine s_y rfl (v := .string (⟨#[]⟩ : ByteArray)) (y_as rfl) rfl ?_
   refine s_y rfl (v := .int .i64 40) (y_as rfl) rfl ?_
   refine s_nil (q_then (c_ret (q_then_ret ?_)))
   have hp : labGet s = ((⟨0, 0, 0⟩ : Lab), (⟨#[]⟩ : ByteArray), 40) := by first | exact labGet_bad (by assumption) | exact labGet_code (by assumption) (labOf_at hx1 hx2 hx3) (by assumption) | exact labGet_ok (by assumption) (labOf_at hx1 hx2 hx3) (by assumption)
   refine c_fin (I' := []) [] [] rfl (.agg 1 3 rfl rfl rfl rfl Tryz.underlying24 rfl (by kernel_rfl) (by kernel_rfl) (.tmp rfl (.tmp rfl .nil))) rfl rfl rfl ?_
   rw [hp]
   exact ⟨rfl, rfl, rfl⟩
 ·
  refine s_y rfl (v := .bool true) (y_nf (y_k (v := .bool (!decide ((unpackF [1, 1, 8] s).2.2 = 0))) rfl rfl (fun _ => by kernel_rfl)) h1) rfl ?_
  refine s_nil (q_then (c_true rfl (c_seq (c_region ?_))))
  refine s_y rfl (v := .agg #[.int .i64 0, .int .u64 0, .int .i64 0]) (y_k rfl rfl (fun _ => by kernel_rfl)) rfl ?_
  refine s_y rfl (v := .int .i64 ((unpackF [1, 1, 8] s).2.2)) (y_mv rfl) rfl ?_
  refine st rfl (o_st 1 rfl rfl rfl rfl rfl (by kernel_rfl) (by kernel_rfl) rfl ?_)
  refine s_y rfl (v := .string (⟨#[]⟩ : ByteArray)) (y_as rfl) rfl ?_
  refine s_y rfl (v := .int .i64 ((unpackF [1, 1, 8] s).2.2)) (y_as rfl) rfl ?_
  refine s_nil (q_then (c_ret (q_then_ret ?_)))
  have hp : labGet s = ((⟨0, 0, 0⟩ : Lab), (⟨#[]⟩ : ByteArray), (unpackF [1, 1, 8] s).2.2) := by first | exact labGet_bad (by assumption) | exact labGet_code (by assumption) (labOf_at hx1 hx1 hx1) (by assumption) | exact labGet_ok (by assumption) (labOf_at hx1 hx1 hx1) (by assumption)
  refine c_fin (I' := []) [] [] rfl (.agg 1 3 rfl rfl rfl rfl Tryz.underlying24 rfl (by kernel_rfl) (by kernel_rfl) (.tmp rfl (.tmp rfl .nil))) rfl rfl rfl ?_
  rw [hp]
  exact ⟨rfl, rfl, rfl⟩
end Go.Proofs.YtcnncdniibkjkaaGreatDoor
