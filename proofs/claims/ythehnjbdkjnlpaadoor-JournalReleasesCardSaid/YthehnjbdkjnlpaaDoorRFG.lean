/- The laws of chapter 15 (journal), walked over the given program; no condition but what stands in each theorem: part FG. -/
import Derived.Test.YthehnjbdkjnlpaaDoorRFE
set_option linter.unusedVariables false
set_option linter.unusedSimpArgs false
set_option maxRecDepth 100000
set_option maxHeartbeats 8000000
namespace Go.Proofs.YthehnjbdkjnlpaaDoor
open Go Go.Sl Go.RowKit Go.Extern.Stop Go.Stop Go.Extern
theorem first1_ (f : Fil) (s : ByteArray) (b1 : Nat) (b2 : Nat) (hs : s.size ≤ 100000) (hk : f.kd = 1) : Con Tryd.prog 74 [.string s, .slice (some ⟨b1, 0, none⟩) 1 1] [pt b1 [.func (.func 80) #[] #[.pointer (some ⟨b2, 0, none⟩)]] 137, pt b2 [.int .i64 f.kd, .int .i64 f.mx, .string f.fm] 39] [] (fun v L' I' => v = .int .i64 (firstF f s) ∧ L' = [pt b1 [.func (.func 80) #[] #[.pointer (some ⟨b2, 0, none⟩)]] 137, pt b2 [.int .i64 f.kd, .int .i64 f.mx, .string f.fm] 39] ∧ I' = []) := by
 refine fn_of Tryd.func74 rfl Tryd.ntmps74 (by kernel_rfl) rfl (fun C => ?_)
 refine c_seq (c_region ?_)
 refine s_y rfl (v := .int .i64 0) (y_as rfl) rfl ?_
 refine s_nil (q_then (c_seq (c_seq (c_region ?_))))
 refine s_y rfl (v := .string s) (y_mv rfl) rfl ?_
 refine st rfl (o_s2b rfl Tryd.underlying9 Tryd.underlying141 Tryd.underlying5 rfl (by have := bl_size s; unfold bl at this; omega) (fun A1 c1 => ?_))
 refine s_y rfl (v := .int .i64 (s.data.toList.length : Int)) (y_k rfl rfl (fun _ => by kernel_rfl)) rfl ?_
 refine s_y rfl (v := .int .i64 0) (y_mv rfl) rfl ?_
 refine s_nil (q_then (c_block ?_))
 refine c_loopn (ι := Nat) (fun i => (i ≤ s.data.toList.length) ∧ (firstF f s = badAt f ((bl s).drop i) i)) (fun i => [(1, .slice (some ⟨b1, 0, none⟩) 1 1), (10, .slice A1 s.data.toList.length c1), (11, .int .i64 (s.data.toList.length : Int)), (12, .int .i64 (i : Int))]) (fun i => [pt b1 [.func (.func 80) #[] #[.pointer (some ⟨b2, 0, none⟩)]] 137, pt b2 [.int .i64 f.kd, .int .i64 f.mx, .string f.fm] 39]) (fun i => [rd u8Ty A1 c1 s.data.toList]) (fun i => s.data.toList.length - i) (0) [0, 0] [0] (show (0 ≤ s.data.toList.length) ∧ (firstF f s = badAt f ((bl s).drop 0) 0) from ⟨by first | omega | simp_all | (simp; done), rfl⟩) ((.cons rfl rfl (.cons rfl rfl (.cons rfl rfl (.cons rfl rfl .nil))))) rfl rfl ?_
 rintro i ⟨hi, hb⟩
 show Ent 31 C [(1, .slice (some ⟨b1, 0, none⟩) 1 1), (10, .slice A1 s.data.toList.length c1), (11, .int .i64 (s.data.toList.length : Int)), (12, .int .i64 (i : Int))] [] [pt b1 [.func (.func 80) #[] #[.pointer (some ⟨b2, 0, none⟩)]] 137, pt b2 [.int .i64 f.kd, .int .i64 f.mx, .string f.fm] 39] [rd u8Ty A1 c1 s.data.toList] _
 refine c_seq (c_region ?_)
 refine e_by ((i : Int) < (s.data.toList.length : Int)) (fun h1 => ?_) (fun h1 => ?_)
 ·
  refine s_y rfl (v := .bool true) (y_t (y_k (v := .bool (decide ((i : Int) < (s.data.toList.length : Int)))) rfl rfl (fun _ => by kernel_rfl)) h1) rfl ?_
  refine s_nil (q_then (c_seq (c_true rfl (c_skip (q_then (c_seq (c_block (c_seq (c_region ?_)))))))))
  refine s_y rfl (v := .int .i64 (i : Int)) (y_mv rfl) rfl ?_
  refine e_at 0 i rfl (by first | omega | (simp only [List.length_append, List.length_map, List.length_take, List.length_drop]; omega)) (fun b3 o1 x1 hA1 hx1 => ?_)
  refine s_y rfl (v := .pointer (some ⟨b3, o1 + i * 1, none⟩)) (y_at (d := u8Ty) (l := s.data.toList) i hA1 rfl rfl rfl (rfl) (List.getElem?_eq_some_iff.1 hx1).1 Tryd.underlying141 (by kernel_rfl) (by kernel_rfl)) rfl ?_
  refine st rfl (o_ldf 0 0 rfl rfl rfl Tryd.underlying5 rfl rfl ?_)
  refine s_y rfl (v := .int .i64 (i : Int)) (y_as rfl) rfl ?_
  refine s_y rfl (v := .int .u8 (x1.toNat : Int)) (y_as rfl) rfl ?_
  refine s_nil (q_then (c_seq (c_region ?_)))
  refine s_y rfl (v := .slice (some ⟨b1, 0, none⟩) 1 1) (y_mv rfl) rfl ?_
  refine s_y rfl (v := .int .i64 1) (y_k rfl rfl (fun _ => by kernel_rfl)) rfl ?_
  refine s_y rfl (v := .int .i64 0) (y_mv rfl) rfl ?_
  refine s_nil (q_then (c_block ?_))
  refine c_unroll 2 ?_
  refine c_round ?_
  refine c_seq (c_region ?_)
  refine s_y rfl (v := .bool true) (y_k rfl rfl (fun _ => by kernel_rfl)) rfl ?_
  refine s_nil (q_then (c_seq (c_true rfl (c_skip (q_then (c_seq (c_block (c_seq (c_region ?_)))))))))
  refine s_y rfl (v := .pointer (some ⟨b1, 0, none⟩)) (y_k rfl rfl (fun _ => by kernel_rfl)) rfl ?_
  refine st rfl (o_ld 0 rfl rfl rfl Tryd.underlying137 rfl rfl ?_)
  refine s_y rfl (v := .func (.func 80) #[] #[.pointer (some ⟨b2, 0, none⟩)]) (y_as rfl) rfl ?_
  refine s_nil (q_then (c_seq (c_region ?_)))
  refine s_y rfl (v := .func (.func 80) #[] #[.pointer (some ⟨b2, 0, none⟩)]) (y_mv rfl) rfl ?_
  refine s_y rfl (v := .int .i64 (i : Int)) (y_mv rfl) rfl ?_
  refine s_y rfl (v := .int .u8 (x1.toNat : Int)) (y_mv rfl) rfl ?_
  refine st rfl (o_call [1] [] (isShort_ f b2 i x1) rfl rfl rfl rfl rfl rfl (fun v L' I' hq1 => ?_))
  obtain ⟨hv1, rfl, rfl⟩ := hq1
  refine e_by ((i : Int) < f.mx) (fun h2 => ?_) (fun h2 => ?_)
  ·
   obtain rfl : v = .bool true := by rw [hv1, decide_eq_true h2]
   refine s_y rfl (v := .bool false) (y_k rfl rfl (fun _ => by kernel_rfl)) rfl ?_
   refine s_nil (q_then (c_false rfl (c_skip (q_block (q_then (c_region ?_))))))
   refine s_y rfl (v := .int .i64 1) (y_add (r := 1) rfl rfl (by first | rfl | omega) (by have := bl_size s; unfold bl at this; omega)) rfl ?_
   refine s_y rfl (v := .int .i64 1) (y_mv rfl) rfl ?_
   refine s_nil (q_then ?_)
   refine c_round ?_
   refine c_seq (c_region ?_)
   refine s_y rfl (v := .bool false) (y_k rfl rfl (fun _ => by kernel_rfl)) rfl ?_
   refine s_nil (q_then (c_seq (c_false rfl ?_)))
   refine c_exit ?_
   refine q_then_exit ?_
   refine q_then_exit ?_
   refine q_block_here ?_
   refine q_block (q_then (c_region ?_))
   refine s_y rfl (v := .int .i64 ((i : Int) + 1)) (y_add (r := (i : Int) + 1) rfl rfl rfl (by have := bl_size s; unfold bl at this; omega)) rfl ?_
   refine s_y rfl (v := .int .i64 ((i : Int) + 1)) (y_mv rfl) rfl ?_
   refine s_nil (q_then ?_)
   refine c_next [1, 0] [1] (i + 1) ?_ ?_ ?_ (by rfl) (by rfl)
   · exact (show ((i + 1) ≤ s.data.toList.length) ∧ (firstF f s = badAt f ((bl s).drop (i + 1)) (i + 1)) from ⟨by first | omega | simp_all | (simp; done), hb.trans (bad_ok hx1 ((ok_1 (by assumption)).2 (by assumption)))⟩)
   · show s.data.toList.length - (i + 1) < s.data.toList.length - i; omega
   · exact (.cons rfl rfl (.cons rfl rfl (.cons rfl rfl (.cons rfl (show (.int .i64 ((i : Int) + 1) : Value) = .int .i64 ((i + 1) : Int) from by first | rfl | (congr 1; omega) | (congr 1; simp; done) | (congr 1; simp; omega)) .nil))))
  ·
   obtain rfl : v = .bool false := by rw [hv1, decide_eq_false h2]
   refine s_y rfl (v := .bool true) (y_k rfl rfl (fun _ => by kernel_rfl)) rfl ?_
   refine s_nil (q_then (c_true rfl (c_seq (c_region ?_))))
   refine s_y rfl (v := .int .i64 (i : Int)) (y_mv rfl) rfl ?_
   refine s_y rfl (v := .int .i64 (i : Int)) (y_as rfl) rfl ?_
   refine s_nil (q_then (c_ret (q_block_ret (q_then_ret (q_then_ret (q_block_ret (q_block_ret (q_then_ret (q_then_ret (q_block_ret (q_then_ret ?_)))))))))))
   refine c_fin (I' := []) [1, 0] [] rfl (.tmp rfl .nil) rfl rfl rfl ?_
   exact ⟨(by show Value.int _ _ = Value.int _ _; congr 1; rw [hb]; first | exact (bad_end (by show s.data.toList.length ≤ i; omega)).symm | exact (bad_no hx1 (fun q => by have q2 := (ok_1 (by assumption)).1 q; omega)).symm), rfl, rfl⟩
 ·
  refine s_y rfl (v := .bool false) (y_f (y_k (v := .bool (decide ((i : Int) < (s.data.toList.length : Int)))) rfl rfl (fun _ => by kernel_rfl)) h1) rfl ?_
  refine s_nil (q_then (c_seq (c_false rfl ?_)))
  refine c_exit ?_
  refine q_then_exit ?_
  refine q_then_exit ?_
  refine q_block_here ?_
  refine q_then (c_seq (c_region ?_))
  refine s_y rfl (v := .int .i64 (-1)) (y_as rfl) rfl ?_
  refine s_nil (q_then (c_ret ?_))
  refine c_fin (I' := []) [0, 0] [] rfl (.tmp rfl .nil) rfl rfl rfl ?_
  exact ⟨(by show Value.int _ _ = Value.int _ _; congr 1; rw [hb]; first | exact (bad_end (by show s.data.toList.length ≤ i; omega)).symm | exact (bad_no hx1 (fun q => by have q2 := (ok_1 (by assumption)).1 q; omega)).symm), rfl, rfl⟩
theorem first2_ (f : Fil) (s : ByteArray) (b1 : Nat) (b2 : Nat) (b3 : Nat) (hs : s.size ≤ 100000) (hk : f.kd = 2) (hsz : f.fm.size ≤ 1000) : Con Tryd.prog 74 [.string s, .slice (some ⟨b1, 0, none⟩) 2 2] [pt b1 [.func (.func 80) #[] #[.pointer (some ⟨b2, 0, none⟩)], .func (.func 85) #[] #[.pointer (some ⟨b3, 0, none⟩)]] 137, pt b2 [.int .i64 f.kd, .int .i64 f.mx, .string f.fm] 39, pt b3 [.string f.fm] 9] [] (fun v L' I' => v = .int .i64 (firstF f s) ∧ L' = [pt b1 [.func (.func 80) #[] #[.pointer (some ⟨b2, 0, none⟩)], .func (.func 85) #[] #[.pointer (some ⟨b3, 0, none⟩)]] 137, pt b2 [.int .i64 f.kd, .int .i64 f.mx, .string f.fm] 39, pt b3 [.string f.fm] 9] ∧ I' = []) := by
 refine fn_of Tryd.func74 rfl Tryd.ntmps74 (by kernel_rfl) rfl (fun C => ?_)
 refine c_seq (c_region ?_)
 refine s_y rfl (v := .int .i64 0) (y_as rfl) rfl ?_
 refine s_nil (q_then (c_seq (c_seq (c_region ?_))))
 refine s_y rfl (v := .string s) (y_mv rfl) rfl ?_
 refine st rfl (o_s2b rfl Tryd.underlying9 Tryd.underlying141 Tryd.underlying5 rfl (by have := bl_size s; unfold bl at this; omega) (fun A1 c1 => ?_))
 refine s_y rfl (v := .int .i64 (s.data.toList.length : Int)) (y_k rfl rfl (fun _ => by kernel_rfl)) rfl ?_
 refine s_y rfl (v := .int .i64 0) (y_mv rfl) rfl ?_
 refine s_nil (q_then (c_block ?_))
 refine c_loopn (ι := Nat) (fun i => (i ≤ s.data.toList.length) ∧ (firstF f s = badAt f ((bl s).drop i) i)) (fun i => [(1, .slice (some ⟨b1, 0, none⟩) 2 2), (10, .slice A1 s.data.toList.length c1), (11, .int .i64 (s.data.toList.length : Int)), (12, .int .i64 (i : Int))]) (fun i => [pt b1 [.func (.func 80) #[] #[.pointer (some ⟨b2, 0, none⟩)], .func (.func 85) #[] #[.pointer (some ⟨b3, 0, none⟩)]] 137, pt b2 [.int .i64 f.kd, .int .i64 f.mx, .string f.fm] 39, pt b3 [.string f.fm] 9]) (fun i => [rd u8Ty A1 c1 s.data.toList]) (fun i => s.data.toList.length - i) (0) [0, 0, 0] [0] (show (0 ≤ s.data.toList.length) ∧ (firstF f s = badAt f ((bl s).drop 0) 0) from ⟨by first | omega | simp_all | (simp; done), rfl⟩) ((.cons rfl rfl (.cons rfl rfl (.cons rfl rfl (.cons rfl rfl .nil))))) rfl rfl ?_
 rintro i ⟨hi, hb⟩
 show Ent 31 C [(1, .slice (some ⟨b1, 0, none⟩) 2 2), (10, .slice A1 s.data.toList.length c1), (11, .int .i64 (s.data.toList.length : Int)), (12, .int .i64 (i : Int))] [] [pt b1 [.func (.func 80) #[] #[.pointer (some ⟨b2, 0, none⟩)], .func (.func 85) #[] #[.pointer (some ⟨b3, 0, none⟩)]] 137, pt b2 [.int .i64 f.kd, .int .i64 f.mx, .string f.fm] 39, pt b3 [.string f.fm] 9] [rd u8Ty A1 c1 s.data.toList] _
 refine c_seq (c_region ?_)
 refine e_by ((i : Int) < (s.data.toList.length : Int)) (fun h1 => ?_) (fun h1 => ?_)
 ·
  refine s_y rfl (v := .bool true) (y_t (y_k (v := .bool (decide ((i : Int) < (s.data.toList.length : Int)))) rfl rfl (fun _ => by kernel_rfl)) h1) rfl ?_
  refine s_nil (q_then (c_seq (c_true rfl (c_skip (q_then (c_seq (c_block (c_seq (c_region ?_)))))))))
  refine s_y rfl (v := .int .i64 (i : Int)) (y_mv rfl) rfl ?_
  refine e_at 0 i rfl (by first | omega | (simp only [List.length_append, List.length_map, List.length_take, List.length_drop]; omega)) (fun b4 o1 x1 hA1 hx1 => ?_)
  refine s_y rfl (v := .pointer (some ⟨b4, o1 + i * 1, none⟩)) (y_at (d := u8Ty) (l := s.data.toList) i hA1 rfl rfl rfl (rfl) (List.getElem?_eq_some_iff.1 hx1).1 Tryd.underlying141 (by kernel_rfl) (by kernel_rfl)) rfl ?_
  refine st rfl (o_ldf 0 0 rfl rfl rfl Tryd.underlying5 rfl rfl ?_)
  refine s_y rfl (v := .int .i64 (i : Int)) (y_as rfl) rfl ?_
  refine s_y rfl (v := .int .u8 (x1.toNat : Int)) (y_as rfl) rfl ?_
  refine s_nil (q_then (c_seq (c_region ?_)))
  refine s_y rfl (v := .slice (some ⟨b1, 0, none⟩) 2 2) (y_mv rfl) rfl ?_
  refine s_y rfl (v := .int .i64 2) (y_k rfl rfl (fun _ => by kernel_rfl)) rfl ?_
  refine s_y rfl (v := .int .i64 0) (y_mv rfl) rfl ?_
  refine s_nil (q_then (c_block ?_))
  refine c_unroll 3 ?_
  refine c_round ?_
  refine c_seq (c_region ?_)
  refine s_y rfl (v := .bool true) (y_k rfl rfl (fun _ => by kernel_rfl)) rfl ?_
  refine s_nil (q_then (c_seq (c_true rfl (c_skip (q_then (c_seq (c_block (c_seq (c_region ?_)))))))))
  refine s_y rfl (v := .pointer (some ⟨b1, 0, none⟩)) (y_k rfl rfl (fun _ => by kernel_rfl)) rfl ?_
  refine st rfl (o_ld 0 rfl rfl rfl Tryd.underlying137 rfl rfl ?_)
  refine s_y rfl (v := .func (.func 80) #[] #[.pointer (some ⟨b2, 0, none⟩)]) (y_as rfl) rfl ?_
  refine s_nil (q_then (c_seq (c_region ?_)))
  refine s_y rfl (v := .func (.func 80) #[] #[.pointer (some ⟨b2, 0, none⟩)]) (y_mv rfl) rfl ?_
  refine s_y rfl (v := .int .i64 (i : Int)) (y_mv rfl) rfl ?_
  refine s_y rfl (v := .int .u8 (x1.toNat : Int)) (y_mv rfl) rfl ?_
  refine st rfl (o_call [1] [] (isShort_ f b2 i x1) rfl rfl rfl rfl rfl rfl (fun v L' I' hq1 => ?_))
  obtain ⟨hv1, rfl, rfl⟩ := hq1
  refine e_by ((i : Int) < f.mx) (fun h2 => ?_) (fun h2 => ?_)
  ·
   obtain rfl : v = .bool true := by rw [hv1, decide_eq_true h2]
   refine s_y rfl (v := .bool false) (y_k rfl rfl (fun _ => by kernel_rfl)) rfl ?_
   refine s_nil (q_then (c_false rfl (c_skip (q_block (q_then (c_region ?_))))))
   refine s_y rfl (v := .int .i64 1) (y_add (r := 1) rfl rfl (by first | rfl | omega) (by have := bl_size s; unfold bl at this; omega)) rfl ?_
   refine s_y rfl (v := .int .i64 1) (y_mv rfl) rfl ?_
   refine s_nil (q_then ?_)
   refine c_round ?_
   refine c_seq (c_region ?_)
   refine s_y rfl (v := .bool true) (y_k rfl rfl (fun _ => by kernel_rfl)) rfl ?_
   refine s_nil (q_then (c_seq (c_true rfl (c_skip (q_then (c_seq (c_block (c_seq (c_region ?_)))))))))
   refine s_y rfl (v := .pointer (some ⟨b1, 1, none⟩)) (y_k rfl rfl (fun _ => by kernel_rfl)) rfl ?_
   refine st rfl (o_ld 1 rfl rfl rfl Tryd.underlying137 rfl rfl ?_)
   refine s_y rfl (v := .func (.func 85) #[] #[.pointer (some ⟨b3, 0, none⟩)]) (y_as rfl) rfl ?_
   refine s_nil (q_then (c_seq (c_region ?_)))
   refine s_y rfl (v := .func (.func 85) #[] #[.pointer (some ⟨b3, 0, none⟩)]) (y_mv rfl) rfl ?_
   refine s_y rfl (v := .int .i64 (i : Int)) (y_mv rfl) rfl ?_
   refine s_y rfl (v := .int .u8 (x1.toNat : Int)) (y_mv rfl) rfl ?_
   refine st rfl (o_call [2] [] (isOf1_ f.fm b3 (i : Int) x1 (by omega)) rfl rfl rfl rfl rfl rfl (fun v L' I' hq2 => ?_))
   obtain ⟨hv2, rfl, rfl⟩ := hq2
   refine e_by (inCl (bl f.fm) x1) (fun h3 => ?_) (fun h3 => ?_)
   ·
    obtain rfl : v = .bool true := by rw [hv2, decide_eq_true h3]
    refine s_y rfl (v := .bool false) (y_k rfl rfl (fun _ => by kernel_rfl)) rfl ?_
    refine s_nil (q_then (c_false rfl (c_skip (q_block (q_then (c_region ?_))))))
    refine s_y rfl (v := .int .i64 2) (y_add (r := 2) rfl rfl (by first | rfl | omega) (by have := bl_size s; unfold bl at this; omega)) rfl ?_
    refine s_y rfl (v := .int .i64 2) (y_mv rfl) rfl ?_
    refine s_nil (q_then ?_)
    refine c_round ?_
    refine c_seq (c_region ?_)
    refine s_y rfl (v := .bool false) (y_k rfl rfl (fun _ => by kernel_rfl)) rfl ?_
    refine s_nil (q_then (c_seq (c_false rfl ?_)))
    refine c_exit ?_
    refine q_then_exit ?_
    refine q_then_exit ?_
    refine q_block_here ?_
    refine q_block (q_then (c_region ?_))
    refine s_y rfl (v := .int .i64 ((i : Int) + 1)) (y_add (r := (i : Int) + 1) rfl rfl rfl (by have := bl_size s; unfold bl at this; omega)) rfl ?_
    refine s_y rfl (v := .int .i64 ((i : Int) + 1)) (y_mv rfl) rfl ?_
    refine s_nil (q_then ?_)
    refine c_next [2, 1, 0] [1] (i + 1) ?_ ?_ ?_ (by rfl) (by rfl)
    · exact (show ((i + 1) ≤ s.data.toList.length) ∧ (firstF f s = badAt f ((bl s).drop (i + 1)) (i + 1)) from ⟨by first | omega | simp_all | (simp; done), hb.trans (bad_ok hx1 ((ok_2 (by assumption)).2 ⟨by assumption, by assumption⟩))⟩)
    · show s.data.toList.length - (i + 1) < s.data.toList.length - i; omega
    · exact (.cons rfl rfl (.cons rfl rfl (.cons rfl rfl (.cons rfl (show (.int .i64 ((i : Int) + 1) : Value) = .int .i64 ((i + 1) : Int) from by first | rfl | (congr 1; omega) | (congr 1; simp; done) | (congr 1; simp; omega)) .nil))))
   ·
    obtain rfl : v = .bool false := by rw [hv2, decide_eq_false h3]
    refine s_y rfl (v := .bool true) (y_k rfl rfl (fun _ => by kernel_rfl)) rfl ?_
    refine s_nil (q_then (c_true rfl (c_seq (c_region ?_))))
    refine s_y rfl (v := .int .i64 (i : Int)) (y_mv rfl) rfl ?_
    refine s_y rfl (v := .int .i64 (i : Int)) (y_as rfl) rfl ?_
    refine s_nil (q_then (c_ret (q_block_ret (q_then_ret (q_then_ret (q_block_ret (q_block_ret (q_then_ret (q_then_ret (q_block_ret (q_then_ret ?_)))))))))))
    refine c_fin (I' := []) [2, 1, 0] [] rfl (.tmp rfl .nil) rfl rfl rfl ?_
    exact ⟨(by show Value.int _ _ = Value.int _ _; congr 1; rw [hb]; first | exact (bad_end (by show s.data.toList.length ≤ i; omega)).symm | exact (bad_no hx1 (fun q => by have q2 := (ok_2 (by assumption)).1 q; first | omega | exact absurd q2.2 (by assumption) | (have q3 := q2.1; omega))).symm), rfl, rfl⟩
  ·
   obtain rfl : v = .bool false := by rw [hv1, decide_eq_false h2]
   refine s_y rfl (v := .bool true) (y_k rfl rfl (fun _ => by kernel_rfl)) rfl ?_
   refine s_nil (q_then (c_true rfl (c_seq (c_region ?_))))
   refine s_y rfl (v := .int .i64 (i : Int)) (y_mv rfl) rfl ?_
   refine s_y rfl (v := .int .i64 (i : Int)) (y_as rfl) rfl ?_
   refine s_nil (q_then (c_ret (q_block_ret (q_then_ret (q_then_ret (q_block_ret (q_block_ret (q_then_ret (q_then_ret (q_block_ret (q_then_ret ?_)))))))))))
   refine c_fin (I' := []) [1, 0, 0] [] rfl (.tmp rfl .nil) rfl rfl rfl ?_
   exact ⟨(by show Value.int _ _ = Value.int _ _; congr 1; rw [hb]; first | exact (bad_end (by show s.data.toList.length ≤ i; omega)).symm | exact (bad_no hx1 (fun q => by have q2 := (ok_2 (by assumption)).1 q; first | omega | exact absurd q2.2 (by assumption) | (have q3 := q2.1; omega))).symm), rfl, rfl⟩
 ·
  refine s_y rfl (v := .bool false) (y_f (y_k (v := .bool (decide ((i : Int) < (s.data.toList.length : Int)))) rfl rfl (fun _ => by kernel_rfl)) h1) rfl ?_
  refine s_nil (q_then (c_seq (c_false rfl ?_)))
  refine c_exit ?_
  refine q_then_exit ?_
  refine q_then_exit ?_
  refine q_block_here ?_
  refine q_then (c_seq (c_region ?_))
  refine s_y rfl (v := .int .i64 (-1)) (y_as rfl) rfl ?_
  refine s_nil (q_then (c_ret ?_))
  refine c_fin (I' := []) [0, 0, 0] [] rfl (.tmp rfl .nil) rfl rfl rfl ?_
  exact ⟨(by show Value.int _ _ = Value.int _ _; congr 1; rw [hb]; first | exact (bad_end (by show s.data.toList.length ≤ i; omega)).symm | exact (bad_no hx1 (fun q => by have q2 := (ok_2 (by assumption)).1 q; first | omega | exact absurd q2.2 (by assumption) | (have q3 := q2.1; omega))).symm), rfl, rfl⟩
theorem first3_ (f : Fil) (s : ByteArray) (b1 : Nat) (b2 : Nat) (b3 : Nat) (hs : s.size ≤ 100000) (hk : f.kd = 3) : Con Tryd.prog 74 [.string s, .slice (some ⟨b1, 0, none⟩) 2 2] [pt b1 [.func (.func 80) #[] #[.pointer (some ⟨b2, 0, none⟩)], .func (.func 87) #[] #[.pointer (some ⟨b3, 0, none⟩)]] 137, pt b2 [.int .i64 f.kd, .int .i64 f.mx, .string f.fm] 39, pt b3 [.string ((recF f.fm).1)] 9] [] (fun v L' I' => v = .int .i64 (firstF f s) ∧ L' = [pt b1 [.func (.func 80) #[] #[.pointer (some ⟨b2, 0, none⟩)], .func (.func 87) #[] #[.pointer (some ⟨b3, 0, none⟩)]] 137, pt b2 [.int .i64 f.kd, .int .i64 f.mx, .string f.fm] 39, pt b3 [.string ((recF f.fm).1)] 9] ∧ I' = []) := by
 refine fn_of Tryd.func74 rfl Tryd.ntmps74 (by kernel_rfl) rfl (fun C => ?_)
 refine c_seq (c_region ?_)
 refine s_y rfl (v := .int .i64 0) (y_as rfl) rfl ?_
 refine s_nil (q_then (c_seq (c_seq (c_region ?_))))
 refine s_y rfl (v := .string s) (y_mv rfl) rfl ?_
 refine st rfl (o_s2b rfl Tryd.underlying9 Tryd.underlying141 Tryd.underlying5 rfl (by have := bl_size s; unfold bl at this; omega) (fun A1 c1 => ?_))
 refine s_y rfl (v := .int .i64 (s.data.toList.length : Int)) (y_k rfl rfl (fun _ => by kernel_rfl)) rfl ?_
 refine s_y rfl (v := .int .i64 0) (y_mv rfl) rfl ?_
 refine s_nil (q_then (c_block ?_))
 refine c_loopn (ι := Nat) (fun i => (i ≤ s.data.toList.length) ∧ (firstF f s = badAt f ((bl s).drop i) i)) (fun i => [(1, .slice (some ⟨b1, 0, none⟩) 2 2), (10, .slice A1 s.data.toList.length c1), (11, .int .i64 (s.data.toList.length : Int)), (12, .int .i64 (i : Int))]) (fun i => [pt b1 [.func (.func 80) #[] #[.pointer (some ⟨b2, 0, none⟩)], .func (.func 87) #[] #[.pointer (some ⟨b3, 0, none⟩)]] 137, pt b2 [.int .i64 f.kd, .int .i64 f.mx, .string f.fm] 39, pt b3 [.string ((recF f.fm).1)] 9]) (fun i => [rd u8Ty A1 c1 s.data.toList]) (fun i => s.data.toList.length - i) (0) [0, 0, 0] [0] (show (0 ≤ s.data.toList.length) ∧ (firstF f s = badAt f ((bl s).drop 0) 0) from ⟨by first | omega | simp_all | (simp; done), rfl⟩) ((.cons rfl rfl (.cons rfl rfl (.cons rfl rfl (.cons rfl rfl .nil))))) rfl rfl ?_
 rintro i ⟨hi, hb⟩
 show Ent 31 C [(1, .slice (some ⟨b1, 0, none⟩) 2 2), (10, .slice A1 s.data.toList.length c1), (11, .int .i64 (s.data.toList.length : Int)), (12, .int .i64 (i : Int))] [] [pt b1 [.func (.func 80) #[] #[.pointer (some ⟨b2, 0, none⟩)], .func (.func 87) #[] #[.pointer (some ⟨b3, 0, none⟩)]] 137, pt b2 [.int .i64 f.kd, .int .i64 f.mx, .string f.fm] 39, pt b3 [.string ((recF f.fm).1)] 9] [rd u8Ty A1 c1 s.data.toList] _
 refine c_seq (c_region ?_)
 refine e_by ((i : Int) < (s.data.toList.length : Int)) (fun h1 => ?_) (fun h1 => ?_)
 ·
  refine s_y rfl (v := .bool true) (y_t (y_k (v := .bool (decide ((i : Int) < (s.data.toList.length : Int)))) rfl rfl (fun _ => by kernel_rfl)) h1) rfl ?_
  refine s_nil (q_then (c_seq (c_true rfl (c_skip (q_then (c_seq (c_block (c_seq (c_region ?_)))))))))
  refine s_y rfl (v := .int .i64 (i : Int)) (y_mv rfl) rfl ?_
  refine e_at 0 i rfl (by first | omega | (simp only [List.length_append, List.length_map, List.length_take, List.length_drop]; omega)) (fun b4 o1 x1 hA1 hx1 => ?_)
  refine s_y rfl (v := .pointer (some ⟨b4, o1 + i * 1, none⟩)) (y_at (d := u8Ty) (l := s.data.toList) i hA1 rfl rfl rfl (rfl) (List.getElem?_eq_some_iff.1 hx1).1 Tryd.underlying141 (by kernel_rfl) (by kernel_rfl)) rfl ?_
  refine st rfl (o_ldf 0 0 rfl rfl rfl Tryd.underlying5 rfl rfl ?_)
  refine s_y rfl (v := .int .i64 (i : Int)) (y_as rfl) rfl ?_
  refine s_y rfl (v := .int .u8 (x1.toNat : Int)) (y_as rfl) rfl ?_
  refine s_nil (q_then (c_seq (c_region ?_)))
  refine s_y rfl (v := .slice (some ⟨b1, 0, none⟩) 2 2) (y_mv rfl) rfl ?_
  refine s_y rfl (v := .int .i64 2) (y_k rfl rfl (fun _ => by kernel_rfl)) rfl ?_
  refine s_y rfl (v := .int .i64 0) (y_mv rfl) rfl ?_
  refine s_nil (q_then (c_block ?_))
  refine c_unroll 3 ?_
  refine c_round ?_
  refine c_seq (c_region ?_)
  refine s_y rfl (v := .bool true) (y_k rfl rfl (fun _ => by kernel_rfl)) rfl ?_
  refine s_nil (q_then (c_seq (c_true rfl (c_skip (q_then (c_seq (c_block (c_seq (c_region ?_)))))))))
  refine s_y rfl (v := .pointer (some ⟨b1, 0, none⟩)) (y_k rfl rfl (fun _ => by kernel_rfl)) rfl ?_
  refine st rfl (o_ld 0 rfl rfl rfl Tryd.underlying137 rfl rfl ?_)
  refine s_y rfl (v := .func (.func 80) #[] #[.pointer (some ⟨b2, 0, none⟩)]) (y_as rfl) rfl ?_
  refine s_nil (q_then (c_seq (c_region ?_)))
  refine s_y rfl (v := .func (.func 80) #[] #[.pointer (some ⟨b2, 0, none⟩)]) (y_mv rfl) rfl ?_
  refine s_y rfl (v := .int .i64 (i : Int)) (y_mv rfl) rfl ?_
  refine s_y rfl (v := .int .u8 (x1.toNat : Int)) (y_mv rfl) rfl ?_
  refine st rfl (o_call [1] [] (isShort_ f b2 i x1) rfl rfl rfl rfl rfl rfl (fun v L' I' hq1 => ?_))
  obtain ⟨hv1, rfl, rfl⟩ := hq1
  refine e_by ((i : Int) < f.mx) (fun h2 => ?_) (fun h2 => ?_)
  ·
   obtain rfl : v = .bool true := by rw [hv1, decide_eq_true h2]
   refine s_y rfl (v := .bool false) (y_k rfl rfl (fun _ => by kernel_rfl)) rfl ?_
   refine s_nil (q_then (c_false rfl (c_skip (q_block (q_then (c_region ?_))))))
   refine s_y rfl (v := .int .i64 1) (y_add (r := 1) rfl rfl (by first | rfl | omega) (by have := bl_size s; unfold bl at this; omega)) rfl ?_
   refine s_y rfl (v := .int .i64 1) (y_mv rfl) rfl ?_
   refine s_nil (q_then ?_)
   refine c_round ?_
   refine c_seq (c_region ?_)
   refine s_y rfl (v := .bool true) (y_k rfl rfl (fun _ => by kernel_rfl)) rfl ?_
   refine s_nil (q_then (c_seq (c_true rfl (c_skip (q_then (c_seq (c_block (c_seq (c_region ?_)))))))))
   refine s_y rfl (v := .pointer (some ⟨b1, 1, none⟩)) (y_k rfl rfl (fun _ => by kernel_rfl)) rfl ?_
   refine st rfl (o_ld 1 rfl rfl rfl Tryd.underlying137 rfl rfl ?_)
   refine s_y rfl (v := .func (.func 87) #[] #[.pointer (some ⟨b3, 0, none⟩)]) (y_as rfl) rfl ?_
   refine s_nil (q_then (c_seq (c_region ?_)))
   refine s_y rfl (v := .func (.func 87) #[] #[.pointer (some ⟨b3, 0, none⟩)]) (y_mv rfl) rfl ?_
   refine s_y rfl (v := .int .i64 (i : Int)) (y_mv rfl) rfl ?_
   refine s_y rfl (v := .int .u8 (x1.toNat : Int)) (y_mv rfl) rfl ?_
   refine st rfl (o_call [2] [] (isIn1_ ((recF f.fm).1) b3 i x1) rfl rfl rfl rfl rfl rfl (fun v L' I' hq2 => ?_))
   obtain ⟨hv2, rfl, rfl⟩ := hq2
   refine e_by (∃ g, (bl ((recF f.fm).1))[i]? = some g ∧ fitsC g x1) (fun h3 => ?_) (fun h3 => ?_)
   ·
    obtain rfl : v = .bool true := by rw [hv2, decide_eq_true h3]
    refine s_y rfl (v := .bool false) (y_k rfl rfl (fun _ => by kernel_rfl)) rfl ?_
    refine s_nil (q_then (c_false rfl (c_skip (q_block (q_then (c_region ?_))))))
    refine s_y rfl (v := .int .i64 2) (y_add (r := 2) rfl rfl (by first | rfl | omega) (by have := bl_size s; unfold bl at this; omega)) rfl ?_
    refine s_y rfl (v := .int .i64 2) (y_mv rfl) rfl ?_
    refine s_nil (q_then ?_)
    refine c_round ?_
    refine c_seq (c_region ?_)
    refine s_y rfl (v := .bool false) (y_k rfl rfl (fun _ => by kernel_rfl)) rfl ?_
    refine s_nil (q_then (c_seq (c_false rfl ?_)))
    refine c_exit ?_
    refine q_then_exit ?_
    refine q_then_exit ?_
    refine q_block_here ?_
    refine q_block (q_then (c_region ?_))
    refine s_y rfl (v := .int .i64 ((i : Int) + 1)) (y_add (r := (i : Int) + 1) rfl rfl rfl (by have := bl_size s; unfold bl at this; omega)) rfl ?_
    refine s_y rfl (v := .int .i64 ((i : Int) + 1)) (y_mv rfl) rfl ?_
    refine s_nil (q_then ?_)
    refine c_next [2, 1, 0] [1] (i + 1) ?_ ?_ ?_ (by rfl) (by rfl)
    · exact (show ((i + 1) ≤ s.data.toList.length) ∧ (firstF f s = badAt f ((bl s).drop (i + 1)) (i + 1)) from ⟨by first | omega | simp_all | (simp; done), hb.trans (bad_ok hx1 ((ok_3 (by assumption)).2 ⟨by assumption, by assumption⟩))⟩)
    · show s.data.toList.length - (i + 1) < s.data.toList.length - i; omega
    · exact (.cons rfl rfl (.cons rfl rfl (.cons rfl rfl (.cons rfl (show (.int .i64 ((i : Int) + 1) : Value) = .int .i64 ((i + 1) : Int) from by first | rfl | (congr 1; omega) | (congr 1; simp; done) | (congr 1; simp; omega)) .nil))))
   ·
    obtain rfl : v = .bool false := by rw [hv2, decide_eq_false h3]
    refine s_y rfl (v := .bool true) (y_k rfl rfl (fun _ => by kernel_rfl)) rfl ?_
    refine s_nil (q_then (c_true rfl (c_seq (c_region ?_))))
    refine s_y rfl (v := .int .i64 (i : Int)) (y_mv rfl) rfl ?_
    refine s_y rfl (v := .int .i64 (i : Int)) (y_as rfl) rfl ?_
    refine s_nil (q_then (c_ret (q_block_ret (q_then_ret (q_then_ret (q_block_ret (q_block_ret (q_then_ret (q_then_ret (q_block_ret (q_then_ret ?_)))))))))))
    refine c_fin (I' := []) [2, 1, 0] [] rfl (.tmp rfl .nil) rfl rfl rfl ?_
    exact ⟨(by show Value.int _ _ = Value.int _ _; congr 1; rw [hb]; first | exact (bad_end (by show s.data.toList.length ≤ i; omega)).symm | exact (bad_no hx1 (fun q => by have q2 := (ok_3 (by assumption)).1 q; first | omega | exact absurd q2.2 (by assumption) | (have q3 := q2.1; omega))).symm), rfl, rfl⟩
  ·
   obtain rfl : v = .bool false := by rw [hv1, decide_eq_false h2]
   refine s_y rfl (v := .bool true) (y_k rfl rfl (fun _ => by kernel_rfl)) rfl ?_
   refine s_nil (q_then (c_true rfl (c_seq (c_region ?_))))
   refine s_y rfl (v := .int .i64 (i : Int)) (y_mv rfl) rfl ?_
   refine s_y rfl (v := .int .i64 (i : Int)) (y_as rfl) rfl ?_
   refine s_nil (q_then (c_ret (q_block_ret (q_then_ret (q_then_ret (q_block_ret (q_block_ret (q_then_ret (q_then_ret (q_block_ret (q_then_ret ?_)))))))))))
   refine c_fin (I' := []) [1, 0, 0] [] rfl (.tmp rfl .nil) rfl rfl rfl ?_
   exact ⟨(by show Value.int _ _ = Value.int _ _; congr 1; rw [hb]; first | exact (bad_end (by show s.data.toList.length ≤ i; omega)).symm | exact (bad_no hx1 (fun q => by have q2 := (ok_3 (by assumption)).1 q; first | omega | exact absurd q2.2 (by assumption) | (have q3 := q2.1; omega))).symm), rfl, rfl⟩
 ·
  refine s_y rfl (v := .bool false) (y_f (y_k (v := .bool (decide ((i : Int) < (s.data.toList.length : Int)))) rfl rfl (fun _ => by kernel_rfl)) h1) rfl ?_
  refine s_nil (q_then (c_seq (c_false rfl ?_)))
  refine c_exit ?_
  refine q_then_exit ?_
  refine q_then_exit ?_
  refine q_block_here ?_
  refine q_then (c_seq (c_region ?_))
  refine s_y rfl (v := .int .i64 (-1)) (y_as rfl) rfl ?_
  refine s_nil (q_then (c_ret ?_))
  refine c_fin (I' := []) [0, 0, 0] [] rfl (.tmp rfl .nil) rfl rfl rfl ?_
  exact ⟨(by show Value.int _ _ = Value.int _ _; congr 1; rw [hb]; first | exact (bad_end (by show s.data.toList.length ≤ i; omega)).symm | exact (bad_no hx1 (fun q => by have q2 := (ok_3 (by assumption)).1 q; first | omega | exact absurd q2.2 (by assumption) | (have q3 := q2.1; omega))).symm), rfl, rfl⟩
end Go.Proofs.YthehnjbdkjnlpaaDoor
