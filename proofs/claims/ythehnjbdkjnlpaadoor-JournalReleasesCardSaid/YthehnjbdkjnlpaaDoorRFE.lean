/- The laws of chapter 15 (journal), walked over the given program; no condition but what stands in each theorem: part FE. -/
import Derived.Test.YthehnjbdkjnlpaaDoorRFA
set_option linter.unusedVariables false
set_option linter.unusedSimpArgs false
set_option maxRecDepth 100000
set_option maxHeartbeats 8000000
namespace Go.Proofs.YthehnjbdkjnlpaaDoor
open Go Go.Sl Go.RowKit Go.Extern.Stop Go.Stop Go.Extern
theorem isShort_ (f : Fil) (k : Nat) (i : Nat) (c : UInt8) : Con Tryd.prog 80 [.int .i64 (i : Int), .int .u8 (c.toNat : Int), .pointer (some ⟨k, 0, none⟩)] [pt k [.int .i64 f.kd, .int .i64 f.mx, .string f.fm] 39] [] (fun v L' I' => v = .bool (decide ((i : Int) < f.mx)) ∧ L' = [pt k [.int .i64 f.kd, .int .i64 f.mx, .string f.fm] 39] ∧ I' = []) := by
 refine fn_of Tryd.func80 rfl Tryd.ntmps80 (by kernel_rfl) rfl (fun C => ?_)
 refine c_seq (c_region ?_)
 refine s_y rfl (v := .bool false) (y_as rfl) rfl ?_
 refine s_nil (q_then (c_seq (c_region ?_)))
 refine s_y rfl (v := .int .i64 (i : Int)) (y_mv rfl) rfl ?_
 refine s_y rfl (v := .pointer (some ⟨k, 1, none⟩)) (y_k rfl rfl (fun _ => by kernel_rfl)) rfl ?_
 refine st rfl (o_ld 0 rfl rfl rfl Tryd.underlying3 rfl rfl ?_)
 refine e_by ((i : Int) < f.mx) (fun h1 => ?_) (fun h1 => ?_)
 ·
  refine s_y rfl (v := .bool true) (y_t (y_k (v := .bool (decide ((i : Int) < f.mx))) rfl rfl (fun _ => by kernel_rfl)) h1) rfl ?_
  refine s_y rfl (v := .bool true) (y_as rfl) rfl ?_
  refine s_nil (q_then (c_ret ?_))
  refine c_fin (I' := []) [0] [] rfl (.tmp rfl .nil) rfl rfl rfl ?_
  exact ⟨dec_t (by first | assumption | omega), rfl, rfl⟩
 ·
  refine s_y rfl (v := .bool false) (y_f (y_k (v := .bool (decide ((i : Int) < f.mx))) rfl rfl (fun _ => by kernel_rfl)) h1) rfl ?_
  refine s_y rfl (v := .bool false) (y_as rfl) rfl ?_
  refine s_nil (q_then (c_ret ?_))
  refine c_fin (I' := []) [0] [] rfl (.tmp rfl .nil) rfl rfl rfl ?_
  exact ⟨dec_f (by first | assumption | omega), rfl, rfl⟩
theorem isOf_ (sg : ByteArray) : Con Tryd.prog 82 [.string sg] [] [] (fun v L' I' => ∃ k : Nat, v = .func (.func 85) #[] #[.pointer (some ⟨k, 0, none⟩)] ∧ L' = [pt k [.string sg] 9] ∧ I' = []) := by
 refine fn_of Tryd.func82 rfl Tryd.ntmps82 (by kernel_rfl) rfl (fun C => ?_)
 refine c_seq (c_region ?_)
 refine st rfl (o_box (cs := [.string sg]) (T := 9) rfl rfl rfl rfl (fun _ => by kernel_rfl) (fun b1 => ?_))
 refine s_y rfl (v := .nilFunc) (y_as rfl) rfl ?_
 refine s_nil (q_then (c_seq (c_region ?_)))
 refine s_y rfl (v := .func (.func 85) #[] #[.pointer (some ⟨b1, 0, none⟩)]) (y_k rfl rfl (fun _ => by kernel_rfl)) rfl ?_
 refine s_y rfl (v := .func (.func 85) #[] #[.pointer (some ⟨b1, 0, none⟩)]) (y_as rfl) rfl ?_
 refine s_nil (q_then (c_ret ?_))
 refine c_fin (I' := []) [0] [] rfl (.tmp rfl .nil) rfl rfl rfl ?_
 exact ⟨b1, rfl, rfl, rfl⟩
theorem isIn_ (sg : ByteArray) : Con Tryd.prog 84 [.string sg] [] [] (fun v L' I' => ∃ k : Nat, v = .func (.func 87) #[] #[.pointer (some ⟨k, 0, none⟩)] ∧ L' = [pt k [.string sg] 9] ∧ I' = []) := by
 refine fn_of Tryd.func84 rfl Tryd.ntmps84 (by kernel_rfl) rfl (fun C => ?_)
 refine c_seq (c_region ?_)
 refine st rfl (o_box (cs := [.string sg]) (T := 9) rfl rfl rfl rfl (fun _ => by kernel_rfl) (fun b1 => ?_))
 refine s_y rfl (v := .nilFunc) (y_as rfl) rfl ?_
 refine s_nil (q_then (c_seq (c_region ?_)))
 refine s_y rfl (v := .func (.func 87) #[] #[.pointer (some ⟨b1, 0, none⟩)]) (y_k rfl rfl (fun _ => by kernel_rfl)) rfl ?_
 refine s_y rfl (v := .func (.func 87) #[] #[.pointer (some ⟨b1, 0, none⟩)]) (y_as rfl) rfl ?_
 refine s_nil (q_then (c_ret ?_))
 refine c_fin (I' := []) [0] [] rfl (.tmp rfl .nil) rfl rfl rfl ?_
 exact ⟨b1, rfl, rfl, rfl⟩
theorem isOf1_ (sg : ByteArray) (k : Nat) (z : Int) (c : UInt8) (hssg : sg.size ≤ 100000) : Con Tryd.prog 85 [.int .i64 z, .int .u8 (c.toNat : Int), .pointer (some ⟨k, 0, none⟩)] [pt k [.string sg] 9] [] (fun v L' I' => v = .bool (decide (inCl (bl sg) c)) ∧ L' = [pt k [.string sg] 9] ∧ I' = []) := by
 refine fn_of Tryd.func85 rfl Tryd.ntmps85 (by kernel_rfl) rfl (fun C => ?_)
 refine c_seq (c_region ?_)
 refine s_y rfl (v := .bool false) (y_as rfl) rfl ?_
 refine s_nil (q_then (c_seq (c_seq (c_region ?_))))
 refine s_y rfl (v := .int .i64 0) (y_as rfl) rfl ?_
 refine s_nil (q_then (c_block ?_))
 refine c_loopn (ι := Nat) (fun j => (j ≤ sg.size + 1) ∧ (inCl (bl sg) c ↔ inCl ((bl sg).drop j) c)) (fun j => [(1, .int .u8 (c.toNat : Int)), (2, .pointer (some ⟨k, 0, none⟩)), (6, .int .i64 (j : Int))]) (fun j => [pt k [.string sg] 9]) (fun j => []) (fun j => sg.size + 2 - j) (0) [0] [] (show (0 ≤ sg.size + 1) ∧ (inCl (bl sg) c ↔ inCl ((bl sg).drop 0) c) from ⟨by first | omega | simp_all | (simp; done), Iff.rfl⟩) ((.cons rfl rfl (.cons rfl rfl (.cons rfl rfl .nil)))) rfl rfl ?_
 rintro j ⟨hj, hF⟩
 show Ent 27 C [(1, .int .u8 (c.toNat : Int)), (2, .pointer (some ⟨k, 0, none⟩)), (6, .int .i64 (j : Int))] [] [pt k [.string sg] 9] [] _
 refine c_seq (c_seq (c_region ?_))
 refine s_y rfl (v := .int .i64 (j : Int)) (y_mv rfl) rfl ?_
 refine s_y rfl (v := .int .i64 ((j : Int) + 1)) (y_add (r := (j : Int) + 1) rfl rfl rfl (by omega)) rfl ?_
 refine st rfl (o_ld 0 rfl rfl rfl Tryd.underlying9 rfl rfl ?_)
 refine s_y rfl (v := .int .i64 (sg.size : Int)) (y_k rfl rfl (fun _ => by kernel_rfl)) rfl ?_
 refine e_by ((j : Int) + 1 < (sg.size : Int)) (fun h1 => ?_) (fun h1 => ?_)
 ·
  refine s_y rfl (v := .bool true) (y_t (y_k (v := .bool (decide ((j : Int) + 1 < (sg.size : Int)))) rfl rfl (fun _ => by kernel_rfl)) h1) rfl ?_
  refine s_nil (q_then (c_true rfl (c_skip (q_then (c_seq (c_block (c_seq (c_region ?_))))))))
  refine s_y rfl (v := .int .u8 (c.toNat : Int)) (y_mv rfl) rfl ?_
  refine st rfl (o_ld 0 rfl rfl rfl Tryd.underlying9 rfl rfl ?_)
  refine s_y rfl (v := .int .i64 (j : Int)) (y_mv rfl) rfl ?_
  obtain ⟨x1, hb1⟩ : ∃ x, (sg)[j]? = some x := ⟨_, getElem?_pos (sg) j (by omega)⟩
  refine s_y rfl (v := .int .u8 (x1.toNat : Int)) (y_sidx j x1 rfl rfl (rfl) hb1 Tryd.underlying9) rfl ?_
  refine e_by ((c.toNat : Int) ≥ (x1.toNat : Int)) (fun h2 => ?_) (fun h2 => ?_)
  ·
   refine s_y rfl (v := .bool true) (y_t (y_k (v := .bool (decide ((c.toNat : Int) ≥ (x1.toNat : Int)))) rfl rfl (fun _ => by kernel_rfl)) h2) rfl ?_
   refine s_y rfl (v := .bool true) (y_mv rfl) rfl ?_
   refine st_on 19 rfl rfl rfl (o_y (v := .int .u8 (c.toNat : Int)) (y_mv rfl) rfl rfl rfl ?_)
   refine st_on 19 rfl rfl rfl (o_ld 0 rfl rfl rfl Tryd.underlying9 rfl rfl ?_)
   refine st_on 19 rfl rfl rfl (o_y (v := .int .i64 (j : Int)) (y_mv rfl) rfl rfl rfl ?_)
   refine st_on 19 rfl rfl rfl (o_y (v := .int .i64 ((j : Int) + 1)) (y_add (r := (j : Int) + 1) rfl rfl rfl (by omega)) rfl rfl rfl ?_)
   obtain ⟨x2, hb2⟩ : ∃ x, (sg)[j + 1]? = some x := ⟨_, getElem?_pos (sg) (j + 1) (by omega)⟩
   refine st_on 19 rfl rfl rfl (o_y (v := .int .u8 (x2.toNat : Int)) (y_sidx (j + 1) x2 rfl rfl (rfl) hb2 Tryd.underlying9) rfl rfl rfl ?_)
   refine e_by ((c.toNat : Int) ≤ (x2.toNat : Int)) (fun h3 => ?_) (fun h3 => ?_)
   ·
    refine st_on 19 rfl rfl rfl (o_y (v := .bool true) (y_t (y_k (v := .bool (decide ((c.toNat : Int) ≤ (x2.toNat : Int)))) rfl rfl (fun _ => by kernel_rfl)) h3) rfl rfl rfl ?_)
    refine s_y rfl (v := .bool true) (y_pick rfl rfl) rfl ?_
    refine s_nil (q_then (c_true rfl (c_seq (c_region ?_))))
    refine s_y rfl (v := .bool true) (y_as rfl) rfl ?_
    refine s_nil (q_then (c_ret (q_block_ret (q_then_ret (q_then_ret (q_block_ret (q_then_ret ?_)))))))
    refine c_fin (I' := []) [0] [] rfl (.tmp rfl .nil) rfl rfl rfl ?_
    exact ⟨by show Value.bool _ = Value.bool _; congr 1; symm; first | exact decide_eq_true (by first | exact hF.2 ((incl_at ((bl_get _ _).symm.trans hb1) ((bl_get _ _).symm.trans hb2)).2 (.inl (by omega))) | exact fun q => incl_end (by rw [bl_size]; omega) (hF.1 q)) | exact decide_eq_false (by first | exact hF.2 ((incl_at ((bl_get _ _).symm.trans hb1) ((bl_get _ _).symm.trans hb2)).2 (.inl (by omega))) | exact fun q => incl_end (by rw [bl_size]; omega) (hF.1 q)), rfl, rfl⟩
   ·
    refine st_on 19 rfl rfl rfl (o_y (v := .bool false) (y_f (y_k (v := .bool (decide ((c.toNat : Int) ≤ (x2.toNat : Int)))) rfl rfl (fun _ => by kernel_rfl)) h3) rfl rfl rfl ?_)
    refine s_y rfl (v := .bool false) (y_pick rfl rfl) rfl ?_
    refine s_nil (q_then (c_false rfl (c_skip (q_block (q_then (c_region ?_))))))
    refine s_y rfl (v := .int .i64 (j : Int)) (y_mv rfl) rfl ?_
    refine s_y rfl (v := .int .i64 ((j : Int) + 2)) (y_add (r := (j : Int) + 2) rfl rfl rfl (by omega)) rfl ?_
    refine s_y rfl (v := .int .i64 ((j : Int) + 2)) (y_as rfl) rfl ?_
    refine s_nil (q_then ?_)
    refine c_next [0] [] (j + 2) ?_ ?_ ?_ (by rfl) (by rfl)
    · exact (show ((j + 2) ≤ sg.size + 1) ∧ (inCl (bl sg) c ↔ inCl ((bl sg).drop (j + 2)) c) from ⟨by first | omega | simp_all | (simp; done), hF.trans ((incl_at ((bl_get _ _).symm.trans hb1) ((bl_get _ _).symm.trans hb2)).trans ⟨fun q => q.resolve_left (by omega), .inr⟩)⟩)
    · show sg.size + 2 - (j + 2) < sg.size + 2 - j; omega
    · exact (.cons rfl rfl (.cons rfl rfl (.cons rfl (show (.int .i64 ((j : Int) + 2) : Value) = .int .i64 ((j + 2) : Int) from by first | rfl | (congr 1; omega) | (congr 1; simp; done) | (congr 1; simp; omega)) .nil)))
  ·
   refine s_y rfl (v := .bool false) (y_f (y_k (v := .bool (decide ((c.toNat : Int) ≥ (x1.toNat : Int)))) rfl rfl (fun _ => by kernel_rfl)) h2) rfl ?_
   refine s_y rfl (v := .bool false) (y_mv rfl) rfl ?_
   refine st_off 19 rfl rfl rfl rfl rfl rfl ?_
   refine st_off 19 rfl rfl rfl rfl rfl rfl ?_
   refine st_off 19 rfl rfl rfl rfl rfl rfl ?_
   refine st_off 19 rfl rfl rfl rfl rfl rfl ?_
   refine st_off 19 rfl rfl rfl rfl rfl rfl ?_
   refine st_off 19 rfl rfl rfl rfl rfl rfl ?_
   refine s_y rfl (v := .bool false) (y_pick rfl rfl) rfl ?_
   refine s_nil (q_then (c_false rfl (c_skip (q_block (q_then (c_region ?_))))))
   refine s_y rfl (v := .int .i64 (j : Int)) (y_mv rfl) rfl ?_
   refine s_y rfl (v := .int .i64 ((j : Int) + 2)) (y_add (r := (j : Int) + 2) rfl rfl rfl (by omega)) rfl ?_
   refine s_y rfl (v := .int .i64 ((j : Int) + 2)) (y_as rfl) rfl ?_
   refine s_nil (q_then ?_)
   refine c_next [0] [] (j + 2) ?_ ?_ ?_ (by rfl) (by rfl)
   · exact (show ((j + 2) ≤ sg.size + 1) ∧ (inCl (bl sg) c ↔ inCl ((bl sg).drop (j + 2)) c) from ⟨by first | omega | simp_all | (simp; done), hF.trans (incl_no ((bl_get _ _).symm.trans hb1) (by rw [bl_size]; omega) (by assumption))⟩)
   · show sg.size + 2 - (j + 2) < sg.size + 2 - j; omega
   · exact (.cons rfl rfl (.cons rfl rfl (.cons rfl (show (.int .i64 ((j : Int) + 2) : Value) = .int .i64 ((j + 2) : Int) from by first | rfl | (congr 1; omega) | (congr 1; simp; done) | (congr 1; simp; omega)) .nil)))
 ·
  refine s_y rfl (v := .bool false) (y_f (y_k (v := .bool (decide ((j : Int) + 1 < (sg.size : Int)))) rfl rfl (fun _ => by kernel_rfl)) h1) rfl ?_
  refine s_nil (q_then (c_false rfl ?_))
  refine c_exit ?_
  refine q_then_exit ?_
  refine q_then_exit ?_
  refine q_block_here ?_
  refine q_then (c_seq (c_region ?_))
  refine s_y rfl (v := .bool false) (y_as rfl) rfl ?_
  refine s_nil (q_then (c_ret ?_))
  refine c_fin (I' := []) [0] [] rfl (.tmp rfl .nil) rfl rfl rfl ?_
  exact ⟨by show Value.bool _ = Value.bool _; congr 1; symm; first | exact decide_eq_true (by first | exact hF.2 ((incl_at ((bl_get _ _).symm.trans hx) ((bl_get _ _).symm.trans hx)).2 (.inl (by omega))) | exact fun q => incl_end (by rw [bl_size]; omega) (hF.1 q)) | exact decide_eq_false (by first | exact hF.2 ((incl_at ((bl_get _ _).symm.trans hx) ((bl_get _ _).symm.trans hx)).2 (.inl (by omega))) | exact fun q => incl_end (by rw [bl_size]; omega) (hF.1 q)), rfl, rfl⟩
theorem isClass_ (sg : ByteArray) (hssg : sg.size ≤ 100000) : Con Tryd.prog 81 [.string sg] [] [] (fun v L' I' => v = .bool (decide (classP sg)) ∧ L' = [] ∧ I' = []) := by
 refine fn_of Tryd.func81 rfl Tryd.ntmps81 (by kernel_rfl) rfl (fun C => ?_)
 refine c_seq (c_region ?_)
 refine s_y rfl (v := .bool false) (y_as rfl) rfl ?_
 refine s_nil (q_then (c_seq (c_seq (c_region ?_))))
 refine s_y rfl (v := .string sg) (y_mv rfl) rfl ?_
 refine e_by (sg = (⟨#[]⟩ : ByteArray)) (fun h1 => ?_) (fun h1 => ?_)
 ·
  refine s_y rfl (v := .bool true) (y_b (y_k (v := .bool (sg.toList == (⟨#[]⟩ : ByteArray).toList)) rfl rfl (fun _ => by kernel_rfl)) (str_t h1)) rfl ?_
  refine s_y rfl (v := .bool true) (y_mv rfl) rfl ?_
  refine st_off 6 rfl rfl rfl rfl rfl rfl ?_
  refine st_off 6 rfl rfl rfl rfl rfl rfl ?_
  refine st_off 6 rfl rfl rfl rfl rfl rfl ?_
  refine st_off 6 rfl rfl rfl rfl rfl rfl ?_
  refine s_y rfl (v := .bool true) (y_pick rfl rfl) rfl ?_
  refine s_nil (q_then (c_true rfl (c_seq (c_region ?_))))
  refine s_y rfl (v := .bool false) (y_as rfl) rfl ?_
  refine s_nil (q_then (c_ret (q_then_ret ?_)))
  refine c_fin (I' := []) [] [] rfl (.tmp rfl .nil) rfl rfl rfl ?_
  exact ⟨by show Value.bool _ = Value.bool _; congr 1; symm; first | exact decide_eq_true (by first | exact fun q => q.1 (by assumption) | exact fun q => cls_no ((bl_get _ _).symm.trans hx) (by assumption) (hF.1 q.2) | (intro q; have q2 := cls_even _ q.2; rw [bl_size] at q2; omega) | (intro q; have q2 := (cls_at ((bl_get _ _).symm.trans hx) ((bl_get _ _).symm.trans hx)).1 (hF.1 q.2); omega) | exact ⟨by assumption, hF.2 (by rw [List.drop_eq_nil_of_le (by rw [bl_size]; omega)]; trivial)⟩) | exact decide_eq_false (by first | exact fun q => q.1 (by assumption) | exact fun q => cls_no ((bl_get _ _).symm.trans hx) (by assumption) (hF.1 q.2) | (intro q; have q2 := cls_even _ q.2; rw [bl_size] at q2; omega) | (intro q; have q2 := (cls_at ((bl_get _ _).symm.trans hx) ((bl_get _ _).symm.trans hx)).1 (hF.1 q.2); omega) | exact ⟨by assumption, hF.2 (by rw [List.drop_eq_nil_of_le (by rw [bl_size]; omega)]; trivial)⟩), rfl, rfl⟩
 ·
  refine s_y rfl (v := .bool false) (y_b (y_k (v := .bool (sg.toList == (⟨#[]⟩ : ByteArray).toList)) rfl rfl (fun _ => by kernel_rfl)) (str_f h1)) rfl ?_
  refine s_y rfl (v := .bool false) (y_mv rfl) rfl ?_
  refine st_on 6 rfl rfl rfl (o_y (v := .string sg) (y_mv rfl) rfl rfl rfl ?_)
  refine st_on 6 rfl rfl rfl (o_y (v := .int .i64 (sg.size : Int)) (y_k rfl rfl (fun _ => by kernel_rfl)) rfl rfl rfl ?_)
  refine st_on 6 rfl rfl rfl (o_y (v := .int .i64 ((sg.size : Int) % 2)) (y_rem (r := (sg.size : Int) % 2) rfl rfl rfl (by omega)) rfl rfl rfl ?_)
  refine e_by ((sg.size : Int) % 2 = 1) (fun h2 => ?_) (fun h2 => ?_)
  ·
   refine st_on 6 rfl rfl rfl (o_y (v := .bool true) (y_t (y_k (v := .bool (decide ((sg.size : Int) % 2 = 1))) rfl rfl (fun _ => by kernel_rfl)) h2) rfl rfl rfl ?_)
   refine s_y rfl (v := .bool true) (y_pick rfl rfl) rfl ?_
   refine s_nil (q_then (c_true rfl (c_seq (c_region ?_))))
   refine s_y rfl (v := .bool false) (y_as rfl) rfl ?_
   refine s_nil (q_then (c_ret (q_then_ret ?_)))
   refine c_fin (I' := []) [] [] rfl (.tmp rfl .nil) rfl rfl rfl ?_
   exact ⟨by show Value.bool _ = Value.bool _; congr 1; symm; first | exact decide_eq_true (by first | exact fun q => q.1 (by assumption) | exact fun q => cls_no ((bl_get _ _).symm.trans hx) (by assumption) (hF.1 q.2) | (intro q; have q2 := cls_even _ q.2; rw [bl_size] at q2; omega) | (intro q; have q2 := (cls_at ((bl_get _ _).symm.trans hx) ((bl_get _ _).symm.trans hx)).1 (hF.1 q.2); omega) | exact ⟨by assumption, hF.2 (by rw [List.drop_eq_nil_of_le (by rw [bl_size]; omega)]; trivial)⟩) | exact decide_eq_false (by first | exact fun q => q.1 (by assumption) | exact fun q => cls_no ((bl_get _ _).symm.trans hx) (by assumption) (hF.1 q.2) | (intro q; have q2 := cls_even _ q.2; rw [bl_size] at q2; omega) | (intro q; have q2 := (cls_at ((bl_get _ _).symm.trans hx) ((bl_get _ _).symm.trans hx)).1 (hF.1 q.2); omega) | exact ⟨by assumption, hF.2 (by rw [List.drop_eq_nil_of_le (by rw [bl_size]; omega)]; trivial)⟩), rfl, rfl⟩
  ·
   refine st_on 6 rfl rfl rfl (o_y (v := .bool false) (y_f (y_k (v := .bool (decide ((sg.size : Int) % 2 = 1))) rfl rfl (fun _ => by kernel_rfl)) h2) rfl rfl rfl ?_)
   refine s_y rfl (v := .bool false) (y_pick rfl rfl) rfl ?_
   refine s_nil (q_then (c_false rfl (c_skip (q_then (c_seq (c_seq (c_region ?_)))))))
   refine s_y rfl (v := .int .i64 0) (y_as rfl) rfl ?_
   refine s_nil (q_then (c_block ?_))
   refine c_loopn (ι := Nat) (fun j => (j ≤ sg.size) ∧ (j % 2 = 0) ∧ (clsL (bl sg) ↔ clsL ((bl sg).drop j))) (fun j => [(0, .string sg), (3, .int .i64 (j : Int))]) (fun j => []) (fun j => []) (fun j => sg.size - j) (0) [] [] (show (0 ≤ sg.size) ∧ (0 % 2 = 0) ∧ (clsL (bl sg) ↔ clsL ((bl sg).drop 0)) from ⟨by first | omega | simp_all | (simp; done), by first | omega | simp_all | (simp; done), Iff.rfl⟩) ((.cons rfl rfl (.cons rfl rfl .nil))) rfl rfl ?_
   rintro j ⟨hj, he, hF⟩
   show Ent 39 C [(0, .string sg), (3, .int .i64 (j : Int))] [] [] [] _
   refine c_seq (c_seq (c_region ?_))
   refine s_y rfl (v := .int .i64 (j : Int)) (y_mv rfl) rfl ?_
   refine s_y rfl (v := .string sg) (y_mv rfl) rfl ?_
   refine s_y rfl (v := .int .i64 (sg.size : Int)) (y_k rfl rfl (fun _ => by kernel_rfl)) rfl ?_
   refine e_by ((j : Int) < (sg.size : Int)) (fun h3 => ?_) (fun h3 => ?_)
   ·
    refine s_y rfl (v := .bool true) (y_t (y_k (v := .bool (decide ((j : Int) < (sg.size : Int)))) rfl rfl (fun _ => by kernel_rfl)) h3) rfl ?_
    refine s_nil (q_then (c_true rfl (c_skip (q_then (c_seq (c_block (c_seq ?_)))))))
    refine c_draw (l := ticked 21 0) [] [] (by kernel_rfl) rfl rfl ?_
    refine b_y (i := 0) (v := .string sg) (ticked 21 1) rfl rfl (by exact y_mv rfl) ?_
    refine b_y (i := 1) (v := .int .i64 (j : Int)) (ticked 21 3) rfl rfl (by exact y_mv rfl) ?_
    obtain ⟨x1, hb1⟩ : ∃ x, (sg)[j]? = some x := ⟨_, getElem?_pos (sg) j (by omega)⟩
    refine b_y (i := 2) (v := .int .u8 (x1.toNat : Int)) (ticked 21 7) rfl rfl (by exact y_sidx j x1 rfl rfl (rfl) hb1 Tryd.underlying9) ?_
    refine e_by ((x1.toNat : Int) < 33) (fun h4 => ?_) (fun h4 => ?_)
    ·
     refine b_y (i := 3) (v := .bool true) (ticked 21 15) rfl rfl (by exact y_t (y_k (v := .bool (decide ((x1.toNat : Int) < 33))) rfl rfl (fun _ => by kernel_rfl)) h4) ?_
     refine b_y (i := 4) (v := .bool true) (ticked 21 31) rfl rfl (by exact y_mv rfl) ?_
     refine b_f (i := 5) 22 (ticked 21 63) rfl rfl rfl rfl ?_
     refine b_f (i := 6) 22 (ticked 21 127) rfl rfl rfl rfl ?_
     refine b_f (i := 7) 22 (ticked 21 255) rfl rfl rfl rfl ?_
     refine b_f (i := 8) 22 (ticked 21 511) rfl rfl rfl rfl ?_
     refine b_f (i := 9) 22 (ticked 21 1023) rfl rfl rfl rfl ?_
     refine b_y (i := 10) (v := .bool true) (ticked 21 2047) rfl rfl (by exact y_pick rfl rfl) ?_
     refine b_y (i := 11) (v := .bool true) (ticked 21 4095) rfl rfl (by exact y_mv rfl) ?_
     refine b_f (i := 12) 29 (ticked 21 8191) rfl rfl rfl rfl ?_
     refine b_f (i := 13) 29 (ticked 21 16383) rfl rfl rfl rfl ?_
     refine b_f (i := 14) 29 (ticked 21 32767) rfl rfl rfl rfl ?_
     refine b_f (i := 15) 29 (ticked 21 65535) rfl rfl rfl rfl ?_
     refine b_f (i := 16) 29 (ticked 21 131071) rfl rfl rfl rfl ?_
     refine b_f (i := 17) 29 (ticked 21 262143) rfl rfl rfl rfl ?_
     refine b_f (i := 18) 29 (ticked 21 524287) rfl rfl rfl rfl ?_
     refine b_f (i := 19) 29 (ticked 21 1048575) rfl rfl rfl rfl ?_
     refine b_y (i := 20) (v := .bool true) (ticked 21 2097151) rfl rfl (by exact y_pick rfl rfl) ?_
     refine a_done (by as_aux_lemma => kernel_rfl) ?_
     refine q_then (c_true rfl (c_seq (c_region ?_)))
     refine s_y rfl (v := .bool false) (y_as rfl) rfl ?_
     refine s_nil (q_then (c_ret (q_block_ret (q_then_ret (q_then_ret (q_block_ret (q_then_ret ?_)))))))
     refine c_fin (I' := []) [] [] rfl (.tmp rfl .nil) rfl rfl rfl ?_
     exact ⟨by show Value.bool _ = Value.bool _; congr 1; symm; first | exact decide_eq_true (by first | exact fun q => q.1 (by assumption) | exact fun q => cls_no ((bl_get _ _).symm.trans hb1) (by assumption) (hF.1 q.2) | (intro q; have q2 := cls_even _ q.2; rw [bl_size] at q2; omega) | (intro q; have q2 := (cls_at ((bl_get _ _).symm.trans hb1) ((bl_get _ _).symm.trans hx)).1 (hF.1 q.2); omega) | exact ⟨by assumption, hF.2 (by rw [List.drop_eq_nil_of_le (by rw [bl_size]; omega)]; trivial)⟩) | exact decide_eq_false (by first | exact fun q => q.1 (by assumption) | exact fun q => cls_no ((bl_get _ _).symm.trans hb1) (by assumption) (hF.1 q.2) | (intro q; have q2 := cls_even _ q.2; rw [bl_size] at q2; omega) | (intro q; have q2 := (cls_at ((bl_get _ _).symm.trans hb1) ((bl_get _ _).symm.trans hx)).1 (hF.1 q.2); omega) | exact ⟨by assumption, hF.2 (by rw [List.drop_eq_nil_of_le (by rw [bl_size]; omega)]; trivial)⟩), rfl, rfl⟩
    ·
     refine b_y (i := 3) (v := .bool false) (ticked 21 15) rfl rfl (by exact y_f (y_k (v := .bool (decide ((x1.toNat : Int) < 33))) rfl rfl (fun _ => by kernel_rfl)) h4) ?_
     refine b_y (i := 4) (v := .bool false) (ticked 21 31) rfl rfl (by exact y_mv rfl) ?_
     refine b_yo (i := 5) (v := .string sg) 22 (ticked 21 63) rfl rfl rfl (by exact y_mv rfl) ?_
     refine b_yo (i := 6) (v := .int .i64 (j : Int)) 22 (ticked 21 127) rfl rfl rfl (by exact y_mv rfl) ?_
     refine b_yo (i := 7) (v := .int .i64 ((j : Int) + 1)) 22 (ticked 21 255) rfl rfl rfl (by exact y_add (r := (j : Int) + 1) rfl rfl rfl (by omega)) ?_
     obtain ⟨x2, hb2⟩ : ∃ x, (sg)[j + 1]? = some x := ⟨_, getElem?_pos (sg) (j + 1) (by omega)⟩
     refine b_yo (i := 8) (v := .int .u8 (x2.toNat : Int)) 22 (ticked 21 511) rfl rfl rfl (by exact y_sidx (j + 1) x2 rfl rfl (rfl) hb2 Tryd.underlying9) ?_
     refine e_by ((x2.toNat : Int) > 126) (fun h5 => ?_) (fun h5 => ?_)
     ·
      refine b_yo (i := 9) (v := .bool true) 22 (ticked 21 1023) rfl rfl rfl (by exact y_t (y_k (v := .bool (decide ((x2.toNat : Int) > 126))) rfl rfl (fun _ => by kernel_rfl)) h5) ?_
      refine b_y (i := 10) (v := .bool true) (ticked 21 2047) rfl rfl (by exact y_pick rfl rfl) ?_
      refine b_y (i := 11) (v := .bool true) (ticked 21 4095) rfl rfl (by exact y_mv rfl) ?_
      refine b_f (i := 12) 29 (ticked 21 8191) rfl rfl rfl rfl ?_
      refine b_f (i := 13) 29 (ticked 21 16383) rfl rfl rfl rfl ?_
      refine b_f (i := 14) 29 (ticked 21 32767) rfl rfl rfl rfl ?_
      refine b_f (i := 15) 29 (ticked 21 65535) rfl rfl rfl rfl ?_
      refine b_f (i := 16) 29 (ticked 21 131071) rfl rfl rfl rfl ?_
      refine b_f (i := 17) 29 (ticked 21 262143) rfl rfl rfl rfl ?_
      refine b_f (i := 18) 29 (ticked 21 524287) rfl rfl rfl rfl ?_
      refine b_f (i := 19) 29 (ticked 21 1048575) rfl rfl rfl rfl ?_
      refine b_y (i := 20) (v := .bool true) (ticked 21 2097151) rfl rfl (by exact y_pick rfl rfl) ?_
      refine a_done (by as_aux_lemma => kernel_rfl) ?_
      refine q_then (c_true rfl (c_seq (c_region ?_)))
      refine s_y rfl (v := .bool false) (y_as rfl) rfl ?_
      refine s_nil (q_then (c_ret (q_block_ret (q_then_ret (q_then_ret (q_block_ret (q_then_ret ?_)))))))
      refine c_fin (I' := []) [] [] rfl (.tmp rfl .nil) rfl rfl rfl ?_
      exact ⟨by show Value.bool _ = Value.bool _; congr 1; symm; first | exact decide_eq_true (by first | exact fun q => q.1 (by assumption) | exact fun q => cls_no ((bl_get _ _).symm.trans hb1) (by assumption) (hF.1 q.2) | (intro q; have q2 := cls_even _ q.2; rw [bl_size] at q2; omega) | (intro q; have q2 := (cls_at ((bl_get _ _).symm.trans hb1) ((bl_get _ _).symm.trans hb2)).1 (hF.1 q.2); omega) | exact ⟨by assumption, hF.2 (by rw [List.drop_eq_nil_of_le (by rw [bl_size]; omega)]; trivial)⟩) | exact decide_eq_false (by first | exact fun q => q.1 (by assumption) | exact fun q => cls_no ((bl_get _ _).symm.trans hb1) (by assumption) (hF.1 q.2) | (intro q; have q2 := cls_even _ q.2; rw [bl_size] at q2; omega) | (intro q; have q2 := (cls_at ((bl_get _ _).symm.trans hb1) ((bl_get _ _).symm.trans hb2)).1 (hF.1 q.2); omega) | exact ⟨by assumption, hF.2 (by rw [List.drop_eq_nil_of_le (by rw [bl_size]; omega)]; trivial)⟩), rfl, rfl⟩
     ·
      refine b_yo (i := 9) (v := .bool false) 22 (ticked 21 1023) rfl rfl rfl (by exact y_f (y_k (v := .bool (decide ((x2.toNat : Int) > 126))) rfl rfl (fun _ => by kernel_rfl)) h5) ?_
      refine b_y (i := 10) (v := .bool false) (ticked 21 2047) rfl rfl (by exact y_pick rfl rfl) ?_
      refine b_y (i := 11) (v := .bool false) (ticked 21 4095) rfl rfl (by exact y_mv rfl) ?_
      refine b_yo (i := 12) (v := .string sg) 29 (ticked 21 8191) rfl rfl rfl (by exact y_mv rfl) ?_
      refine b_yo (i := 13) (v := .int .i64 (j : Int)) 29 (ticked 21 16383) rfl rfl rfl (by exact y_mv rfl) ?_
      refine b_yo (i := 14) (v := .int .u8 (x1.toNat : Int)) 29 (ticked 21 32767) rfl rfl rfl (by exact y_sidx j x1 rfl rfl (rfl) hb1 Tryd.underlying9) ?_
      refine b_yo (i := 15) (v := .string sg) 29 (ticked 21 65535) rfl rfl rfl (by exact y_mv rfl) ?_
      refine b_yo (i := 16) (v := .int .i64 (j : Int)) 29 (ticked 21 131071) rfl rfl rfl (by exact y_mv rfl) ?_
      refine b_yo (i := 17) (v := .int .i64 ((j : Int) + 1)) 29 (ticked 21 262143) rfl rfl rfl (by exact y_add (r := (j : Int) + 1) rfl rfl rfl (by omega)) ?_
      refine b_yo (i := 18) (v := .int .u8 (x2.toNat : Int)) 29 (ticked 21 524287) rfl rfl rfl (by exact y_sidx (j + 1) x2 rfl rfl (rfl) hb2 Tryd.underlying9) ?_
      refine e_by ((x1.toNat : Int) > (x2.toNat : Int)) (fun h6 => ?_) (fun h6 => ?_)
      ·
       refine b_yo (i := 19) (v := .bool true) 29 (ticked 21 1048575) rfl rfl rfl (by exact y_t (y_k (v := .bool (decide ((x1.toNat : Int) > (x2.toNat : Int)))) rfl rfl (fun _ => by kernel_rfl)) h6) ?_
       refine b_y (i := 20) (v := .bool true) (ticked 21 2097151) rfl rfl (by exact y_pick rfl rfl) ?_
       refine a_done (by as_aux_lemma => kernel_rfl) ?_
       refine q_then (c_true rfl (c_seq (c_region ?_)))
       refine s_y rfl (v := .bool false) (y_as rfl) rfl ?_
       refine s_nil (q_then (c_ret (q_block_ret (q_then_ret (q_then_ret (q_block_ret (q_then_ret ?_)))))))
       refine c_fin (I' := []) [] [] rfl (.tmp rfl .nil) rfl rfl rfl ?_
       exact ⟨by show Value.bool _ = Value.bool _; congr 1; symm; first | exact decide_eq_true (by first | exact fun q => q.1 (by assumption) | exact fun q => cls_no ((bl_get _ _).symm.trans hb1) (by assumption) (hF.1 q.2) | (intro q; have q2 := cls_even _ q.2; rw [bl_size] at q2; omega) | (intro q; have q2 := (cls_at ((bl_get _ _).symm.trans hb1) ((bl_get _ _).symm.trans hb2)).1 (hF.1 q.2); omega) | exact ⟨by assumption, hF.2 (by rw [List.drop_eq_nil_of_le (by rw [bl_size]; omega)]; trivial)⟩) | exact decide_eq_false (by first | exact fun q => q.1 (by assumption) | exact fun q => cls_no ((bl_get _ _).symm.trans hb1) (by assumption) (hF.1 q.2) | (intro q; have q2 := cls_even _ q.2; rw [bl_size] at q2; omega) | (intro q; have q2 := (cls_at ((bl_get _ _).symm.trans hb1) ((bl_get _ _).symm.trans hb2)).1 (hF.1 q.2); omega) | exact ⟨by assumption, hF.2 (by rw [List.drop_eq_nil_of_le (by rw [bl_size]; omega)]; trivial)⟩), rfl, rfl⟩
      ·
       refine b_yo (i := 19) (v := .bool false) 29 (ticked 21 1048575) rfl rfl rfl (by exact y_f (y_k (v := .bool (decide ((x1.toNat : Int) > (x2.toNat : Int)))) rfl rfl (fun _ => by kernel_rfl)) h6) ?_
       refine b_y (i := 20) (v := .bool false) (ticked 21 2097151) rfl rfl (by exact y_pick rfl rfl) ?_
       refine a_done (by as_aux_lemma => kernel_rfl) ?_
       refine q_then (c_false rfl (c_skip (q_block (q_then (c_region ?_)))))
       refine s_y rfl (v := .int .i64 (j : Int)) (y_mv rfl) rfl ?_
       refine s_y rfl (v := .int .i64 ((j : Int) + 2)) (y_add (r := (j : Int) + 2) rfl rfl rfl (by omega)) rfl ?_
       refine s_y rfl (v := .int .i64 ((j : Int) + 2)) (y_as rfl) rfl ?_
       refine s_nil (q_then ?_)
       refine c_next [] [] (j + 2) ?_ ?_ ?_ (by rfl) (by rfl)
       · exact (show ((j + 2) ≤ sg.size) ∧ ((j + 2) % 2 = 0) ∧ (clsL (bl sg) ↔ clsL ((bl sg).drop (j + 2))) from ⟨by first | omega | simp_all | (simp; done), by first | omega | simp_all | (simp; done), hF.trans ((cls_at ((bl_get _ _).symm.trans hb1) ((bl_get _ _).symm.trans hb2)).trans ⟨fun q => q.2, fun q => ⟨by omega, q⟩⟩)⟩)
       · show sg.size - (j + 2) < sg.size - j; omega
       · exact (.cons rfl rfl (.cons rfl (show (.int .i64 ((j : Int) + 2) : Value) = .int .i64 ((j + 2) : Int) from by first | rfl | (congr 1; omega) | (congr 1; simp; done) | (congr 1; simp; omega)) .nil))
   ·
    refine s_y rfl (v := .bool false) (y_f (y_k (v := .bool (decide ((j : Int) < (sg.size : Int)))) rfl rfl (fun _ => by kernel_rfl)) h3) rfl ?_
    refine s_nil (q_then (c_false rfl ?_))
    refine c_exit ?_
    refine q_then_exit ?_
    refine q_then_exit ?_
    refine q_block_here ?_
    refine q_then (c_seq (c_region ?_))
    refine s_y rfl (v := .bool true) (y_as rfl) rfl ?_
    refine s_nil (q_then (c_ret ?_))
    refine c_fin (I' := []) [] [] rfl (.tmp rfl .nil) rfl rfl rfl ?_
    exact ⟨by show Value.bool _ = Value.bool _; congr 1; symm; first | exact decide_eq_true (by first | exact fun q => q.1 (by assumption) | exact fun q => cls_no ((bl_get _ _).symm.trans hx) (by assumption) (hF.1 q.2) | (intro q; have q2 := cls_even _ q.2; rw [bl_size] at q2; omega) | (intro q; have q2 := (cls_at ((bl_get _ _).symm.trans hx) ((bl_get _ _).symm.trans hx)).1 (hF.1 q.2); omega) | exact ⟨by assumption, hF.2 (by rw [List.drop_eq_nil_of_le (by rw [bl_size]; omega)]; trivial)⟩) | exact decide_eq_false (by first | exact fun q => q.1 (by assumption) | exact fun q => cls_no ((bl_get _ _).symm.trans hx) (by assumption) (hF.1 q.2) | (intro q; have q2 := cls_even _ q.2; rw [bl_size] at q2; omega) | (intro q; have q2 := (cls_at ((bl_get _ _).symm.trans hx) ((bl_get _ _).symm.trans hx)).1 (hF.1 q.2); omega) | exact ⟨by assumption, hF.2 (by rw [List.drop_eq_nil_of_le (by rw [bl_size]; omega)]; trivial)⟩), rfl, rfl⟩
theorem isIn1_ (sg : ByteArray) (k : Nat) (i : Nat) (c : UInt8) : Con Tryd.prog 87 [.int .i64 (i : Int), .int .u8 (c.toNat : Int), .pointer (some ⟨k, 0, none⟩)] [pt k [.string sg] 9] [] (fun v L' I' => v = .bool (decide (∃ g, (bl sg)[i]? = some g ∧ fitsC g c)) ∧ L' = [pt k [.string sg] 9] ∧ I' = []) := by
 refine fn_of Tryd.func87 rfl Tryd.ntmps87 (by kernel_rfl) rfl (fun C => ?_)
 refine c_seq (c_region ?_)
 refine s_y rfl (v := .bool false) (y_as rfl) rfl ?_
 refine s_nil (q_then (c_seq (c_block (c_seq (c_region ?_)))))
 refine s_y rfl (v := .int .i64 (i : Int)) (y_mv rfl) rfl ?_
 refine st rfl (o_ld 0 rfl rfl rfl Tryd.underlying9 rfl rfl ?_)
 refine s_y rfl (v := .int .i64 (sg.size : Int)) (y_k rfl rfl (fun _ => by kernel_rfl)) rfl ?_
 refine e_by ((i : Int) ≥ (sg.size : Int)) (fun h1 => ?_) (fun h1 => ?_)
 ·
  refine s_y rfl (v := .bool true) (y_t (y_k (v := .bool (decide ((i : Int) ≥ (sg.size : Int)))) rfl rfl (fun _ => by kernel_rfl)) h1) rfl ?_
  refine s_y rfl (v := .bool true) (y_as rfl) rfl ?_
  refine s_nil (q_then (c_true rfl (c_seq (c_region ?_))))
  refine s_y rfl (v := .bool false) (y_as rfl) rfl ?_
  refine s_nil (q_then (c_ret (q_block_ret (q_then_ret ?_))))
  refine c_fin (I' := []) [0] [] rfl (.tmp rfl .nil) rfl rfl rfl ?_
  exact ⟨by show Value.bool _ = Value.bool _; congr 1; symm; first | exact decide_eq_true (by first | exact isin_no (by omega) | exact (isin_d hx (by assumption)).2 ⟨by omega, by omega⟩ | exact (isin_a hx (by assumption) (by assumption)).2 ⟨by omega, by omega⟩ | exact (isin_o hx (by assumption) (by assumption)).2 (by assumption) | exact fun q => absurd ((isin_d hx (by assumption)).1 q) (by omega) | exact fun q => absurd ((isin_a hx (by assumption) (by assumption)).1 q) (by omega) | exact fun q => absurd ((isin_o hx (by assumption) (by assumption)).1 q) (by assumption)) | exact decide_eq_false (by first | exact isin_no (by omega) | exact (isin_d hx (by assumption)).2 ⟨by omega, by omega⟩ | exact (isin_a hx (by assumption) (by assumption)).2 ⟨by omega, by omega⟩ | exact (isin_o hx (by assumption) (by assumption)).2 (by assumption) | exact fun q => absurd ((isin_d hx (by assumption)).1 q) (by omega) | exact fun q => absurd ((isin_a hx (by assumption) (by assumption)).1 q) (by omega) | exact fun q => absurd ((isin_o hx (by assumption) (by assumption)).1 q) (by assumption)), rfl, rfl⟩
 ·
  refine s_y rfl (v := .bool false) (y_f (y_k (v := .bool (decide ((i : Int) ≥ (sg.size : Int)))) rfl rfl (fun _ => by kernel_rfl)) h1) rfl ?_
  refine s_y rfl (v := .bool false) (y_as rfl) rfl ?_
  refine s_nil (q_then (c_false rfl (c_seq (c_region ?_))))
  refine st rfl (o_ld 0 rfl rfl rfl Tryd.underlying9 rfl rfl ?_)
  refine s_y rfl (v := .int .i64 (i : Int)) (y_mv rfl) rfl ?_
  obtain ⟨x1, hb1⟩ : ∃ x, (sg)[i]? = some x := ⟨_, getElem?_pos (sg) i (by omega)⟩
  refine s_y rfl (v := .int .u8 (x1.toNat : Int)) (y_sidx i x1 rfl rfl (rfl) hb1 Tryd.underlying9) rfl ?_
  refine e_by ((x1.toNat : Int) = 100) (fun h2 => ?_) (fun h2 => ?_)
  ·
   refine s_y rfl (v := .bool true) (y_t (y_k (v := .bool (decide ((x1.toNat : Int) = 100))) rfl rfl (fun _ => by kernel_rfl)) h2) rfl ?_
   refine s_y rfl (v := .bool true) (y_as rfl) rfl ?_
   refine s_nil (q_then (c_true rfl (c_seq (c_region ?_))))
   refine s_y rfl (v := .int .u8 (c.toNat : Int)) (y_mv rfl) rfl ?_
   refine e_by ((c.toNat : Int) ≥ 48) (fun h3 => ?_) (fun h3 => ?_)
   ·
    refine s_y rfl (v := .bool true) (y_t (y_k (v := .bool (decide ((c.toNat : Int) ≥ 48))) rfl rfl (fun _ => by kernel_rfl)) h3) rfl ?_
    refine s_y rfl (v := .bool true) (y_mv rfl) rfl ?_
    refine st_on 18 rfl rfl rfl (o_y (v := .int .u8 (c.toNat : Int)) (y_mv rfl) rfl rfl rfl ?_)
    refine e_by ((c.toNat : Int) ≤ 57) (fun h4 => ?_) (fun h4 => ?_)
    ·
     refine st_on 18 rfl rfl rfl (o_y (v := .bool true) (y_t (y_k (v := .bool (decide ((c.toNat : Int) ≤ 57))) rfl rfl (fun _ => by kernel_rfl)) h4) rfl rfl rfl ?_)
     refine s_y rfl (v := .bool true) (y_pick rfl rfl) rfl ?_
     refine s_y rfl (v := .bool true) (y_as rfl) rfl ?_
     refine s_nil (q_then (c_ret (q_block_ret (q_then_ret ?_))))
     refine c_fin (I' := []) [0] [] rfl (.tmp rfl .nil) rfl rfl rfl ?_
     exact ⟨by show Value.bool _ = Value.bool _; congr 1; symm; first | exact decide_eq_true (by first | exact isin_no (by omega) | exact (isin_d hb1 (by assumption)).2 ⟨by omega, by omega⟩ | exact (isin_a hb1 (by assumption) (by assumption)).2 ⟨by omega, by omega⟩ | exact (isin_o hb1 (by assumption) (by assumption)).2 (by assumption) | exact fun q => absurd ((isin_d hb1 (by assumption)).1 q) (by omega) | exact fun q => absurd ((isin_a hb1 (by assumption) (by assumption)).1 q) (by omega) | exact fun q => absurd ((isin_o hb1 (by assumption) (by assumption)).1 q) (by assumption)) | exact decide_eq_false (by first | exact isin_no (by omega) | exact (isin_d hb1 (by assumption)).2 ⟨by omega, by omega⟩ | exact (isin_a hb1 (by assumption) (by assumption)).2 ⟨by omega, by omega⟩ | exact (isin_o hb1 (by assumption) (by assumption)).2 (by assumption) | exact fun q => absurd ((isin_d hb1 (by assumption)).1 q) (by omega) | exact fun q => absurd ((isin_a hb1 (by assumption) (by assumption)).1 q) (by omega) | exact fun q => absurd ((isin_o hb1 (by assumption) (by assumption)).1 q) (by assumption)), rfl, rfl⟩
    ·
     refine st_on 18 rfl rfl rfl (o_y (v := .bool false) (y_f (y_k (v := .bool (decide ((c.toNat : Int) ≤ 57))) rfl rfl (fun _ => by kernel_rfl)) h4) rfl rfl rfl ?_)
     refine s_y rfl (v := .bool false) (y_pick rfl rfl) rfl ?_
     refine s_y rfl (v := .bool false) (y_as rfl) rfl ?_
     refine s_nil (q_then (c_ret (q_block_ret (q_then_ret ?_))))
     refine c_fin (I' := []) [0] [] rfl (.tmp rfl .nil) rfl rfl rfl ?_
     exact ⟨by show Value.bool _ = Value.bool _; congr 1; symm; first | exact decide_eq_true (by first | exact isin_no (by omega) | exact (isin_d hb1 (by assumption)).2 ⟨by omega, by omega⟩ | exact (isin_a hb1 (by assumption) (by assumption)).2 ⟨by omega, by omega⟩ | exact (isin_o hb1 (by assumption) (by assumption)).2 (by assumption) | exact fun q => absurd ((isin_d hb1 (by assumption)).1 q) (by omega) | exact fun q => absurd ((isin_a hb1 (by assumption) (by assumption)).1 q) (by omega) | exact fun q => absurd ((isin_o hb1 (by assumption) (by assumption)).1 q) (by assumption)) | exact decide_eq_false (by first | exact isin_no (by omega) | exact (isin_d hb1 (by assumption)).2 ⟨by omega, by omega⟩ | exact (isin_a hb1 (by assumption) (by assumption)).2 ⟨by omega, by omega⟩ | exact (isin_o hb1 (by assumption) (by assumption)).2 (by assumption) | exact fun q => absurd ((isin_d hb1 (by assumption)).1 q) (by omega) | exact fun q => absurd ((isin_a hb1 (by assumption) (by assumption)).1 q) (by omega) | exact fun q => absurd ((isin_o hb1 (by assumption) (by assumption)).1 q) (by assumption)), rfl, rfl⟩
   ·
    refine s_y rfl (v := .bool false) (y_f (y_k (v := .bool (decide ((c.toNat : Int) ≥ 48))) rfl rfl (fun _ => by kernel_rfl)) h3) rfl ?_
    refine s_y rfl (v := .bool false) (y_mv rfl) rfl ?_
    refine st_off 18 rfl rfl rfl rfl rfl rfl ?_
    refine st_off 18 rfl rfl rfl rfl rfl rfl ?_
    refine s_y rfl (v := .bool false) (y_pick rfl rfl) rfl ?_
    refine s_y rfl (v := .bool false) (y_as rfl) rfl ?_
    refine s_nil (q_then (c_ret (q_block_ret (q_then_ret ?_))))
    refine c_fin (I' := []) [0] [] rfl (.tmp rfl .nil) rfl rfl rfl ?_
    exact ⟨by show Value.bool _ = Value.bool _; congr 1; symm; first | exact decide_eq_true (by first | exact isin_no (by omega) | exact (isin_d hb1 (by assumption)).2 ⟨by omega, by omega⟩ | exact (isin_a hb1 (by assumption) (by assumption)).2 ⟨by omega, by omega⟩ | exact (isin_o hb1 (by assumption) (by assumption)).2 (by assumption) | exact fun q => absurd ((isin_d hb1 (by assumption)).1 q) (by omega) | exact fun q => absurd ((isin_a hb1 (by assumption) (by assumption)).1 q) (by omega) | exact fun q => absurd ((isin_o hb1 (by assumption) (by assumption)).1 q) (by assumption)) | exact decide_eq_false (by first | exact isin_no (by omega) | exact (isin_d hb1 (by assumption)).2 ⟨by omega, by omega⟩ | exact (isin_a hb1 (by assumption) (by assumption)).2 ⟨by omega, by omega⟩ | exact (isin_o hb1 (by assumption) (by assumption)).2 (by assumption) | exact fun q => absurd ((isin_d hb1 (by assumption)).1 q) (by omega) | exact fun q => absurd ((isin_a hb1 (by assumption) (by assumption)).1 q) (by omega) | exact fun q => absurd ((isin_o hb1 (by assumption) (by assumption)).1 q) (by assumption)), rfl, rfl⟩
  ·
   refine s_y rfl (v := .bool false) (y_f (y_k (v := .bool (decide ((x1.toNat : Int) = 100))) rfl rfl (fun _ => by kernel_rfl)) h2) rfl ?_
   refine s_y rfl (v := .bool false) (y_as rfl) rfl ?_
   refine s_nil (q_then (c_false rfl (c_seq (c_region ?_))))
   refine st rfl (o_ld 0 rfl rfl rfl Tryd.underlying9 rfl rfl ?_)
   refine s_y rfl (v := .int .i64 (i : Int)) (y_mv rfl) rfl ?_
   refine s_y rfl (v := .int .u8 (x1.toNat : Int)) (y_sidx i x1 rfl rfl (rfl) hb1 Tryd.underlying9) rfl ?_
   refine e_by ((x1.toNat : Int) = 97) (fun h5 => ?_) (fun h5 => ?_)
   ·
    refine s_y rfl (v := .bool true) (y_t (y_k (v := .bool (decide ((x1.toNat : Int) = 97))) rfl rfl (fun _ => by kernel_rfl)) h5) rfl ?_
    refine s_y rfl (v := .bool true) (y_as rfl) rfl ?_
    refine s_nil (q_then (c_true rfl (c_seq (c_region ?_))))
    refine s_y rfl (v := .int .u8 (c.toNat : Int)) (y_mv rfl) rfl ?_
    refine e_by ((c.toNat : Int) ≥ 97) (fun h6 => ?_) (fun h6 => ?_)
    ·
     refine s_y rfl (v := .bool true) (y_t (y_k (v := .bool (decide ((c.toNat : Int) ≥ 97))) rfl rfl (fun _ => by kernel_rfl)) h6) rfl ?_
     refine s_y rfl (v := .bool true) (y_mv rfl) rfl ?_
     refine st_on 29 rfl rfl rfl (o_y (v := .int .u8 (c.toNat : Int)) (y_mv rfl) rfl rfl rfl ?_)
     refine e_by ((c.toNat : Int) ≤ 122) (fun h7 => ?_) (fun h7 => ?_)
     ·
      refine st_on 29 rfl rfl rfl (o_y (v := .bool true) (y_t (y_k (v := .bool (decide ((c.toNat : Int) ≤ 122))) rfl rfl (fun _ => by kernel_rfl)) h7) rfl rfl rfl ?_)
      refine s_y rfl (v := .bool true) (y_pick rfl rfl) rfl ?_
      refine s_y rfl (v := .bool true) (y_as rfl) rfl ?_
      refine s_nil (q_then (c_ret (q_block_ret (q_then_ret ?_))))
      refine c_fin (I' := []) [0] [] rfl (.tmp rfl .nil) rfl rfl rfl ?_
      exact ⟨by show Value.bool _ = Value.bool _; congr 1; symm; first | exact decide_eq_true (by first | exact isin_no (by omega) | exact (isin_d hb1 (by assumption)).2 ⟨by omega, by omega⟩ | exact (isin_a hb1 (by assumption) (by assumption)).2 ⟨by omega, by omega⟩ | exact (isin_o hb1 (by assumption) (by assumption)).2 (by assumption) | exact fun q => absurd ((isin_d hb1 (by assumption)).1 q) (by omega) | exact fun q => absurd ((isin_a hb1 (by assumption) (by assumption)).1 q) (by omega) | exact fun q => absurd ((isin_o hb1 (by assumption) (by assumption)).1 q) (by assumption)) | exact decide_eq_false (by first | exact isin_no (by omega) | exact (isin_d hb1 (by assumption)).2 ⟨by omega, by omega⟩ | exact (isin_a hb1 (by assumption) (by assumption)).2 ⟨by omega, by omega⟩ | exact (isin_o hb1 (by assumption) (by assumption)).2 (by assumption) | exact fun q => absurd ((isin_d hb1 (by assumption)).1 q) (by omega) | exact fun q => absurd ((isin_a hb1 (by assumption) (by assumption)).1 q) (by omega) | exact fun q => absurd ((isin_o hb1 (by assumption) (by assumption)).1 q) (by assumption)), rfl, rfl⟩
     ·
      refine st_on 29 rfl rfl rfl (o_y (v := .bool false) (y_f (y_k (v := .bool (decide ((c.toNat : Int) ≤ 122))) rfl rfl (fun _ => by kernel_rfl)) h7) rfl rfl rfl ?_)
      refine s_y rfl (v := .bool false) (y_pick rfl rfl) rfl ?_
      refine s_y rfl (v := .bool false) (y_as rfl) rfl ?_
      refine s_nil (q_then (c_ret (q_block_ret (q_then_ret ?_))))
      refine c_fin (I' := []) [0] [] rfl (.tmp rfl .nil) rfl rfl rfl ?_
      exact ⟨by show Value.bool _ = Value.bool _; congr 1; symm; first | exact decide_eq_true (by first | exact isin_no (by omega) | exact (isin_d hb1 (by assumption)).2 ⟨by omega, by omega⟩ | exact (isin_a hb1 (by assumption) (by assumption)).2 ⟨by omega, by omega⟩ | exact (isin_o hb1 (by assumption) (by assumption)).2 (by assumption) | exact fun q => absurd ((isin_d hb1 (by assumption)).1 q) (by omega) | exact fun q => absurd ((isin_a hb1 (by assumption) (by assumption)).1 q) (by omega) | exact fun q => absurd ((isin_o hb1 (by assumption) (by assumption)).1 q) (by assumption)) | exact decide_eq_false (by first | exact isin_no (by omega) | exact (isin_d hb1 (by assumption)).2 ⟨by omega, by omega⟩ | exact (isin_a hb1 (by assumption) (by assumption)).2 ⟨by omega, by omega⟩ | exact (isin_o hb1 (by assumption) (by assumption)).2 (by assumption) | exact fun q => absurd ((isin_d hb1 (by assumption)).1 q) (by omega) | exact fun q => absurd ((isin_a hb1 (by assumption) (by assumption)).1 q) (by omega) | exact fun q => absurd ((isin_o hb1 (by assumption) (by assumption)).1 q) (by assumption)), rfl, rfl⟩
    ·
     refine s_y rfl (v := .bool false) (y_f (y_k (v := .bool (decide ((c.toNat : Int) ≥ 97))) rfl rfl (fun _ => by kernel_rfl)) h6) rfl ?_
     refine s_y rfl (v := .bool false) (y_mv rfl) rfl ?_
     refine st_off 29 rfl rfl rfl rfl rfl rfl ?_
     refine st_off 29 rfl rfl rfl rfl rfl rfl ?_
     refine s_y rfl (v := .bool false) (y_pick rfl rfl) rfl ?_
     refine s_y rfl (v := .bool false) (y_as rfl) rfl ?_
     refine s_nil (q_then (c_ret (q_block_ret (q_then_ret ?_))))
     refine c_fin (I' := []) [0] [] rfl (.tmp rfl .nil) rfl rfl rfl ?_
     exact ⟨by show Value.bool _ = Value.bool _; congr 1; symm; first | exact decide_eq_true (by first | exact isin_no (by omega) | exact (isin_d hb1 (by assumption)).2 ⟨by omega, by omega⟩ | exact (isin_a hb1 (by assumption) (by assumption)).2 ⟨by omega, by omega⟩ | exact (isin_o hb1 (by assumption) (by assumption)).2 (by assumption) | exact fun q => absurd ((isin_d hb1 (by assumption)).1 q) (by omega) | exact fun q => absurd ((isin_a hb1 (by assumption) (by assumption)).1 q) (by omega) | exact fun q => absurd ((isin_o hb1 (by assumption) (by assumption)).1 q) (by assumption)) | exact decide_eq_false (by first | exact isin_no (by omega) | exact (isin_d hb1 (by assumption)).2 ⟨by omega, by omega⟩ | exact (isin_a hb1 (by assumption) (by assumption)).2 ⟨by omega, by omega⟩ | exact (isin_o hb1 (by assumption) (by assumption)).2 (by assumption) | exact fun q => absurd ((isin_d hb1 (by assumption)).1 q) (by omega) | exact fun q => absurd ((isin_a hb1 (by assumption) (by assumption)).1 q) (by omega) | exact fun q => absurd ((isin_o hb1 (by assumption) (by assumption)).1 q) (by assumption)), rfl, rfl⟩
   ·
    refine s_y rfl (v := .bool false) (y_f (y_k (v := .bool (decide ((x1.toNat : Int) = 97))) rfl rfl (fun _ => by kernel_rfl)) h5) rfl ?_
    refine s_y rfl (v := .bool false) (y_as rfl) rfl ?_
    refine s_nil (q_then (c_false rfl (c_skip (q_block (q_then (c_seq (c_region ?_)))))))
    refine s_y rfl (v := .int .u8 (c.toNat : Int)) (y_mv rfl) rfl ?_
    refine st rfl (o_ld 0 rfl rfl rfl Tryd.underlying9 rfl rfl ?_)
    refine s_y rfl (v := .int .i64 (i : Int)) (y_mv rfl) rfl ?_
    refine s_y rfl (v := .int .u8 (x1.toNat : Int)) (y_sidx i x1 rfl rfl (rfl) hb1 Tryd.underlying9) rfl ?_
    refine e_by ((c.toNat : Int) = (x1.toNat : Int)) (fun h8 => ?_) (fun h8 => ?_)
    ·
     refine s_y rfl (v := .bool true) (y_t (y_k (v := .bool (decide ((c.toNat : Int) = (x1.toNat : Int)))) rfl rfl (fun _ => by kernel_rfl)) h8) rfl ?_
     refine s_y rfl (v := .bool true) (y_as rfl) rfl ?_
     refine s_nil (q_then (c_ret ?_))
     refine c_fin (I' := []) [0] [] rfl (.tmp rfl .nil) rfl rfl rfl ?_
     exact ⟨by show Value.bool _ = Value.bool _; congr 1; symm; first | exact decide_eq_true (by first | exact isin_no (by omega) | exact (isin_d hb1 (by assumption)).2 ⟨by omega, by omega⟩ | exact (isin_a hb1 (by assumption) (by assumption)).2 ⟨by omega, by omega⟩ | exact (isin_o hb1 (by assumption) (by assumption)).2 (by assumption) | exact fun q => absurd ((isin_d hb1 (by assumption)).1 q) (by omega) | exact fun q => absurd ((isin_a hb1 (by assumption) (by assumption)).1 q) (by omega) | exact fun q => absurd ((isin_o hb1 (by assumption) (by assumption)).1 q) (by assumption)) | exact decide_eq_false (by first | exact isin_no (by omega) | exact (isin_d hb1 (by assumption)).2 ⟨by omega, by omega⟩ | exact (isin_a hb1 (by assumption) (by assumption)).2 ⟨by omega, by omega⟩ | exact (isin_o hb1 (by assumption) (by assumption)).2 (by assumption) | exact fun q => absurd ((isin_d hb1 (by assumption)).1 q) (by omega) | exact fun q => absurd ((isin_a hb1 (by assumption) (by assumption)).1 q) (by omega) | exact fun q => absurd ((isin_o hb1 (by assumption) (by assumption)).1 q) (by assumption)), rfl, rfl⟩
    ·
     refine s_y rfl (v := .bool false) (y_f (y_k (v := .bool (decide ((c.toNat : Int) = (x1.toNat : Int)))) rfl rfl (fun _ => by kernel_rfl)) h8) rfl ?_
     refine s_y rfl (v := .bool false) (y_as rfl) rfl ?_
     refine s_nil (q_then (c_ret ?_))
     refine c_fin (I' := []) [0] [] rfl (.tmp rfl .nil) rfl rfl rfl ?_
     exact ⟨by show Value.bool _ = Value.bool _; congr 1; symm; first | exact decide_eq_true (by first | exact isin_no (by omega) | exact (isin_d hb1 (by assumption)).2 ⟨by omega, by omega⟩ | exact (isin_a hb1 (by assumption) (by assumption)).2 ⟨by omega, by omega⟩ | exact (isin_o hb1 (by assumption) (by assumption)).2 (by assumption) | exact fun q => absurd ((isin_d hb1 (by assumption)).1 q) (by omega) | exact fun q => absurd ((isin_a hb1 (by assumption) (by assumption)).1 q) (by omega) | exact fun q => absurd ((isin_o hb1 (by assumption) (by assumption)).1 q) (by assumption)) | exact decide_eq_false (by first | exact isin_no (by omega) | exact (isin_d hb1 (by assumption)).2 ⟨by omega, by omega⟩ | exact (isin_a hb1 (by assumption) (by assumption)).2 ⟨by omega, by omega⟩ | exact (isin_o hb1 (by assumption) (by assumption)).2 (by assumption) | exact fun q => absurd ((isin_d hb1 (by assumption)).1 q) (by omega) | exact fun q => absurd ((isin_a hb1 (by assumption) (by assumption)).1 q) (by omega) | exact fun q => absurd ((isin_o hb1 (by assumption) (by assumption)).1 q) (by assumption)), rfl, rfl⟩
end Go.Proofs.YthehnjbdkjnlpaaDoor
