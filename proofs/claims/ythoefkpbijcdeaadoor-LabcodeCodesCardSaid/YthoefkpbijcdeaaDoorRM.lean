/- The laws of chapter 4 (labcode), walked over the given program; no condition but what stands in each theorem: part M. -/
import Derived.Test.YthoefkpbijcdeaaDoorRE
import Derived.Test.YthoefkpbijcdeaaDoorRF
set_option linter.unusedVariables false
set_option linter.unusedSimpArgs false
set_option maxRecDepth 100000
set_option maxHeartbeats 8000000
namespace Go.Proofs.YthoefkpbijcdeaaDoor
open Go Go.Sl Go.RowKit Go.Extern.Stop Go.Stop Go.Extern
theorem getE (s : ByteArray) (i : Nat) : s[i]? = s.data.toList[i]? := by
  rw [Array.getElem?_toList]
  rfl
theorem be_step {w : Int} {n j : Nat} (h : (j : Int) ≤ w - 1) : (be w.toNat n).take j ++ [u8of ((n / 2 ^ (8 * (w - 1 - (j : Int))).toNat : Nat) : Int)] = (be w.toNat n).take (j + 1) := by
  rw [List.take_add_one, be_get (by omega), show 8 * (w.toNat - 1 - j) = (8 * (w - 1 - (j : Int))).toNat by omega]; rfl
theorem shl_one {w : Int} (hw : isW w) (h : w < 8) : 1 * 2 ^ (8 * w).toNat % 18446744073709551616 = 2 ^ (8 * w.toNat) := by
  rcases hw with rfl | rfl | rfl | rfl
  · decide
  · decide
  · decide
  · omega
theorem ref_no {w : Int} {n : Nat} (hw : isW w) (h : w < 8) (hg : (n : Int) ≥ ((1 * 2 ^ (8 * w).toNat % 18446744073709551616 : Nat) : Int)) : ¬ (n < 2 ^ (8 * w.toNat)) := by
  rw [shl_one hw h] at hg; omega
theorem ref_ok1 {w : Int} {n : Nat} (hw : isW w) (h : w < 8) (hg : ¬ ((n : Int) ≥ ((1 * 2 ^ (8 * w).toNat % 18446744073709551616 : Nat) : Int))) : n < 2 ^ (8 * w.toNat) := by
  rw [shl_one hw h] at hg; omega
theorem ref_ok2 {w : Int} {n : Nat} (hw : isW w) (h : ¬ (w < 8)) (hn : n < 18446744073709551616) : n < 2 ^ (8 * w.toNat) := by
  have := isW_rng hw
  obtain rfl : w = 8 := by omega
  exact hn
def textF (s : ByteArray) : ByteArray × ByteArray × Int :=
  if (getF 1 s).2.2 = 0 then (if ((getF 1 s).1 : Int) > 200 then (⟨#[]⟩, ⟨#[]⟩, 31) else if ((getF 1 s).2.1.size : Int) < ((getF 1 s).1 : Int) then (⟨#[]⟩, ⟨#[]⟩, 30) else ((getF 1 s).2.1.extract 0 (getF 1 s).1, (getF 1 s).2.1.extract (getF 1 s).1 (getF 1 s).2.1.size, 0)) else (⟨#[]⟩, ⟨#[]⟩, (getF 1 s).2.2)
theorem getF_lt (w : Int) (s : ByteArray) : (getF w s).1 < 18446744073709551616 := by
  unfold getF
  split
  · rename_i hw
    split
    · decide
    · have h1 := numL_lt (s.data.toList.take w.toNat)
      have h3 : 256 ^ (s.data.toList.take w.toNat).length ≤ 256 ^ 8 := pow_le8 (by have := isW_rng hw; rw [List.length_take]; omega)
      show numL _ < _
      omega
  · decide
theorem getF_rest (w : Int) (s : ByteArray) : (getF w s).2.1.size ≤ s.size := by
  unfold getF
  split
  · split
    · exact Nat.zero_le _
    · show (s.extract w.toNat s.size).size ≤ _
      rw [ByteArray.size_extract]; omega
  · exact Nat.zero_le _
theorem one_byte {t : ByteArray} : (⟨List.toArray [u8of (t.size : Int)]⟩ : ByteArray) = beB 1 t.size := by
  unfold beB
  show _ = (⟨(be 1 t.size).toArray⟩ : ByteArray)
  unfold be
  simp [be]
theorem rPut_ (w : Int) (n : Nat) (hn : n < 18446744073709551616) : Con Tryd.prog 45 [.int .i64 w, .int .u64 (n : Int)] [] [] (fun v L' I' => v = .tuple #[.string ((putF w n).1), .int .i64 ((putF w n).2)] ∧ L' = [] ∧ I' = []) := by
  refine fn_of Tryd.func45 rfl Tryd.ntmps45 (by kernel_rfl) rfl (fun C => ?_)
  refine c_seq ?_
  refine c_region ?_
  refine st rfl (o_y (v := .string (⟨#[]⟩ : ByteArray)) (y_as rfl) rfl rfl rfl ?_)
  refine st rfl (o_y (v := .int .i64 0) (y_as rfl) rfl rfl rfl ?_)
  refine s_nil ?_
  refine q_then ?_
  refine c_seq ?_
  refine c_seq ?_
  refine c_region ?_
  refine st rfl (o_y (v := .int .i64 w) (y_mv rfl) rfl rfl rfl ?_)
  refine st rfl (o_call [] [] (ris_ w) rfl rfl rfl rfl rfl rfl (fun v L' I' hq1 => ?_))
  obtain ⟨hv1, rfl, rfl⟩ := hq1
  refine e_by (isW w) (fun h1 => ?_) (fun h1 => ?_)
  ·
    obtain rfl : v = .bool true := by rw [hv1, decide_eq_true h1]
    refine st rfl (o_y (v := .bool false) (y_k rfl rfl (fun _ => by kernel_rfl)) rfl rfl rfl ?_)
    refine s_nil ?_
    refine q_then ?_
    refine c_false rfl ?_
    refine c_skip ?_
    refine q_then ?_
    refine c_seq ?_
    refine c_seq ?_
    refine c_region ?_
    refine st rfl (o_y (v := .int .i64 w) (y_mv rfl) rfl rfl rfl ?_)
    refine e_by (w < 8) (fun h2 => ?_) (fun h2 => ?_)
    ·
      refine st rfl (o_y (v := .bool true) (y_t (y_k (v := .bool (decide (w < 8))) rfl rfl (fun _ => by kernel_rfl)) h2) rfl rfl rfl ?_)
      refine st rfl (o_y (v := .bool true) (y_mv rfl) rfl rfl rfl ?_)
      refine st_on 13 rfl rfl rfl (o_y (v := .int .u64 (n : Int)) (y_mv rfl) rfl rfl rfl ?_)
      refine st_on 13 rfl rfl rfl (o_y (v := .int .i64 w) (y_mv rfl) rfl rfl rfl ?_)
      refine st_on 13 rfl rfl rfl (o_y (v := .int .i64 (8 * w)) (y_mul (r := 8 * w) rfl rfl rfl (by have := isW_rng (by assumption); omega)) rfl rfl rfl ?_)
      refine st_on 13 rfl rfl rfl (o_y (v := .int .u64 ((1 * 2 ^ ((8 * w).toNat) % 18446744073709551616 : Nat) : Int)) (y_shl (a := 1) (k := (8 * w).toNat) rfl rfl (by first | omega | (have := isW_rng (by assumption); omega)) (by first | omega | (have := isW_rng (by assumption); omega))) rfl rfl rfl ?_)
      refine e_by ((n : Int) ≥ ((1 * 2 ^ ((8 * w).toNat) % 18446744073709551616 : Nat) : Int)) (fun h3 => ?_) (fun h3 => ?_)
      ·
        refine st_on 13 rfl rfl rfl (o_y (v := .bool true) (y_t (y_k (v := .bool (decide ((n : Int) ≥ ((1 * 2 ^ ((8 * w).toNat) % 18446744073709551616 : Nat) : Int)))) rfl rfl (fun _ => by kernel_rfl)) h3) rfl rfl rfl ?_)
        refine st rfl (o_y (v := .bool true) (y_pick rfl rfl) rfl rfl rfl ?_)
        refine s_nil ?_
        refine q_then ?_
        refine c_true rfl ?_
        refine c_seq ?_
        refine c_region ?_
        refine st rfl (o_y (v := .string (⟨#[]⟩ : ByteArray)) (y_as rfl) rfl rfl rfl ?_)
        refine st rfl (o_y (v := .int .i64 31) (y_as rfl) rfl rfl rfl ?_)
        refine s_nil ?_
        refine q_then ?_
        refine c_ret ?_
        refine q_then_ret ?_
        have hp : putF w n = ((⟨#[]⟩ : ByteArray), 31) := by unfold putF; first | (rw [if_neg (by assumption)]; done) | (rw [if_pos (by assumption), if_neg (ref_no (by assumption) (by assumption) (by assumption))]; done) | (rw [if_pos (by assumption), if_pos (by first | exact ref_ok1 (by assumption) (by assumption) (by assumption) | exact ref_ok2 (by assumption) (by assumption) hn)]; exact congrArg (fun x => ((⟨List.toArray x⟩ : ByteArray), (0 : Int))) he.symm)
        refine c_fin (I' := []) [] [] rfl (.tmp rfl (.tmp rfl .nil)) rfl rfl rfl ?_
        rw [hp]
        exact ⟨rfl, rfl, rfl⟩
      ·
        refine st_on 13 rfl rfl rfl (o_y (v := .bool false) (y_f (y_k (v := .bool (decide ((n : Int) ≥ ((1 * 2 ^ ((8 * w).toNat) % 18446744073709551616 : Nat) : Int)))) rfl rfl (fun _ => by kernel_rfl)) h3) rfl rfl rfl ?_)
        refine st rfl (o_y (v := .bool false) (y_pick rfl rfl) rfl rfl rfl ?_)
        refine s_nil ?_
        refine q_then ?_
        refine c_false rfl ?_
        refine c_skip ?_
        refine q_then ?_
        refine c_seq ?_
        refine c_region ?_
        refine st rfl (o_y (v := .slice none 0 0) (y_as rfl) rfl rfl rfl ?_)
        refine s_nil ?_
        refine q_then ?_
        refine c_seq ?_
        refine c_seq ?_
        refine c_region ?_
        refine st rfl (o_y (v := .int .i64 w) (y_mv rfl) rfl rfl rfl ?_)
        refine st rfl (o_y (v := .int .i64 (w - 1)) (y_sub (r := w - 1) rfl rfl rfl (by have := isW_rng (by assumption); omega)) rfl rfl rfl ?_)
        refine st rfl (o_y (v := .int .i64 (w - 1)) (y_as rfl) rfl rfl rfl ?_)
        refine s_nil ?_
        refine q_then ?_
        refine c_block ?_
        refine e_nil u8Ty 5 ?_
        refine c_loopn (ι := Nat × (List UInt8) × (Option Addr) × Nat) (fun (j, o, A, c) => ((j : Int) ≤ w) ∧ (o = (be w.toNat n).take j) ∧ (o.length = j)) (fun (j, o, A, c) => [(1, .int .u64 (n : Int)), (4, .string (⟨#[]⟩ : ByteArray)), (5, .int .i64 0), (6, .slice A o.length c), (7, .int .i64 (w - 1 - (j : Int)))]) (fun (j, o, A, c) => [ars u8Ty 5 A c o]) (fun (j, o, A, c) => []) (fun (j, o, A, c) => w.toNat - j) (0, [], none, 0) [0] [] (show ((0 : Int) ≤ w) ∧ ([] = (be w.toNat n).take 0) ∧ ([].length = 0) from ⟨by have := isW_rng (by assumption); omega, rfl, rfl⟩) ((.cons rfl rfl (.cons rfl rfl (.cons rfl rfl (.cons rfl (show (.slice none 0 0 : Value) = .slice none [].length 0 from by first | rfl | (congr 1; omega) | (congr 1; simp; done) | (congr 1; simp; omega)) (.cons rfl (show (.int .i64 (w - 1) : Value) = .int .i64 (w - 1 - (0 : Int)) from by first | rfl | (congr 1; omega) | (congr 1; simp; done) | (congr 1; simp; omega)) .nil)))))) rfl rfl ?_
        rintro ⟨j, o, A, c⟩ ⟨hj, ho, hol⟩
        show Ent 36 C [(1, .int .u64 (n : Int)), (4, .string (⟨#[]⟩ : ByteArray)), (5, .int .i64 0), (6, .slice A o.length c), (7, .int .i64 (w - 1 - (j : Int)))] [] [ars u8Ty 5 A c o] [] _
        refine c_seq ?_
        refine c_seq ?_
        refine c_region ?_
        refine st rfl (o_y (v := .int .i64 (w - 1 - (j : Int))) (y_mv rfl) rfl rfl rfl ?_)
        refine e_by (w - 1 - (j : Int) ≥ 0) (fun h4 => ?_) (fun h4 => ?_)
        ·
          refine st rfl (o_y (v := .bool true) (y_t (y_k (v := .bool (decide (w - 1 - (j : Int) ≥ 0))) rfl rfl (fun _ => by kernel_rfl)) h4) rfl rfl rfl ?_)
          refine s_nil ?_
          refine q_then ?_
          refine c_true rfl ?_
          refine c_skip ?_
          refine q_then ?_
          refine c_seq ?_
          refine c_block ?_
          refine c_region ?_
          refine st rfl (o_y (v := .slice A o.length c) (y_mv rfl) rfl rfl rfl ?_)
          refine st rfl (o_y (v := .int .u64 (n : Int)) (y_mv rfl) rfl rfl rfl ?_)
          refine st rfl (o_y (v := .int .i64 (w - 1 - (j : Int))) (y_mv rfl) rfl rfl rfl ?_)
          refine st rfl (o_y (v := .int .i64 (8 * (w - 1 - (j : Int)))) (y_mul (r := 8 * (w - 1 - (j : Int))) rfl rfl rfl (by have := isW_rng (by assumption); omega)) rfl rfl rfl ?_)
          refine st rfl (o_y (v := .int .u64 ((n / 2 ^ ((8 * (w - 1 - (j : Int))).toNat) : Nat) : Int)) (y_shr (a := n) (k := (8 * (w - 1 - (j : Int))).toNat) rfl rfl (by first | omega | (have := isW_rng (by assumption); omega)) (by first | omega | (have := isW_rng (by assumption); omega))) rfl rfl rfl ?_)
          refine st rfl (o_y (v := .int .u8 ((u8of ((n / 2 ^ ((8 * (w - 1 - (j : Int))).toNat) : Nat) : Int)).toNat : Int)) (y_cvi (r := ((u8of ((n / 2 ^ ((8 * (w - 1 - (j : Int))).toNat) : Nat) : Int)).toNat : Int)) rfl Tryd.underlying22 Tryd.underlying5 (u8of_wrap _)) rfl rfl rfl ?_)
          refine st rfl (o_lit (cs := [.int .u8 ((u8of ((n / 2 ^ ((8 * (w - 1 - (j : Int))).toNat) : Nat) : Int)).toNat : Int)]) (T := 5) (m := 1) rfl rfl rfl rfl (fun _ => by kernel_rfl) (fun b1 => ?_))
          refine st rfl (o_app (l := o) (us := [u8of ((n / 2 ^ (8 * (w - 1 - (j : Int))).toNat : Nat) : Int)]) 1 rfl rfl rfl rfl rfl (src_pt 0 rfl) Tryd.underlying70 (elem_of (z := .int .u8 0) (sz := 1) (bytes := 1) (by kernel_rfl) rfl) rfl (by have := isW_rng (by assumption); simp only [List.length_cons, List.length_nil]; omega) rfl rfl (fun A1 c1 => ?_))
          refine st rfl (o_y (v := .slice A1 (o ++ [u8of ((n / 2 ^ (8 * (w - 1 - (j : Int))).toNat : Nat) : Int)]).length c1) (y_as rfl) rfl rfl rfl ?_)
          refine s_nil ?_
          refine q_block ?_
          refine q_then ?_
          refine c_region ?_
          refine st rfl (o_y (v := .int .i64 (w - 1 - (j : Int))) (y_mv rfl) rfl rfl rfl ?_)
          refine st rfl (o_y (v := .int .i64 ((w - 1 - (j : Int)) - 1)) (y_sub (r := (w - 1 - (j : Int)) - 1) rfl rfl rfl (by have := isW_rng (by assumption); omega)) rfl rfl rfl ?_)
          refine st rfl (o_y (v := .int .i64 ((w - 1 - (j : Int)) - 1)) (y_as rfl) rfl rfl rfl ?_)
          refine s_nil ?_
          refine q_then ?_
          refine c_next [1] [] (j + 1, o ++ [u8of ((n / 2 ^ (8 * (w - 1 - (j : Int))).toNat : Nat) : Int)], A1, c1) ?_ ?_ ?_ (by rfl) (by rfl)
          · exact (show (((j + 1) : Int) ≤ w) ∧ ((o ++ [u8of ((n / 2 ^ (8 * (w - 1 - (j : Int))).toNat : Nat) : Int)]) = (be w.toNat n).take (j + 1)) ∧ ((o ++ [u8of ((n / 2 ^ (8 * (w - 1 - (j : Int))).toNat : Nat) : Int)]).length = (j + 1)) from ⟨by first | omega | simp_all | (simp; done), by rw [ho]; exact be_step (by omega), by rw [List.length_append, List.length_singleton, hol]⟩)
          · show w.toNat - (j + 1) < w.toNat - j; omega
          · exact (.cons rfl rfl (.cons rfl rfl (.cons rfl rfl (.cons rfl rfl (.cons rfl (show (.int .i64 ((w - 1 - (j : Int)) - 1) : Value) = .int .i64 (w - 1 - ((j + 1) : Int)) from by first | rfl | (congr 1; omega) | (congr 1; simp; done) | (congr 1; simp; omega)) .nil)))))
        ·
          refine st rfl (o_y (v := .bool false) (y_f (y_k (v := .bool (decide (w - 1 - (j : Int) ≥ 0))) rfl rfl (fun _ => by kernel_rfl)) h4) rfl rfl rfl ?_)
          refine s_nil ?_
          refine q_then ?_
          refine c_false rfl ?_
          refine c_exit ?_
          refine q_then_exit ?_
          refine q_then_exit ?_
          refine q_block_here ?_
          refine q_then ?_
          refine c_seq ?_
          refine c_region ?_
          refine st rfl (o_y (v := .slice A o.length c) (y_mv rfl) rfl rfl rfl ?_)
          refine st rfl (o_b2s (l := o) rfl rfl (src_ars 0 rfl) Tryd.underlying70 Tryd.underlying9 Tryd.underlying5 rfl ?_)
          refine st rfl (o_y (v := .string (⟨List.toArray o⟩ : ByteArray)) (y_as rfl) rfl rfl rfl ?_)
          refine st rfl (o_y (v := .int .i64 0) (y_as rfl) rfl rfl rfl ?_)
          refine s_nil ?_
          refine q_then ?_
          refine c_ret ?_
          have he : o = be w.toNat n := by rw [ho]; exact List.take_of_length_le (by rw [be_len]; omega)
          have hp : putF w n = ((⟨List.toArray o⟩ : ByteArray), 0) := by unfold putF; first | (rw [if_neg (by assumption)]; done) | (rw [if_pos (by assumption), if_neg (ref_no (by assumption) (by assumption) (by assumption))]; done) | (rw [if_pos (by assumption), if_pos (by first | exact ref_ok1 (by assumption) (by assumption) (by assumption) | exact ref_ok2 (by assumption) (by assumption) hn)]; exact congrArg (fun x => ((⟨List.toArray x⟩ : ByteArray), (0 : Int))) he.symm)
          refine c_fin (I' := []) [] [] rfl (.tmp rfl (.tmp rfl .nil)) rfl rfl rfl ?_
          rw [hp]
          exact ⟨rfl, rfl, rfl⟩
    ·
      refine st rfl (o_y (v := .bool false) (y_f (y_k (v := .bool (decide (w < 8))) rfl rfl (fun _ => by kernel_rfl)) h2) rfl rfl rfl ?_)
      refine st rfl (o_y (v := .bool false) (y_mv rfl) rfl rfl rfl ?_)
      refine st_off 13 rfl rfl rfl rfl rfl rfl ?_
      refine st_off 13 rfl rfl rfl rfl rfl rfl ?_
      refine st_off 13 rfl rfl rfl rfl rfl rfl ?_
      refine st_off 13 rfl rfl rfl rfl rfl rfl ?_
      refine st_off 13 rfl rfl rfl rfl rfl rfl ?_
      refine st rfl (o_y (v := .bool false) (y_pick rfl rfl) rfl rfl rfl ?_)
      refine s_nil ?_
      refine q_then ?_
      refine c_false rfl ?_
      refine c_skip ?_
      refine q_then ?_
      refine c_seq ?_
      refine c_region ?_
      refine st rfl (o_y (v := .slice none 0 0) (y_as rfl) rfl rfl rfl ?_)
      refine s_nil ?_
      refine q_then ?_
      refine c_seq ?_
      refine c_seq ?_
      refine c_region ?_
      refine st rfl (o_y (v := .int .i64 w) (y_mv rfl) rfl rfl rfl ?_)
      refine st rfl (o_y (v := .int .i64 (w - 1)) (y_sub (r := w - 1) rfl rfl rfl (by have := isW_rng (by assumption); omega)) rfl rfl rfl ?_)
      refine st rfl (o_y (v := .int .i64 (w - 1)) (y_as rfl) rfl rfl rfl ?_)
      refine s_nil ?_
      refine q_then ?_
      refine c_block ?_
      refine e_nil u8Ty 5 ?_
      refine c_loopn (ι := Nat × (List UInt8) × (Option Addr) × Nat) (fun (j, o, A, c) => ((j : Int) ≤ w) ∧ (o = (be w.toNat n).take j) ∧ (o.length = j)) (fun (j, o, A, c) => [(1, .int .u64 (n : Int)), (4, .string (⟨#[]⟩ : ByteArray)), (5, .int .i64 0), (6, .slice A o.length c), (7, .int .i64 (w - 1 - (j : Int)))]) (fun (j, o, A, c) => [ars u8Ty 5 A c o]) (fun (j, o, A, c) => []) (fun (j, o, A, c) => w.toNat - j) (0, [], none, 0) [0] [] (show ((0 : Int) ≤ w) ∧ ([] = (be w.toNat n).take 0) ∧ ([].length = 0) from ⟨by have := isW_rng (by assumption); omega, rfl, rfl⟩) ((.cons rfl rfl (.cons rfl rfl (.cons rfl rfl (.cons rfl (show (.slice none 0 0 : Value) = .slice none [].length 0 from by first | rfl | (congr 1; omega) | (congr 1; simp; done) | (congr 1; simp; omega)) (.cons rfl (show (.int .i64 (w - 1) : Value) = .int .i64 (w - 1 - (0 : Int)) from by first | rfl | (congr 1; omega) | (congr 1; simp; done) | (congr 1; simp; omega)) .nil)))))) rfl rfl ?_
      rintro ⟨j, o, A, c⟩ ⟨hj, ho, hol⟩
      show Ent 36 C [(1, .int .u64 (n : Int)), (4, .string (⟨#[]⟩ : ByteArray)), (5, .int .i64 0), (6, .slice A o.length c), (7, .int .i64 (w - 1 - (j : Int)))] [] [ars u8Ty 5 A c o] [] _
      refine c_seq ?_
      refine c_seq ?_
      refine c_region ?_
      refine st rfl (o_y (v := .int .i64 (w - 1 - (j : Int))) (y_mv rfl) rfl rfl rfl ?_)
      refine e_by (w - 1 - (j : Int) ≥ 0) (fun h5 => ?_) (fun h5 => ?_)
      ·
        refine st rfl (o_y (v := .bool true) (y_t (y_k (v := .bool (decide (w - 1 - (j : Int) ≥ 0))) rfl rfl (fun _ => by kernel_rfl)) h5) rfl rfl rfl ?_)
        refine s_nil ?_
        refine q_then ?_
        refine c_true rfl ?_
        refine c_skip ?_
        refine q_then ?_
        refine c_seq ?_
        refine c_block ?_
        refine c_region ?_
        refine st rfl (o_y (v := .slice A o.length c) (y_mv rfl) rfl rfl rfl ?_)
        refine st rfl (o_y (v := .int .u64 (n : Int)) (y_mv rfl) rfl rfl rfl ?_)
        refine st rfl (o_y (v := .int .i64 (w - 1 - (j : Int))) (y_mv rfl) rfl rfl rfl ?_)
        refine st rfl (o_y (v := .int .i64 (8 * (w - 1 - (j : Int)))) (y_mul (r := 8 * (w - 1 - (j : Int))) rfl rfl rfl (by have := isW_rng (by assumption); omega)) rfl rfl rfl ?_)
        refine st rfl (o_y (v := .int .u64 ((n / 2 ^ ((8 * (w - 1 - (j : Int))).toNat) : Nat) : Int)) (y_shr (a := n) (k := (8 * (w - 1 - (j : Int))).toNat) rfl rfl (by first | omega | (have := isW_rng (by assumption); omega)) (by first | omega | (have := isW_rng (by assumption); omega))) rfl rfl rfl ?_)
        refine st rfl (o_y (v := .int .u8 ((u8of ((n / 2 ^ ((8 * (w - 1 - (j : Int))).toNat) : Nat) : Int)).toNat : Int)) (y_cvi (r := ((u8of ((n / 2 ^ ((8 * (w - 1 - (j : Int))).toNat) : Nat) : Int)).toNat : Int)) rfl Tryd.underlying22 Tryd.underlying5 (u8of_wrap _)) rfl rfl rfl ?_)
        refine st rfl (o_lit (cs := [.int .u8 ((u8of ((n / 2 ^ ((8 * (w - 1 - (j : Int))).toNat) : Nat) : Int)).toNat : Int)]) (T := 5) (m := 1) rfl rfl rfl rfl (fun _ => by kernel_rfl) (fun b2 => ?_))
        refine st rfl (o_app (l := o) (us := [u8of ((n / 2 ^ (8 * (w - 1 - (j : Int))).toNat : Nat) : Int)]) 1 rfl rfl rfl rfl rfl (src_pt 0 rfl) Tryd.underlying70 (elem_of (z := .int .u8 0) (sz := 1) (bytes := 1) (by kernel_rfl) rfl) rfl (by have := isW_rng (by assumption); simp only [List.length_cons, List.length_nil]; omega) rfl rfl (fun A2 c2 => ?_))
        refine st rfl (o_y (v := .slice A2 (o ++ [u8of ((n / 2 ^ (8 * (w - 1 - (j : Int))).toNat : Nat) : Int)]).length c2) (y_as rfl) rfl rfl rfl ?_)
        refine s_nil ?_
        refine q_block ?_
        refine q_then ?_
        refine c_region ?_
        refine st rfl (o_y (v := .int .i64 (w - 1 - (j : Int))) (y_mv rfl) rfl rfl rfl ?_)
        refine st rfl (o_y (v := .int .i64 ((w - 1 - (j : Int)) - 1)) (y_sub (r := (w - 1 - (j : Int)) - 1) rfl rfl rfl (by have := isW_rng (by assumption); omega)) rfl rfl rfl ?_)
        refine st rfl (o_y (v := .int .i64 ((w - 1 - (j : Int)) - 1)) (y_as rfl) rfl rfl rfl ?_)
        refine s_nil ?_
        refine q_then ?_
        refine c_next [1] [] (j + 1, o ++ [u8of ((n / 2 ^ (8 * (w - 1 - (j : Int))).toNat : Nat) : Int)], A2, c2) ?_ ?_ ?_ (by rfl) (by rfl)
        · exact (show (((j + 1) : Int) ≤ w) ∧ ((o ++ [u8of ((n / 2 ^ (8 * (w - 1 - (j : Int))).toNat : Nat) : Int)]) = (be w.toNat n).take (j + 1)) ∧ ((o ++ [u8of ((n / 2 ^ (8 * (w - 1 - (j : Int))).toNat : Nat) : Int)]).length = (j + 1)) from ⟨by first | omega | simp_all | (simp; done), by rw [ho]; exact be_step (by omega), by rw [List.length_append, List.length_singleton, hol]⟩)
        · show w.toNat - (j + 1) < w.toNat - j; omega
        · exact (.cons rfl rfl (.cons rfl rfl (.cons rfl rfl (.cons rfl rfl (.cons rfl (show (.int .i64 ((w - 1 - (j : Int)) - 1) : Value) = .int .i64 (w - 1 - ((j + 1) : Int)) from by first | rfl | (congr 1; omega) | (congr 1; simp; done) | (congr 1; simp; omega)) .nil)))))
      ·
        refine st rfl (o_y (v := .bool false) (y_f (y_k (v := .bool (decide (w - 1 - (j : Int) ≥ 0))) rfl rfl (fun _ => by kernel_rfl)) h5) rfl rfl rfl ?_)
        refine s_nil ?_
        refine q_then ?_
        refine c_false rfl ?_
        refine c_exit ?_
        refine q_then_exit ?_
        refine q_then_exit ?_
        refine q_block_here ?_
        refine q_then ?_
        refine c_seq ?_
        refine c_region ?_
        refine st rfl (o_y (v := .slice A o.length c) (y_mv rfl) rfl rfl rfl ?_)
        refine st rfl (o_b2s (l := o) rfl rfl (src_ars 0 rfl) Tryd.underlying70 Tryd.underlying9 Tryd.underlying5 rfl ?_)
        refine st rfl (o_y (v := .string (⟨List.toArray o⟩ : ByteArray)) (y_as rfl) rfl rfl rfl ?_)
        refine st rfl (o_y (v := .int .i64 0) (y_as rfl) rfl rfl rfl ?_)
        refine s_nil ?_
        refine q_then ?_
        refine c_ret ?_
        have he : o = be w.toNat n := by rw [ho]; exact List.take_of_length_le (by rw [be_len]; omega)
        have hp : putF w n = ((⟨List.toArray o⟩ : ByteArray), 0) := by unfold putF; first | (rw [if_neg (by assumption)]; done) | (rw [if_pos (by assumption), if_neg (ref_no (by assumption) (by assumption) (by assumption))]; done) | (rw [if_pos (by assumption), if_pos (by first | exact ref_ok1 (by assumption) (by assumption) (by assumption) | exact ref_ok2 (by assumption) (by assumption) hn)]; exact congrArg (fun x => ((⟨List.toArray x⟩ : ByteArray), (0 : Int))) he.symm)
        refine c_fin (I' := []) [] [] rfl (.tmp rfl (.tmp rfl .nil)) rfl rfl rfl ?_
        rw [hp]
        exact ⟨rfl, rfl, rfl⟩
  ·
    obtain rfl : v = .bool false := by rw [hv1, decide_eq_false h1]
    refine st rfl (o_y (v := .bool true) (y_k rfl rfl (fun _ => by kernel_rfl)) rfl rfl rfl ?_)
    refine s_nil ?_
    refine q_then ?_
    refine c_true rfl ?_
    refine c_seq ?_
    refine c_region ?_
    refine st rfl (o_y (v := .string (⟨#[]⟩ : ByteArray)) (y_as rfl) rfl rfl rfl ?_)
    refine st rfl (o_y (v := .int .i64 2) (y_as rfl) rfl rfl rfl ?_)
    refine s_nil ?_
    refine q_then ?_
    refine c_ret ?_
    refine q_then_ret ?_
    have hp : putF w n = ((⟨#[]⟩ : ByteArray), 2) := by unfold putF; first | (rw [if_neg (by assumption)]; done) | (rw [if_pos (by assumption), if_neg (ref_no (by assumption) (by assumption) (by assumption))]; done) | (rw [if_pos (by assumption), if_pos (by first | exact ref_ok1 (by assumption) (by assumption) (by assumption) | exact ref_ok2 (by assumption) (by assumption) hn)]; exact congrArg (fun x => ((⟨List.toArray x⟩ : ByteArray), (0 : Int))) he.symm)
    refine c_fin (I' := []) [] [] rfl (.tmp rfl (.tmp rfl .nil)) rfl rfl rfl ?_
    rw [hp]
    exact ⟨rfl, rfl, rfl⟩
end Go.Proofs.YthoefkpbijcdeaaDoor
