/- The laws of chapter 17 (call), walked over the given program; no condition but what stands in each theorem: part M. -/
import Derived.Test.YtcnncdniibkjkaaDoorRK
set_option linter.unusedVariables false
set_option linter.unusedSimpArgs false
set_option maxRecDepth 100000
set_option maxHeartbeats 8000000
namespace Go.Proofs.YtcnncdniibkjkaaDoor
open Go Go.Sl Go.RowKit Go.Extern.Stop Go.Stop Go.Extern
theorem PutText_ (t : ByteArray) (ea : Addr) (em : Addr) (ef : Addr) (h12 : ea ≠ em) (h13 : ea ≠ ef) (h23 : em ≠ ef) (ht : t.size ≤ 9223372036854775807) : Con Tryd.prog 62 [.string t] [] [cellsAt 2 0 [.iface 177 (.pointer (some ea))], cellsAt 3 0 [.iface 177 (.pointer (some em))], cellsAt 1 0 [.iface 177 (.pointer (some ef))], errAt ea, errAt em, errAt ef, cellsAt 0 0 [.iface 139 (.agg #[.pointer (some ⟨5, 51, none⟩)])]] (fun v L' I' => v = .tuple #[.string ((ptextF t).1), .int .i64 ((ptextF t).2)] ∧ L' = [] ∧ I' = []) := by
 refine fn_of Tryd.func62 rfl Tryd.ntmps62 (by kernel_rfl) rfl (fun C => ?_)
 refine c_seq (c_region ?_)
 refine s_y rfl (v := .string (⟨#[]⟩ : ByteArray)) (y_as rfl) rfl ?_
 refine s_y rfl (v := .int .i64 0) (y_as rfl) rfl ?_
 refine s_nil (q_then (c_seq (c_seq (c_region ?_))))
 refine s_y rfl (v := .string t) (y_mv rfl) rfl ?_
 refine s_y rfl (v := .int .i64 (t.size : Int)) (y_k rfl rfl (fun _ => by kernel_rfl)) rfl ?_
 refine e_by ((t.size : Int) > 200) (fun h24 => ?_) (fun h24 => ?_)
 ·
  refine s_y rfl (v := .bool true) (y_t (y_k (v := .bool (decide ((t.size : Int) > 200))) rfl rfl (fun _ => by kernel_rfl)) h24) rfl ?_
  refine s_nil (q_then (c_true rfl (c_seq (c_region ?_))))
  refine st rfl (o_ldf 2 0 rfl rfl rfl Tryd.underlying51 rfl rfl ?_)
  refine st rfl (o_call [] [0, 1, 2, 3, 4, 5, 6] (told_ef_ ea em ef (by assumption) (by assumption) (by assumption)) rfl rfl rfl rfl rfl rfl (fun v L' I' hq1 => ?_))
  obtain ⟨rfl, rfl, rfl⟩ := hq1
  refine s_y rfl (v := .string (⟨#[]⟩ : ByteArray)) (y_as rfl) rfl ?_
  refine s_y rfl (v := .int .i64 31) (y_as rfl) rfl ?_
  refine s_nil (q_then (c_ret (q_then_ret ?_)))
  have hp : ptextF t = ((⟨#[]⟩ : ByteArray), 31) := by unfold ptextF; first | (rw [if_pos (by assumption)]; done) | (rw [if_neg (by assumption)]; done)
  refine c_fin (I' := []) [] [0, 1, 2, 3, 4, 5, 6] rfl (.tmp rfl (.tmp rfl .nil)) rfl rfl rfl ?_
  rw [hp]
  exact ⟨rfl, rfl, rfl⟩
 ·
  refine s_y rfl (v := .bool false) (y_f (y_k (v := .bool (decide ((t.size : Int) > 200))) rfl rfl (fun _ => by kernel_rfl)) h24) rfl ?_
  refine s_nil (q_then (c_false rfl (c_skip (q_then (c_seq (c_region ?_))))))
  refine s_y rfl (v := .string t) (y_mv rfl) rfl ?_
  refine s_y rfl (v := .int .i64 (t.size : Int)) (y_k rfl rfl (fun _ => by kernel_rfl)) rfl ?_
  refine s_y rfl (v := .int .u64 (t.size : Int)) (y_cvi (r := (t.size : Int)) rfl Tryd.underlying3 Tryd.underlying22 (IntWalk.u64_in _ (by omega))) rfl ?_
  refine st rfl (o_call [] [0, 1, 2, 3, 4, 5, 6] (put_ (1 : Int) t.size ea em ef (by first | omega | assumption | exact h64 _ (List.mem_of_getElem? (by assumption)))) rfl rfl rfl rfl rfl rfl (fun v L' I' hq2 => ?_))
  rcases hq2 with ⟨h25, h26, rfl, rfl, rfl⟩ | ⟨h27, h28, rfl, rfl, rfl⟩ | ⟨h29, rfl, rfl, rfl⟩
  ·
   refine s_y rfl (v := .tuple #[.string (beB (1 : Int) t.size), .nilIface]) (y_mv rfl) rfl ?_
   refine s_y rfl (v := .string (beB (1 : Int) t.size)) (y_k rfl rfl (fun _ => by kernel_rfl)) rfl ?_
   refine s_y rfl (v := .nilIface) (y_k rfl rfl (fun _ => by kernel_rfl)) rfl ?_
   refine s_y rfl (v := .string (beB (1 : Int) t.size)) (y_as rfl) rfl ?_
   refine s_y rfl (v := .nilIface) (y_as rfl) rfl ?_
   refine s_nil (q_then (c_seq (c_region ?_)))
   refine s_y rfl (v := .string (beB (1 : Int) t.size)) (y_mv rfl) rfl ?_
   refine s_y rfl (v := .string t) (y_mv rfl) rfl ?_
   refine s_y rfl (v := .string ((beB (1 : Int) t.size) ++ t)) (y_cat (s := beB (1 : Int) t.size) (u := t) rfl rfl (by rw [beB_size]; have : (1 : Int).toNat = 1 := rfl; omega)) rfl ?_
   refine s_y rfl (v := .nilIface) (y_mv rfl) rfl ?_
   refine st rfl (o_call [] [0, 1, 2, 3, 4, 5, 6] (told_nil_ ea em ef (by assumption) (by assumption) (by assumption)) rfl rfl rfl rfl rfl rfl (fun v L' I' hq3 => ?_))
   obtain ⟨rfl, rfl, rfl⟩ := hq3
   refine s_y rfl (v := .string ((beB (1 : Int) t.size) ++ t)) (y_as rfl) rfl ?_
   refine s_y rfl (v := .int .i64 0) (y_as rfl) rfl ?_
   refine s_nil (q_then (c_ret ?_))
   have hp : ptextF t = ((beB (1 : Int) t.size) ++ t, 0) := by unfold ptextF; first | (rw [if_pos (by assumption)]; done) | (rw [if_neg (by assumption)]; done)
   refine c_fin (I' := []) [] [0, 1, 2, 3, 4, 5, 6] rfl (.tmp rfl (.tmp rfl .nil)) rfl rfl rfl ?_
   rw [hp]
   exact ⟨rfl, rfl, rfl⟩
  ·
   exact absurd (by show _ < 256; omega) h28
  ·
   exact absurd (by unfold isW; omega) h29
theorem getE (s : ByteArray) (i : Nat) : s[i]? = s.data.toList[i]? := by
  rw [Array.getElem?_toList]
  rfl
theorem be_step {w : Int} {n j : Nat} (h : (j : Int) ≤ w - 1) : (be w.toNat n).take j ++ [u8of ((n / 2 ^ (8 * (w - 1 - (j : Int))).toNat : Nat) : Int)] = (be w.toNat n).take (j + 1) := by
  rw [List.take_add_one, be_get (by omega), show 8 * (w.toNat - 1 - j) = (8 * (w - 1 - (j : Int))).toNat by omega]; rfl
theorem shl_one {w : Int} (hw : isW w) (h : w < 8) : 1 * 2 ^ (8 * w).toNat % 18446744073709551616 = 2 ^ (8 * w.toNat) := by
  rcases hw with rfl | rfl | rfl | rfl
  · decide
  · decide
  · decide
  · omega
theorem ref_no {w : Int} {n : Nat} (hw : isW w) (h : w < 8) (hg : (n : Int) ≥ ((1 * 2 ^ (8 * w).toNat % 18446744073709551616 : Nat) : Int)) : ¬ (n < 2 ^ (8 * w.toNat)) := by
  rw [shl_one hw h] at hg; omega
theorem ref_ok1 {w : Int} {n : Nat} (hw : isW w) (h : w < 8) (hg : ¬ ((n : Int) ≥ ((1 * 2 ^ (8 * w).toNat % 18446744073709551616 : Nat) : Int))) : n < 2 ^ (8 * w.toNat) := by
  rw [shl_one hw h] at hg; omega
theorem ref_ok2 {w : Int} {n : Nat} (hw : isW w) (h : ¬ (w < 8)) (hn : n < 18446744073709551616) : n < 2 ^ (8 * w.toNat) := by
  have := isW_rng hw
  obtain rfl : w = 8 := by omega
  exact hn
def textF (s : ByteArray) : ByteArray × ByteArray × Int :=
  if (getF 1 s).2.2 = 0 then (if ((getF 1 s).1 : Int) > 200 then (⟨#[]⟩, ⟨#[]⟩, 31) else if ((getF 1 s).2.1.size : Int) < ((getF 1 s).1 : Int) then (⟨#[]⟩, ⟨#[]⟩, 30) else ((getF 1 s).2.1.extract 0 (getF 1 s).1, (getF 1 s).2.1.extract (getF 1 s).1 (getF 1 s).2.1.size, 0)) else (⟨#[]⟩, ⟨#[]⟩, (getF 1 s).2.2)
theorem getF_lt (w : Int) (s : ByteArray) : (getF w s).1 < 18446744073709551616 := by
  unfold getF
  split
  · rename_i hw
    split
    · decide
    · have h1 := numL_lt (s.data.toList.take w.toNat)
      have h3 : 256 ^ (s.data.toList.take w.toNat).length ≤ 256 ^ 8 := pow_le8 (by have := isW_rng hw; rw [List.length_take]; omega)
      show numL _ < _
      omega
  · decide
theorem getF_rest (w : Int) (s : ByteArray) : (getF w s).2.1.size ≤ s.size := by
  unfold getF
  split
  · split
    · exact Nat.zero_le _
    · show (s.extract w.toNat s.size).size ≤ _
      rw [ByteArray.size_extract]; omega
  · exact Nat.zero_le _
theorem one_byte {t : ByteArray} : (⟨List.toArray [u8of (t.size : Int)]⟩ : ByteArray) = beB 1 t.size := by
  unfold beB
  show _ = (⟨(be 1 t.size).toArray⟩ : ByteArray)
  unfold be
  simp [be]
end Go.Proofs.YtcnncdniibkjkaaDoor
