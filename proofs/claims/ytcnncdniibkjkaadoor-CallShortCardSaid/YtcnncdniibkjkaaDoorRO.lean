/- The laws of chapter 17 (call), walked over the given program; no condition but what stands in each theorem: part O. -/
import Derived.Test.YtcnncdniibkjkaaDoorRL
import Derived.Test.YtcnncdniibkjkaaDoorRM
set_option linter.unusedVariables false
set_option linter.unusedSimpArgs false
set_option maxRecDepth 100000
set_option maxHeartbeats 8000000
namespace Go.Proofs.YtcnncdniibkjkaaDoor
open Go Go.Sl Go.RowKit Go.Extern.Stop Go.Stop Go.Extern
theorem endF_none (r : ByteArray) : endF r none = (r, 0) := rfl
theorem erN_some (i k : Nat) : ¬ erN (some (i, k)) = 0 := by
  match i with
  | 0 => show ¬ ((2 : Int) = 0); decide
  | 1 => show ¬ ((30 : Int) = 0); decide
  | n + 2 => show ¬ ((31 : Int) = 0); decide
theorem ext_take (s : ByteArray) (n : Nat) : (s.extract 0 n).data.toList = s.data.toList.take n := by
  have : (s.extract 0 n).data.toList = (s.data.extract 0 n).toList := by rw [ByteArray.data_extract]
  rw [this, Array.toList_extract, List.extract_eq_take_drop]
  simp
theorem number_bad {w : Int} {s : ByteArray} (h : ¬ isW w) : numberF w s none = (0, s, some (0, s.size)) := by
  unfold numberF badW takeS
  rw [if_neg h, if_pos rfl, if_neg (by simp)]
  rfl
theorem number_more {w : Int} {s : ByteArray} (h : isW w) (hs : (s.size : Int) < w) : numberF w s none = (0, s, some (1, s.size)) := by
  unfold numberF badW takeS
  rw [if_pos h, if_pos rfl, if_pos hs]
  rfl
theorem number_good {w : Int} {s : ByteArray} (h : isW w) (hs : ¬ (s.size : Int) < w) : numberF w s none = (numL (s.data.toList.take w.toNat), s.extract w.toNat s.size, none) := by
  unfold numberF badW takeS
  rw [if_pos h, if_pos rfl, if_neg hs, ext_take]
theorem number_stuck {w : Int} {s : ByteArray} {x : Nat × Nat} : numberF w s (some x) = (0, s, some x) := by
  have hb : badW w s (some x) = some x := by
    unfold badW
    split
    · rfl
    · rw [if_neg (by simp)]
  unfold numberF takeS
  rw [hb, if_neg (by simp)]
  rfl
theorem getG_eq (w : Int) (s : ByteArray) : getG w s = getF w s := by
  unfold getG getF
  by_cases h : isW w
  · by_cases hs : (s.size : Int) < w
    · rw [number_more h hs, if_pos h, if_pos hs]; rfl
    · rw [number_good h hs, if_pos h, if_neg hs]; rfl
  · rw [number_bad h, if_neg h]; rfl
theorem textG_eq (s : ByteArray) : textG s = textF s := by
  unfold textG takT badT textF getF
  have h1 : isW 1 := .inl rfl
  by_cases hs : (s.size : Int) < 1
  · rw [number_more h1 hs, if_pos h1, if_pos hs]
    rfl
  · rw [number_good h1 hs, if_pos h1, if_neg hs]
    simp only []
    generalize numL (s.data.toList.take (1 : Int).toNat) = n
    generalize s.extract (1 : Int).toNat s.size = r
    rw [if_pos trivial]
    by_cases hn : n > 200
    · have ht : takeS (n : Int) r (some (2, r.size)) = (⟨#[]⟩, r, some (2, r.size)) := if_neg (by simp)
      have hp : (n : Int) > 200 := by omega
      rw [if_pos hn, ht, if_pos hp]
      rfl
    · have hp : ¬ (n : Int) > 200 := by omega
      rw [if_neg hn, if_neg hp]
      by_cases hz : (r.size : Int) < (n : Int)
      · have ht : takeS (n : Int) r none = (⟨#[]⟩, r, some (1, r.size)) := by unfold takeS; rw [if_pos rfl, if_pos hz]
        rw [ht, if_pos hz]; rfl
      · have ht : takeS (n : Int) r none = (r.extract 0 n, r.extract n r.size, none) := by unfold takeS; rw [if_pos rfl, if_neg hz]; rfl
        rw [ht, if_neg hz]; rfl
theorem GetF_ (w : Int) (s : ByteArray) (ea : Addr) (em : Addr) (ef : Addr) (h12 : ea ≠ em) (h13 : ea ≠ ef) (h23 : em ≠ ef) (hs : s.size ≤ 9223372036854775807) : Con Tryd.prog 34 [.int .i64 w, .string s] [] [cellsAt 2 0 [.iface 177 (.pointer (some ea))], cellsAt 3 0 [.iface 177 (.pointer (some em))], cellsAt 1 0 [.iface 177 (.pointer (some ef))], errAt ea, errAt em, errAt ef, cellsAt 0 0 [.iface 139 (.agg #[.pointer (some ⟨5, 51, none⟩)])]] (fun v L' I' => v = .tuple #[.int .u64 ((getF w s).1 : Int), .string ((getF w s).2.1), .int .i64 ((getF w s).2.2)] ∧ L' = [] ∧ I' = []) := by
  have h := Get_ w s ea em ef h12 h13 h23 hs
  rw [getG_eq] at h
  exact h
theorem GetTextF_ (s : ByteArray) (ea : Addr) (em : Addr) (ef : Addr) (h12 : ea ≠ em) (h13 : ea ≠ ef) (h23 : em ≠ ef) (hs : s.size ≤ 9223372036854775807) : Con Tryd.prog 38 [.string s] [] [cellsAt 2 0 [.iface 177 (.pointer (some ea))], cellsAt 3 0 [.iface 177 (.pointer (some em))], cellsAt 1 0 [.iface 177 (.pointer (some ef))], errAt ea, errAt em, errAt ef, cellsAt 0 0 [.iface 139 (.agg #[.pointer (some ⟨5, 51, none⟩)])]] (fun v L' I' => v = .tuple #[.string ((textF s).1), .string ((textF s).2.1), .int .i64 ((textF s).2.2)] ∧ L' = [] ∧ I' = []) := by
  have h := GetText_ s ea em ef h12 h13 h23 hs
  rw [textG_eq] at h
  exact h
end Go.Proofs.YtcnncdniibkjkaaDoor
