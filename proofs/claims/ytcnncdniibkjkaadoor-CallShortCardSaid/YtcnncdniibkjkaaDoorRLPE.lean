/- The laws of chapter 17 (call), walked over the given program; no condition but what stands in each theorem: part LPE. -/
import Derived.Test.YtcnncdniibkjkaaDoorRLPA
import Derived.Test.YtcnncdniibkjkaaDoorRLPC
set_option linter.unusedVariables false
set_option linter.unusedSimpArgs false
set_option maxRecDepth 100000
set_option maxHeartbeats 8000000
namespace Go.Proofs.YtcnncdniibkjkaaDoor
open Go Go.Sl Go.RowKit Go.Extern.Stop Go.Stop Go.Extern

def gsm (x : Wst) : Prop := x.1.size ≤ 100000 ∧ lab64 x.2.2.lb ∧ x.2.2.nm.size ≤ 100000 ∧ x.2.2.da.size ≤ 100000
theorem gsm_get {x : Wst} (y : UInt8) (h : gsm x) : gsm (getC x y) := by
  obtain ⟨h1, h2, h3, h4⟩ := h
  have a0 := getC_size x y
  have a1 := textF_size x.1
  have h5 : (getC x y).1.size ≤ 100000 := by omega
  refine ⟨h5, ?_⟩
  clear h5 a0
  unfold getC getP
  repeat' split
  · exact ⟨labGet_64 _, h3, h4⟩
  · exact ⟨h2, Nat.le_trans a1 h1, h4⟩
  · exact ⟨h2, h3, Nat.le_trans a1 h1⟩
  · exact ⟨h2, h3, h4⟩
  · exact ⟨h2, h3, h4⟩
  · exact ⟨h2, h3, h4⟩
  · exact ⟨h2, h3, h4⟩
theorem gsm_getN : ∀ (l : List UInt8) {x : Wst}, gsm x → gsm (getN l x)
  | [], _, h => h
  | y :: l, x, h => gsm_getN l (gsm_get y h)
theorem cget_sm {s : ByteArray} (h : s.size ≤ 100000) : lab64 (callGet s).1.lb ∧ (callGet s).1.nm.size ≤ 100000 ∧ (callGet s).1.da.size ≤ 100000 := by
  have l0 : lab64 ⟨0, 0, 0⟩ := by show (0 : Nat) < _; decide
  have z0 : (⟨#[]⟩ : ByteArray).size ≤ 100000 := by decide
  have h1 : gsm (getI s) := ⟨Nat.le_trans (getF_rest 1 s) h, l0, z0, z0⟩
  have h2 : gsm (getX s) := gsm_getN _ h1
  unfold callGet
  split
  · exact h2.2
  · exact ⟨l0, z0, z0⟩
theorem few64 {c : Cal} (h : lab64 c.lb) (hp : c.pl ≤ 9223372036854775807 ∧ c.nn ≤ 9223372036854775807 ∧ c.id ≤ 9223372036854775807) : c64 (fewC c) := ⟨h, by show c.pl < _; omega, by show c.nn < _; omega, by show c.id < _; omega⟩
end Go.Proofs.YtcnncdniibkjkaaDoor
