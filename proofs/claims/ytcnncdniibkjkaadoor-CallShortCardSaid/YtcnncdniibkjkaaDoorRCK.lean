/- The laws of chapter 17 (call), walked over the given program; no condition but what stands in each theorem: part CK. -/
import Derived.Test.YtcnncdniibkjkaaDoorRCI
set_option linter.unusedVariables false
set_option linter.unusedSimpArgs false
set_option maxRecDepth 100000
set_option maxHeartbeats 8000000
namespace Go.Proofs.YtcnncdniibkjkaaDoor
open Go Go.Sl Go.RowKit Go.Extern.Stop Go.Stop Go.Extern
theorem textF_rst (s : ByteArray) : (textF s).2.1.size ≤ s.size := by
  have h := getF_rest 1 s
  unfold textF
  repeat' split
  all_goals first | exact Nat.zero_le _ | (show (ByteArray.extract _ _ _).size ≤ _; rw [ByteArray.size_extract]; omega)
theorem getC_size (x : Wst) (y : UInt8) : (getC x y).1.size ≤ x.1.size := by
  have a1 := labGet_size x.1
  have a2 := textF_rst x.1
  have a3 := getF_rest 2 x.1
  have a4 := getF_rest 1 x.1
  unfold getC getP
  repeat' split
  all_goals first | exact a1 | exact a2 | exact a3 | exact a4 | exact Nat.le_refl _
def opG (s : ByteArray) : Int := ((getF 1 s).1 : Int)
def getI (s : ByteArray) : Wst := ((getF 1 s).2.1, addQ none (getF 1 s).2.2, ⟨opG s, ⟨0, 0, 0⟩, ⟨#[]⟩, 0, 0, ⟨#[]⟩, 0⟩)
def getX (s : ByteArray) : Wst := getN (lts (signsF (opG s))) (getI s)
def callGet (s : ByteArray) : Cal × Int := if isOp (opG s) ∧ (getX s).2.1 = none ∧ (getX s).1 = ⟨#[]⟩ then ((getX s).2.2, 0) else (cal0, 170)
theorem cg_ok {s : ByteArray} {x : Wst} (hx : x = getN ((lts (signsF (opG s))).take (lts (signsF (opG s))).length) (getI s)) (h1 : isOp (opG s)) (h2 : x.2.1 = none) (h3 : x.1 = ⟨#[]⟩) : callGet s = (x.2.2, 0) := by
  rw [List.take_length] at hx
  have e : getX s = x := hx.symm
  unfold callGet; rw [e, if_pos ⟨h1, h2, h3⟩]
theorem cg_no {s : ByteArray} {x : Wst} (hx : x = getN ((lts (signsF (opG s))).take (lts (signsF (opG s))).length) (getI s)) (h : ¬ isOp (opG s) ∨ ¬ x.2.1 = none ∨ ¬ x.1 = ⟨#[]⟩) : callGet s = (cal0, 170) := by
  rw [List.take_length] at hx
  have e : getX s = x := hx.symm
  unfold callGet; rw [e, if_neg]
  rintro ⟨q1, q2, q3⟩
  rcases h with h | h | h
  · exact h q1
  · exact h q2
  · exact h q3
end Go.Proofs.YtcnncdniibkjkaaDoor
