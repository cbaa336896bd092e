/- The laws of chapter 17 (call), walked over the given program; no condition but what stands in each theorem: part LPA. -/
import Derived.Test.YtcnncdniibkjkaaDoorRCI
set_option linter.unusedVariables false
set_option linter.unusedSimpArgs false
set_option maxRecDepth 100000
set_option maxHeartbeats 8000000
namespace Go.Proofs.YtcnncdniibkjkaaDoor
open Go Go.Sl Go.RowKit Go.Extern.Stop Go.Stop Go.Extern

def cutW (s : ByteArray) : ByteArray := s.extract 0 (min s.size 2010)
theorem cutW_size (s : ByteArray) : (cutW s).size ≤ 2010 := by unfold cutW; rw [ByteArray.size_extract]; omega
def shortW (s : ByteArray) : ByteArray := s.extract 0 (min s.size 210)
theorem shortW_size (s : ByteArray) : (shortW s).size ≤ 210 := by unfold shortW; rw [ByteArray.size_extract]; omega
def fewC (c : Cal) : Cal := ⟨c.op, c.lb, shortW c.nm, c.pl, c.nn, shortW c.da, c.id⟩
theorem putN_sm : ∀ (l : List UInt8) {m : Nat} {x : Wst}, wsm m x → wsm (m + 300 * l.length) (putN l x)
  | [], m, x, h => h
  | y :: l, m, x, h => by
    have ih := putN_sm l (wsm_put (y := y) h)
    unfold putN at *
    rw [List.foldl_cons]
    have e : m + 300 * (y :: l).length = m + 300 + 300 * l.length := by rw [List.length_cons]; omega
    rw [e]; exact ih
theorem callPut_size {c : Cal} (h6 : lab64 c.lb) (h1 : c.nm.size ≤ 100000) (h2 : c.da.size ≤ 100000) : (callPut c).1.size ≤ 1208 := by
  have h3 : wsm _ (putX c) := putN_sm (lts (signsF c.op)) (wsm_i h6 h1 h2)
  have h4 := signs_len c.op
  unfold callPut
  split
  · have := h3.1
    show (putX c).1.size ≤ 1208
    omega
  · exact Nat.zero_le _
end Go.Proofs.YtcnncdniibkjkaaDoor
