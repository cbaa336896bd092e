/- The laws of chapter 17 (call), walked over the given program; no condition but what stands in each theorem: part LPF. -/
import Derived.Test.YtcnncdniibkjkaaDoorRLPD
set_option linter.unusedVariables false
set_option linter.unusedSimpArgs false
set_option maxRecDepth 100000
set_option maxHeartbeats 8000000
namespace Go.Proofs.YtcnncdniibkjkaaDoor
open Go Go.Sl Go.RowKit Go.Extern.Stop Go.Stop Go.Extern
theorem cut_two (s : ByteArray) (k : Nat) : s = s.extract 0 k ++ s.extract k s.size := bytes_ext (by
  rw [bytes_cat, ext_eq, ext_eq, List.drop_zero, ← len_bytes, List.take_length, List.take_append_drop])
theorem short_1 {c : Cal} {k : Nat} (h : (callPut c).2 = 0) (hc : c64 c) (hk : k < (callPut c).1.size) : callGet ((callPut c).1.extract 0 k) = (cal0, 170) := less_c h hc (cut_two _ k) (fun q => by
  have h1 := congrArg ByteArray.size q
  rw [ByteArray.size_extract] at h1
  have h2 : (⟨#[]⟩ : ByteArray).size = 0 := rfl
  omega)
end Go.Proofs.YtcnncdniibkjkaaDoor
