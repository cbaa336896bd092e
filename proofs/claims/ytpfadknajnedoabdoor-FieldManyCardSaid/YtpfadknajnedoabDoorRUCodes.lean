/- The laws of chapter 3 (field), walked over the given program; no condition but what stands in each theorem: part UCodes. -/
import Derived.WalkKit
import Derived.LaidEql
import Derived.Stop.Asserts
import Derived.RowKitTokens
import Derived.Test.YtpfadknajnedoabDoorProg
import Derived.Test.YtpfadknajnedoabDoorChecked
import Derived.Test.YtpfadknajnedoabDoorSlY
set_option linter.unusedVariables false
set_option linter.unusedSimpArgs false
set_option maxRecDepth 100000
set_option maxHeartbeats 8000000
namespace Go.Proofs.YtpfadknajnedoabDoor
open Go Go.Sl Go.RowKit Go.Extern.Stop Go.Stop Go.Extern
theorem few_ (A : Option Addr) (c : Nat) (ws : List Int) : Con Tryd.prog 6 [.slice A ws.length c] [] [rd intTy A c ws] (fun v L' I' => ∃ A1 : Option Addr, ∃ c1 : Nat, v = .slice A1 (ws.take (min ws.length 20)).length c1 ∧ L' = [] ∧ I' = [rd intTy A1 c1 (ws.take (min ws.length 20))]) := by
  refine fn_of Tryd.func6 rfl Tryd.ntmps6 (by kernel_rfl) rfl (fun C => ?_)
  refine c_seq ?_
  refine c_region ?_
  refine st rfl (o_y (v := .slice none 0 0) (y_as rfl) rfl rfl rfl ?_)
  refine s_nil ?_
  refine q_then ?_
  refine c_seq ?_
  refine c_region ?_
  refine st rfl (o_y (v := .slice A ws.length c) (y_mv rfl) rfl rfl rfl ?_)
  refine st rfl (o_y (v := .slice A ws.length c) (y_mv rfl) rfl rfl rfl ?_)
  refine st rfl (o_y (v := .int .i64 (ws.length : Int)) (y_k rfl rfl (fun _ => by kernel_rfl)) rfl rfl rfl ?_)
  refine st rfl (o_y (v := .int .i64 ((min ws.length 20 : Nat) : Int)) (y_min2 ws.length 20 rfl rfl) rfl rfl rfl ?_)
  refine e_len 0 rfl (fun h1 h2 => ?_)
  refine e_cut2 (l2 := ws.take (min ws.length 20)) 0 0 (min ws.length 20) c (by simp) rfl (by omega) (by omega) (by omega) ?_
  refine st rfl (o_y (v := .slice (cutA intTy A 0 c) (ws.take (min ws.length 20)).length (c - 0)) (y_cut (d := intTy) (l := ws) (l2 := ws.take (min ws.length 20)) 0 (min ws.length 20) c (by simp) rfl rfl .no (.at (min ws.length 20) rfl (rfl)) .no (by simp) Tryd.underlying22 (by kernel_rfl) (by kernel_rfl) (by omega) (by omega) (by omega) (by omega)) rfl rfl rfl ?_)
  refine st rfl (o_y (v := .slice (cutA intTy A 0 c) (ws.take (min ws.length 20)).length (c - 0)) (y_as rfl) rfl rfl rfl ?_)
  refine s_nil ?_
  refine q_then ?_
  refine c_ret ?_
  refine c_fin (I' := [rd intTy (cutA intTy A 0 c) (c - 0) (ws.take (min ws.length 20))]) [] [0, 1] rfl (.tmp rfl .nil) rfl rfl rfl ?_
  exact ⟨(cutA intTy A 0 c), (c - 0), rfl, rfl, rfl⟩
end Go.Proofs.YtpfadknajnedoabDoor
