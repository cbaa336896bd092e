/- The laws of chapter 9 (file), walked over the given program; no condition but what stands in each theorem: part L. -/
import Derived.WalkKit
import Derived.LaidEql
import Derived.Stop.Asserts
import Derived.RowKitTokens
import Derived.Test.YthjcekfehicjhabDoorProg
import Derived.Test.YthjcekfehicjhabDoorChecked
import Derived.Test.YthjcekfehicjhabDoorSlX
set_option linter.unusedVariables false
set_option linter.unusedSimpArgs false
set_option maxRecDepth 100000
set_option maxHeartbeats 8000000
namespace Go.Proofs.YthjcekfehicjhabDoor
open Go Go.Sl Go.RowKit Go.Extern.Stop Go.Stop Go.Extern
theorem own_ : ownKnob Tryd.prog.godebug = none := by kernel_rfl
theorem laidOut_ : laidOutB Tryd.prog = true := by kernel_rfl
theorem cell_facts {W : World} {g : Nat} {v : Value} (h : W.cell? ⟨g, 0, none⟩ = some v) : ∀ k, le (hpOf W) k → cellsAt g 0 [v] k := fun k hk => by
  obtain ⟨b, o, he, cur, T, fr, hb, hc⟩ := cellsAt_of (W := W) (a := ⟨g, 0, none⟩) (vs := [v]) (by simp) (fun j u hj => by
    cases j with
    | zero => simp at hj; subst hj; rw [add_none]; exact h
    | succ j => simp at hj)
  simp only [Addr.mk.injEq] at he
  obtain ⟨rfl, rfl, _⟩ := he
  exact ⟨cur, T, fr, hk _ _ hb, hc⟩
theorem hd_g : Tryd.prog.globalNamed "errors.errorType" = some 0 := by kernel_rfl
theorem hd_rt : (Tryd.prog.cutTypes.find? (·.1 == "internal/reflectlite.rtype")).map (·.2) = some 70 := by kernel_rfl
theorem hd_row : ((List.range 113).filter fun t => Tryd.prog.rowNamed t [101, 114, 114, 111, 114]) = [42] := by kernel_rfl
theorem hd_size : Tryd.prog.types.size = 113 := by kernel_rfl
theorem handle_of {W : World} (h : handlesMet Tryd.prog [("errors.errorType", .iface "internal/reflectlite.rtype" (.agg [.ptr (.lit (.string [101, 114, 114, 111, 114]))]))] W) : W.cell? ⟨0, 0, none⟩ = some (.iface 70 (.agg #[.pointer (some ⟨1, 42, none⟩)])) := by
  obtain ⟨name, u, ty, e1, e2, e3, e4, e5⟩ := h _ (List.mem_singleton.2 rfl)
  have en : name = [101, 114, 114, 111, 114] := (Option.some.inj e1).symm
  subst en
  obtain rfl := Option.some.inj (hd_rt.symm.trans e2)
  have hm : ty ∈ (List.range 113).filter fun t => Tryd.prog.rowNamed t [101, 114, 114, 111, 114] := List.mem_filter.2 ⟨List.mem_range.2 (by rw [← hd_size]; exact e3), e4⟩
  rw [hd_row] at hm
  obtain rfl := List.mem_singleton.1 hm
  have hh : typeHandle Tryd.prog 42 = .pointer (some ⟨1, 42, none⟩) := by kernel_rfl
  rw [hh] at e5
  simpa using World.var?_cell hd_g e5 0
end Go.Proofs.YthjcekfehicjhabDoor
