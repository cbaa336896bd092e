/- The six laws of chapter 18 (audit), walked over the given program; no condition but what stands in each theorem: part C. -/
import Derived.WalkKit
import Derived.LaidEql
import Derived.Stop.Asserts
import Derived.RowKitTokens
import Derived.Shelf.Strings.OnBuilder
import Derived.Test.YtdfgedkjilpcgaaDoorProg
import Derived.Test.YtdfgedkjilpcgaaDoorChecked
import Derived.Test.YtdfgedkjilpcgaaDoorSlX
set_option linter.unusedVariables false
set_option linter.unusedSimpArgs false
set_option maxRecDepth 100000
set_option maxHeartbeats 8000000
namespace Go.Proofs.YtdfgedkjilpcgaaDoor
open Go Go.Sl Go.RowKit Go.Extern.Stop Go.Stop Go.Extern Go.Shelf

/-- A pointer to a block of errors.New's make. -/
def errAt (a : Addr) : Atom := fun h => ∃ c t, h a.block = some (.cells c t (0, 0))
theorem isTypeOf (v : Value) (w : World) : (Extern.ReflectliteType.typeOf #[.iface 106 v]).run Tryd.prog w = .ok (.iface 94 (.agg #[.pointer (some ⟨2, 106, none⟩)])) w := by kernel_rfl
theorem isComparable (w : World) : ((Extern.ReflectliteType.method fun t => do Extern.Rtype.noPackHeld "Comparable" t; (fun a => Value.bool a.comparable) <$> typeInfo t) #[.agg #[.pointer (some ⟨2, 106, none⟩)]]).run Tryd.prog w = .ok (.bool true) w := by kernel_rfl
theorem isMethodComparable (v : Value) (w : World) : (Go.method 241 94 v "Comparable").run Tryd.prog w = .ok (84, v) w := by kernel_rfl
theorem isComp : (Tryd.prog.info? 106).map (·.comparable) = some true := by kernel_rfl
theorem isSize : (Tryd.prog.info? 130).map (·.size) = some 1 := by kernel_rfl
theorem noIsE (v : Value) (xT : TypeId) (w : World) : (Instr.typeAssert (.iface 106 v) xT 96 true).run Tryd.prog w = .ok (.tuple #[.nilIface, .bool false]) w := run_typeAssert_lacksB Tryd.underlying96 (by kernel_rfl) (by kernel_rfl) v xT w
theorem noUnwrapE (v : Value) (xT : TypeId) (w : World) : (Instr.typeAssert (.iface 106 v) xT 99 true).run Tryd.prog w = .ok (.tuple #[.nilIface, .bool false]) w := run_typeAssert_lacksB Tryd.underlying99 (by kernel_rfl) (by kernel_rfl) v xT w
theorem noUnwrapsE (v : Value) (xT : TypeId) (w : World) : (Instr.typeAssert (.iface 106 v) xT 100 true).run Tryd.prog w = .ok (.tuple #[.nilIface, .bool false]) w := run_typeAssert_lacksB Tryd.underlying100 (by kernel_rfl) (by kernel_rfl) v xT w
theorem is_same0 (a : Addr) (w : World) : Calls Tryd.prog 46 #[.iface 106 (.pointer (some a)), .iface 106 (.pointer (some a))] w fun e w' => e = .returned (.bool true) ∧ w' = w := by
  obtain ⟨i, hi, hcmp⟩ := Option.map_eq_some_iff.1 isComp
  obtain ⟨j, hj, hjs⟩ := Option.map_eq_some_iff.1 isSize
  have h8 := @run_callFunc_extern Tryd.prog 56 _ Extern.ReflectliteType.typeOf Tryd.func56 (by kernel_rfl) (by kernel_rfl) (by kernel_rfl) (by kernel_rfl)
  have h32 := @run_callFunc_extern Tryd.prog 84 _ (Extern.ReflectliteType.method fun t => do Extern.Rtype.noPackHeld "Comparable" t; pure (.bool (← typeInfo t).comparable)) Tryd.func84 (by kernel_rfl) (by kernel_rfl) (by kernel_rfl) (by kernel_rfl)
  have tT := isTypeOf
  have cT := isComparable
  have mR := isMethodComparable
  have heq := run_eql_iface_ptr_same (P := Tryd.prog) w a Tryd.underlying53 Tryd.underlying106 hi hcmp hj
  go_enter Tryd.func46, Tryd.ntmps46
  go_wp2
  refine wp_loop_rounds 1 ?_
  rw [rounds_succ]
  go_wp2
  go_ret
  exact ⟨rfl, rfl⟩
theorem is_nil0 (b : Addr) (w : World) : Calls Tryd.prog 46 #[.nilIface, .iface 106 (.pointer (some b))] w fun e w' => e = .returned (.bool false) ∧ w' = w := by
  have hn := run_eql_iface_nil_left (P := Tryd.prog) w 106 (.pointer (some b)) Tryd.underlying53
  go_enter Tryd.func46, Tryd.ntmps46
  go_wp2
  go_ret
  exact ⟨rfl, rfl⟩
theorem is_other0 (a b : Addr) (ca cb : Array Value) (ta tb : TypeId) (w : World) (hne : a ≠ b) (ha : w.heap[a.block]? = some (.cells ca ta (0, 0))) (hb : w.heap[b.block]? = some (.cells cb tb (0, 0))) :
    Calls Tryd.prog 46 #[.iface 106 (.pointer (some a)), .iface 106 (.pointer (some b))] w fun e w' => e = .returned (.bool false) ∧ w' = w := by
  obtain ⟨i, hi, hcmp⟩ := Option.map_eq_some_iff.1 isComp
  obtain ⟨j, hj, hjs⟩ := Option.map_eq_some_iff.1 isSize
  have h8 := @run_callFunc_extern Tryd.prog 56 _ Extern.ReflectliteType.typeOf Tryd.func56 (by kernel_rfl) (by kernel_rfl) (by kernel_rfl) (by kernel_rfl)
  have h32 := @run_callFunc_extern Tryd.prog 84 _ (Extern.ReflectliteType.method fun t => do Extern.Rtype.noPackHeld "Comparable" t; pure (.bool (← typeInfo t).comparable)) Tryd.func84 (by kernel_rfl) (by kernel_rfl) (by kernel_rfl) (by kernel_rfl)
  have tT := isTypeOf
  have cT := isComparable
  have mR := isMethodComparable
  have nE := noIsE
  have uE := noUnwrapE
  have vE := noUnwrapsE
  have heq := run_eql_iface_ptr_other (P := Tryd.prog) w Tryd.underlying53 Tryd.underlying106 hi hcmp hj (by rw [hjs]; decide) hne ha hb
  go_enter Tryd.func46, Tryd.ntmps46
  go_wp2
  refine wp_loop_rounds 1 ?_
  rw [rounds_succ]
  go_wp2
  go_ret
  exact ⟨rfl, rfl⟩
theorem isGoes : Goes Tryd.prog 46 := ⟨_, Tryd.func46, by kernel_rfl, by kernel_rfl⟩
theorem is_nil_ (b : Addr) : Con Tryd.prog 46 [.nilIface, .iface 106 (.pointer (some b))] [] [] (fun v L' I' => v = .bool false ∧ L' = [] ∧ I' = []) :=
  ⟨isGoes, fun C w o => (is_nil0 b w).mono fun e w' ⟨h1, h2⟩ => ⟨_, h1, [], [], ⟨rfl, rfl, rfl⟩, by rw [h2]; exact o⟩⟩
theorem is_same_ (b : Addr) : Con Tryd.prog 46 [.iface 106 (.pointer (some b)), .iface 106 (.pointer (some b))] [] [] (fun v L' I' => v = .bool true ∧ L' = [] ∧ I' = []) :=
  ⟨isGoes, fun C w o => (is_same0 b w).mono fun e w' ⟨h1, h2⟩ => ⟨_, h1, [], [], ⟨rfl, rfl, rfl⟩, by rw [h2]; exact o⟩⟩
theorem is_other_ (a b : Addr) (hne : a ≠ b) : Con Tryd.prog 46 [.iface 106 (.pointer (some a)), .iface 106 (.pointer (some b))] [] [errAt a, errAt b] (fun v L' I' => v = .bool false ∧ L' = [] ∧ I' = []) :=
  ⟨isGoes, fun C w o => by
    obtain ⟨h1, l1, f1⟩ := o.fact (A := errAt a) (by simp)
    obtain ⟨h2, l2, f2⟩ := o.fact (A := errAt b) (by simp)
    obtain ⟨ca, ta, ea⟩ := f1 h1 (le.refl _)
    obtain ⟨cb, tb, eb⟩ := f2 h2 (le.refl _)
    exact (is_other0 a b ca cb ta tb w hne (l1 _ _ ea) (l2 _ _ eb)).mono fun e w' ⟨h1, h2⟩ => ⟨_, h1, [], [], ⟨rfl, rfl, rfl⟩, by rw [h2]; exact o⟩⟩
end Go.Proofs.YtdfgedkjilpcgaaDoor
