/-
  NARROWER THAN 'FOR EVERY INPUT', by the rows' own cells (each row's printed sentence says how): FieldCodes: laid · FieldBack: laid · FieldTexts: laid · FieldWidths: laid · FieldOrders: laid · FieldPacks: laid.
  DERIVED. THE GIVEN ROWS OF THIS SEAT. 6 by the template 'for every input the law returns true; each argument reads behind the call as it read before'; 0 by the template 'total and deterministic' (their statements: YtpfadknajnedoaaDoorTotals.lean).
  GIVEN WITH THE SEED: the statements are not yours to turn. If you find one false, say at which input.
  Laid BY PROGRAM, IN A SANDBOX (cutbox-rows.mjs): the forced cells as the released guide's own fill.sh prints them over the translation 7bc559a3b9b84ff9… (all of the seat's roots in one cut). By AI agents, Wed Nov 11 2026. No macro, syntax, notation, axiom, sorry.
-/
import Derived.Test.YtpfadknajnedoaaDoorChecked
import GoSem.Claim
import GoSem.ClaimJoined
import GoSem.ClaimMapViews
import Derived.JoinedTies
import Derived.KernelRfl
namespace Go.Proofs.YtpfadknajnedoaaDoor
/- THE CELL 'sum', in the pinned program and in every row, IS THE sha256 OF THE DUMP (.gsa) THAT YtpfadknajnedoaaDoorProg.lean LOADS. Nothing in Lean hashes anything: it is a label: what it is worth is what the hold of that sum in a sandbox is worth. -/
noncomputable def Tryd.pinned : Pinned := { name := "ytpfadknajnedoaadoor", sum := "7bc559a3b9b84ff92674387d8b312c6915fbafd3d1215689e49ceb6bc672a4de", checked := Tryd.checked }
namespace Rows
def none {H : Type} : Left H := { results := [], args := [] }

/- WHAT THE LISTED PACKAGE-LEVEL VARIABLES READ AS WHEN THE CALL BEGINS. Each datum BY PROGRAM (the guide's laid-datum.mjs) off the statement by which the dump's own 'gosem.cut.vars' lays the variable. In a bare row this is a premise. The card (YtpfadknajnedoaaDoorCards.lean) ties it to the program's text. -/
def laid_errors_errorType {H : Type} : DataW H := .iface "internal/reflectlite.rtype" (.agg [.ptr (.lit (.string [101, 114, 114, 111, 114]))])
def laid_plimsoll_field_errArg {H : Type} : DataW H := .iface "*errors.errorString" (.ptr (.agg [.lit (.string [110, 111, 32, 119, 105, 100, 116, 104])]))
def laid_plimsoll_field_errMore {H : Type} : DataW H := .iface "*errors.errorString" (.ptr (.agg [.lit (.string [116, 111, 111, 32, 115, 104, 111, 114, 116])]))
def laid_plimsoll_field_errField {H : Type} : DataW H := .iface "*errors.errorString" (.ptr (.agg [.lit (.string [116, 111, 111, 32, 103, 114, 101, 97, 116])]))

/-- 'plimsolllaw03.FieldCodes': WHATEVER THE INPUT: true; the input reads as it did. -/
def fieldCodesSpec : ChangeSpec := { name := "fieldCodes", fn := fun _ => fun
  | [d1, d2, d3, d4] => { results := [.lit (.bool true)], args := [d1, d2, d3, d4] }
  | _ => none }
def fieldCodesRow : OpenClaim := { program := "ytpfadknajnedoaadoor", sum := "7bc559a3b9b84ff92674387d8b312c6915fbafd3d1215689e49ceb6bc672a4de", func := "plimsoll/plimsolllaw03.FieldCodes", spec := "fieldCodes", inPlace := ["internal/reflectlite.ValueOf", "(internal/reflectlite.Value).Type", "(internal/reflectlite.Value).IsNil", "internal/reflectlite.TypeOf", "(internal/reflectlite.Value).Elem", "(internal/reflectlite.Value).Set"], unfollowed := true, recurses := true, named := ["plimsoll/field.errField", "plimsoll/field.errArg", "plimsoll/field.errMore", "errors.errorType"], apart := false, laid := [("errors.errorType", laid_errors_errorType), ("plimsoll/field.errArg", laid_plimsoll_field_errArg), ("plimsoll/field.errMore", laid_plimsoll_field_errMore), ("plimsoll/field.errField", laid_plimsoll_field_errField)] }
def FieldCodesSaid : Prop := fieldCodesRow.holds Tryd.pinned (OpenSpec.ofChange fieldCodesSpec)

/-- ITS FALSE NEIGHBOUR: 'it returns false'. Refute it at one input. -/
def fieldCodesWrong : ChangeSpec := { name := "fieldCodes", fn := fun _ => fun
  | [d1, d2, d3, d4] => { results := [.lit (.bool false)], args := [d1, d2, d3, d4] }
  | _ => none }
def FieldCodesWrongFalsely : Prop := fieldCodesRow.holds Tryd.pinned (OpenSpec.ofChange fieldCodesWrong)

/-- 'plimsolllaw03.FieldBack': WHATEVER THE INPUT: true; the input reads as it did. -/
def fieldBackSpec : ChangeSpec := { name := "fieldBack", fn := fun _ => fun
  | [d1, d2, d3] => { results := [.lit (.bool true)], args := [d1, d2, d3] }
  | _ => none }
def fieldBackRow : OpenClaim := { program := "ytpfadknajnedoaadoor", sum := "7bc559a3b9b84ff92674387d8b312c6915fbafd3d1215689e49ceb6bc672a4de", func := "plimsoll/plimsolllaw03.FieldBack", spec := "fieldBack", inPlace := ["internal/reflectlite.ValueOf", "(internal/reflectlite.Value).Type", "(internal/reflectlite.Value).IsNil", "internal/reflectlite.TypeOf", "(internal/reflectlite.Value).Elem", "(internal/reflectlite.Value).Set"], unfollowed := true, recurses := true, named := ["plimsoll/field.errField", "plimsoll/field.errArg", "plimsoll/field.errMore", "errors.errorType"], apart := false, laid := [("errors.errorType", laid_errors_errorType), ("plimsoll/field.errArg", laid_plimsoll_field_errArg), ("plimsoll/field.errMore", laid_plimsoll_field_errMore), ("plimsoll/field.errField", laid_plimsoll_field_errField)] }
def FieldBackSaid : Prop := fieldBackRow.holds Tryd.pinned (OpenSpec.ofChange fieldBackSpec)

/-- ITS FALSE NEIGHBOUR: 'it returns false'. Refute it at one input. -/
def fieldBackWrong : ChangeSpec := { name := "fieldBack", fn := fun _ => fun
  | [d1, d2, d3] => { results := [.lit (.bool false)], args := [d1, d2, d3] }
  | _ => none }
def FieldBackWrongFalsely : Prop := fieldBackRow.holds Tryd.pinned (OpenSpec.ofChange fieldBackWrong)

/-- 'plimsolllaw03.FieldTexts': WHATEVER THE INPUT: true; the input reads as it did. -/
def fieldTextsSpec : ChangeSpec := { name := "fieldTexts", fn := fun _ => fun
  | [d1, d2] => { results := [.lit (.bool true)], args := [d1, d2] }
  | _ => none }
def fieldTextsRow : OpenClaim := { program := "ytpfadknajnedoaadoor", sum := "7bc559a3b9b84ff92674387d8b312c6915fbafd3d1215689e49ceb6bc672a4de", func := "plimsoll/plimsolllaw03.FieldTexts", spec := "fieldTexts", inPlace := ["internal/reflectlite.ValueOf", "(internal/reflectlite.Value).Type", "(internal/reflectlite.Value).IsNil", "internal/reflectlite.TypeOf", "(internal/reflectlite.Value).Elem", "(internal/reflectlite.Value).Set"], unfollowed := true, recurses := true, named := ["plimsoll/field.errField", "plimsoll/field.errArg", "plimsoll/field.errMore", "errors.errorType"], apart := false, laid := [("errors.errorType", laid_errors_errorType), ("plimsoll/field.errArg", laid_plimsoll_field_errArg), ("plimsoll/field.errMore", laid_plimsoll_field_errMore), ("plimsoll/field.errField", laid_plimsoll_field_errField)] }
def FieldTextsSaid : Prop := fieldTextsRow.holds Tryd.pinned (OpenSpec.ofChange fieldTextsSpec)

/-- ITS FALSE NEIGHBOUR: 'it returns false'. Refute it at one input. -/
def fieldTextsWrong : ChangeSpec := { name := "fieldTexts", fn := fun _ => fun
  | [d1, d2] => { results := [.lit (.bool false)], args := [d1, d2] }
  | _ => none }
def FieldTextsWrongFalsely : Prop := fieldTextsRow.holds Tryd.pinned (OpenSpec.ofChange fieldTextsWrong)

/-- 'plimsolllaw03.FieldWidths': WHATEVER THE INPUT: true; the input reads as it did. -/
def fieldWidthsSpec : ChangeSpec := { name := "fieldWidths", fn := fun _ => fun
  | [d1, d2] => { results := [.lit (.bool true)], args := [d1, d2] }
  | _ => none }
def fieldWidthsRow : OpenClaim := { program := "ytpfadknajnedoaadoor", sum := "7bc559a3b9b84ff92674387d8b312c6915fbafd3d1215689e49ceb6bc672a4de", func := "plimsoll/plimsolllaw03.FieldWidths", spec := "fieldWidths", inPlace := ["internal/reflectlite.ValueOf", "(internal/reflectlite.Value).Type", "(internal/reflectlite.Value).IsNil", "internal/reflectlite.TypeOf", "(internal/reflectlite.Value).Elem", "(internal/reflectlite.Value).Set"], unfollowed := true, recurses := true, named := ["plimsoll/field.errField", "plimsoll/field.errArg", "plimsoll/field.errMore", "errors.errorType"], apart := false, laid := [("errors.errorType", laid_errors_errorType), ("plimsoll/field.errArg", laid_plimsoll_field_errArg), ("plimsoll/field.errMore", laid_plimsoll_field_errMore), ("plimsoll/field.errField", laid_plimsoll_field_errField)] }
def FieldWidthsSaid : Prop := fieldWidthsRow.holds Tryd.pinned (OpenSpec.ofChange fieldWidthsSpec)

/-- ITS FALSE NEIGHBOUR: 'it returns false'. Refute it at one input. -/
def fieldWidthsWrong : ChangeSpec := { name := "fieldWidths", fn := fun _ => fun
  | [d1, d2] => { results := [.lit (.bool false)], args := [d1, d2] }
  | _ => none }
def FieldWidthsWrongFalsely : Prop := fieldWidthsRow.holds Tryd.pinned (OpenSpec.ofChange fieldWidthsWrong)

/-- 'plimsolllaw03.FieldOrders': WHATEVER THE INPUT: true; the input reads as it did. -/
def fieldOrdersSpec : ChangeSpec := { name := "fieldOrders", fn := fun _ => fun
  | [d1, d2, d3] => { results := [.lit (.bool true)], args := [d1, d2, d3] }
  | _ => none }
def fieldOrdersRow : OpenClaim := { program := "ytpfadknajnedoaadoor", sum := "7bc559a3b9b84ff92674387d8b312c6915fbafd3d1215689e49ceb6bc672a4de", func := "plimsoll/plimsolllaw03.FieldOrders", spec := "fieldOrders", inPlace := ["internal/reflectlite.ValueOf", "(internal/reflectlite.Value).Type", "(internal/reflectlite.Value).IsNil", "internal/reflectlite.TypeOf", "(internal/reflectlite.Value).Elem", "(internal/reflectlite.Value).Set"], unfollowed := true, recurses := true, named := ["plimsoll/field.errField", "plimsoll/field.errArg", "plimsoll/field.errMore", "errors.errorType"], apart := false, laid := [("errors.errorType", laid_errors_errorType), ("plimsoll/field.errArg", laid_plimsoll_field_errArg), ("plimsoll/field.errMore", laid_plimsoll_field_errMore), ("plimsoll/field.errField", laid_plimsoll_field_errField)] }
def FieldOrdersSaid : Prop := fieldOrdersRow.holds Tryd.pinned (OpenSpec.ofChange fieldOrdersSpec)

/-- ITS FALSE NEIGHBOUR: 'it returns false'. Refute it at one input. -/
def fieldOrdersWrong : ChangeSpec := { name := "fieldOrders", fn := fun _ => fun
  | [d1, d2, d3] => { results := [.lit (.bool false)], args := [d1, d2, d3] }
  | _ => none }
def FieldOrdersWrongFalsely : Prop := fieldOrdersRow.holds Tryd.pinned (OpenSpec.ofChange fieldOrdersWrong)

/-- 'plimsolllaw03.FieldPacks': WHATEVER THE INPUT: true; the input reads as it did. -/
def fieldPacksSpec : ChangeSpec := { name := "fieldPacks", fn := fun _ => fun
  | [d1, d2, d3] => { results := [.lit (.bool true)], args := [d1, d2, d3] }
  | _ => none }
def fieldPacksRow : OpenClaim := { program := "ytpfadknajnedoaadoor", sum := "7bc559a3b9b84ff92674387d8b312c6915fbafd3d1215689e49ceb6bc672a4de", func := "plimsoll/plimsolllaw03.FieldPacks", spec := "fieldPacks", inPlace := ["internal/reflectlite.ValueOf", "(internal/reflectlite.Value).Type", "(internal/reflectlite.Value).IsNil", "internal/reflectlite.TypeOf", "(internal/reflectlite.Value).Elem", "(internal/reflectlite.Value).Set"], unfollowed := true, recurses := true, named := ["plimsoll/field.errField", "plimsoll/field.errArg", "plimsoll/field.errMore", "errors.errorType"], apart := false, laid := [("errors.errorType", laid_errors_errorType), ("plimsoll/field.errArg", laid_plimsoll_field_errArg), ("plimsoll/field.errMore", laid_plimsoll_field_errMore), ("plimsoll/field.errField", laid_plimsoll_field_errField)] }
def FieldPacksSaid : Prop := fieldPacksRow.holds Tryd.pinned (OpenSpec.ofChange fieldPacksSpec)

/-- ITS FALSE NEIGHBOUR: 'it returns false'. Refute it at one input. -/
def fieldPacksWrong : ChangeSpec := { name := "fieldPacks", fn := fun _ => fun
  | [d1, d2, d3] => { results := [.lit (.bool false)], args := [d1, d2, d3] }
  | _ => none }
def FieldPacksWrongFalsely : Prop := fieldPacksRow.holds Tryd.pinned (OpenSpec.ofChange fieldPacksWrong)

/- THE SECOND FORM. 'bulk': how many values and letters a reading holds, each counted each time it is reached (what is shared counts as often as it is met; a slice's spare places count too). A statement '..UptoSaid' is the law's where the arguments, and the package variables that the reading takes, are together of bulk at most 1048576: NARROWER than '..Said'. Prove '..Said' where nothing that the law and all that it calls make is longer than what came in: it says more and counts as full. Else prove '..UptoSaid'. A law counts once. -/
mutual
def uptoBulk {H : Type} : DataW H → Nat
  | .lit (.string bytes) => bytes.length + 1
  | .lit _ => 1
  | .nil => 1
  | .ptr d => uptoBulk d + 1
  | .slice elems spare => uptoBulkAll elems + uptoBulkAll spare + 1
  | .agg parts => uptoBulkAll parts + 1
  | .iface _ d => uptoBulk d + 1
  | .map entries => uptoBulkEntries entries + 1
  | .held _ => 1
def uptoBulkAll {H : Type} : List (DataW H) → Nat
  | [] => 0
  | d :: r => uptoBulk d + uptoBulkAll r
def uptoBulkEntries {H : Type} : List (Lit × DataW H) → Nat
  | [] => 0
  | x :: r => uptoBulkEntry x + uptoBulkEntries r
def uptoBulkEntry {H : Type} : Lit × DataW H → Nat
  | (.string bytes, d) => bytes.length + uptoBulk d + 1
  | (_, d) => uptoBulk d + 1
 end
def uptoSmall : (H : Type) → List (DataW H) → Bool := fun _ ds => decide (uptoBulkAll ds ≤ 1048576)
def OpenSpec.upto (s : _root_.Go.ChangeSpec) : _root_.Go.OpenSpec := { _root_.Go.OpenSpec.ofChange s with cond := some uptoSmall }

/-- 'plimsolllaw03.FieldCodes', WHERE WHAT IT READS IS OF BULK AT MOST 1048576: true; the input reads as it did. -/
def fieldCodesUptoRow : OpenClaim := { program := "ytpfadknajnedoaadoor", sum := "7bc559a3b9b84ff92674387d8b312c6915fbafd3d1215689e49ceb6bc672a4de", func := "plimsoll/plimsolllaw03.FieldCodes", spec := "fieldCodes", inPlace := ["internal/reflectlite.ValueOf", "(internal/reflectlite.Value).Type", "(internal/reflectlite.Value).IsNil", "internal/reflectlite.TypeOf", "(internal/reflectlite.Value).Elem", "(internal/reflectlite.Value).Set"], unfollowed := true, recurses := true, named := ["plimsoll/field.errField", "plimsoll/field.errArg", "plimsoll/field.errMore", "errors.errorType"], apart := false, laid := [("errors.errorType", laid_errors_errorType), ("plimsoll/field.errArg", laid_plimsoll_field_errArg), ("plimsoll/field.errMore", laid_plimsoll_field_errMore), ("plimsoll/field.errField", laid_plimsoll_field_errField)], narrowed := true }
def FieldCodesUptoSaid : Prop := fieldCodesUptoRow.holds Tryd.pinned (OpenSpec.upto fieldCodesSpec)

/-- 'plimsolllaw03.FieldBack', WHERE WHAT IT READS IS OF BULK AT MOST 1048576: true; the input reads as it did. -/
def fieldBackUptoRow : OpenClaim := { program := "ytpfadknajnedoaadoor", sum := "7bc559a3b9b84ff92674387d8b312c6915fbafd3d1215689e49ceb6bc672a4de", func := "plimsoll/plimsolllaw03.FieldBack", spec := "fieldBack", inPlace := ["internal/reflectlite.ValueOf", "(internal/reflectlite.Value).Type", "(internal/reflectlite.Value).IsNil", "internal/reflectlite.TypeOf", "(internal/reflectlite.Value).Elem", "(internal/reflectlite.Value).Set"], unfollowed := true, recurses := true, named := ["plimsoll/field.errField", "plimsoll/field.errArg", "plimsoll/field.errMore", "errors.errorType"], apart := false, laid := [("errors.errorType", laid_errors_errorType), ("plimsoll/field.errArg", laid_plimsoll_field_errArg), ("plimsoll/field.errMore", laid_plimsoll_field_errMore), ("plimsoll/field.errField", laid_plimsoll_field_errField)], narrowed := true }
def FieldBackUptoSaid : Prop := fieldBackUptoRow.holds Tryd.pinned (OpenSpec.upto fieldBackSpec)

/-- 'plimsolllaw03.FieldTexts', WHERE WHAT IT READS IS OF BULK AT MOST 1048576: true; the input reads as it did. -/
def fieldTextsUptoRow : OpenClaim := { program := "ytpfadknajnedoaadoor", sum := "7bc559a3b9b84ff92674387d8b312c6915fbafd3d1215689e49ceb6bc672a4de", func := "plimsoll/plimsolllaw03.FieldTexts", spec := "fieldTexts", inPlace := ["internal/reflectlite.ValueOf", "(internal/reflectlite.Value).Type", "(internal/reflectlite.Value).IsNil", "internal/reflectlite.TypeOf", "(internal/reflectlite.Value).Elem", "(internal/reflectlite.Value).Set"], unfollowed := true, recurses := true, named := ["plimsoll/field.errField", "plimsoll/field.errArg", "plimsoll/field.errMore", "errors.errorType"], apart := false, laid := [("errors.errorType", laid_errors_errorType), ("plimsoll/field.errArg", laid_plimsoll_field_errArg), ("plimsoll/field.errMore", laid_plimsoll_field_errMore), ("plimsoll/field.errField", laid_plimsoll_field_errField)], narrowed := true }
def FieldTextsUptoSaid : Prop := fieldTextsUptoRow.holds Tryd.pinned (OpenSpec.upto fieldTextsSpec)

/-- 'plimsolllaw03.FieldWidths', WHERE WHAT IT READS IS OF BULK AT MOST 1048576: true; the input reads as it did. -/
def fieldWidthsUptoRow : OpenClaim := { program := "ytpfadknajnedoaadoor", sum := "7bc559a3b9b84ff92674387d8b312c6915fbafd3d1215689e49ceb6bc672a4de", func := "plimsoll/plimsolllaw03.FieldWidths", spec := "fieldWidths", inPlace := ["internal/reflectlite.ValueOf", "(internal/reflectlite.Value).Type", "(internal/reflectlite.Value).IsNil", "internal/reflectlite.TypeOf", "(internal/reflectlite.Value).Elem", "(internal/reflectlite.Value).Set"], unfollowed := true, recurses := true, named := ["plimsoll/field.errField", "plimsoll/field.errArg", "plimsoll/field.errMore", "errors.errorType"], apart := false, laid := [("errors.errorType", laid_errors_errorType), ("plimsoll/field.errArg", laid_plimsoll_field_errArg), ("plimsoll/field.errMore", laid_plimsoll_field_errMore), ("plimsoll/field.errField", laid_plimsoll_field_errField)], narrowed := true }
def FieldWidthsUptoSaid : Prop := fieldWidthsUptoRow.holds Tryd.pinned (OpenSpec.upto fieldWidthsSpec)

/-- 'plimsolllaw03.FieldOrders', WHERE WHAT IT READS IS OF BULK AT MOST 1048576: true; the input reads as it did. -/
def fieldOrdersUptoRow : OpenClaim := { program := "ytpfadknajnedoaadoor", sum := "7bc559a3b9b84ff92674387d8b312c6915fbafd3d1215689e49ceb6bc672a4de", func := "plimsoll/plimsolllaw03.FieldOrders", spec := "fieldOrders", inPlace := ["internal/reflectlite.ValueOf", "(internal/reflectlite.Value).Type", "(internal/reflectlite.Value).IsNil", "internal/reflectlite.TypeOf", "(internal/reflectlite.Value).Elem", "(internal/reflectlite.Value).Set"], unfollowed := true, recurses := true, named := ["plimsoll/field.errField", "plimsoll/field.errArg", "plimsoll/field.errMore", "errors.errorType"], apart := false, laid := [("errors.errorType", laid_errors_errorType), ("plimsoll/field.errArg", laid_plimsoll_field_errArg), ("plimsoll/field.errMore", laid_plimsoll_field_errMore), ("plimsoll/field.errField", laid_plimsoll_field_errField)], narrowed := true }
def FieldOrdersUptoSaid : Prop := fieldOrdersUptoRow.holds Tryd.pinned (OpenSpec.upto fieldOrdersSpec)

/-- 'plimsolllaw03.FieldPacks', WHERE WHAT IT READS IS OF BULK AT MOST 1048576: true; the input reads as it did. -/
def fieldPacksUptoRow : OpenClaim := { program := "ytpfadknajnedoaadoor", sum := "7bc559a3b9b84ff92674387d8b312c6915fbafd3d1215689e49ceb6bc672a4de", func := "plimsoll/plimsolllaw03.FieldPacks", spec := "fieldPacks", inPlace := ["internal/reflectlite.ValueOf", "(internal/reflectlite.Value).Type", "(internal/reflectlite.Value).IsNil", "internal/reflectlite.TypeOf", "(internal/reflectlite.Value).Elem", "(internal/reflectlite.Value).Set"], unfollowed := true, recurses := true, named := ["plimsoll/field.errField", "plimsoll/field.errArg", "plimsoll/field.errMore", "errors.errorType"], apart := false, laid := [("errors.errorType", laid_errors_errorType), ("plimsoll/field.errArg", laid_plimsoll_field_errArg), ("plimsoll/field.errMore", laid_plimsoll_field_errMore), ("plimsoll/field.errField", laid_plimsoll_field_errField)], narrowed := true }
def FieldPacksUptoSaid : Prop := fieldPacksUptoRow.holds Tryd.pinned (OpenSpec.upto fieldPacksSpec)

end Rows
end Go.Proofs.YtpfadknajnedoaaDoor
