/-
  NARROWER THAN 'FOR EVERY INPUT', by the rows' own cells (each row's printed sentence says how): LabcodeBack: laid · LabcodeLists: laid · LabcodeMany: laid · LabcodeJoins: laid · LabcodeCodes: laid · LabcodeRanges: laid.
  DERIVED. THE GIVEN ROWS OF THIS SEAT. 6 by the template 'for every input the law returns true; each argument reads behind the call as it read before'; 0 by the template 'total and deterministic' (their statements: YthoefkpbijcdeaaDoorTotals.lean).
  GIVEN WITH THE SEED: the statements are not yours to turn. If you find one false, say at which input.
  Laid BY PROGRAM, IN A SANDBOX (cutbox-rows.mjs): the forced cells as the released guide's own fill.sh prints them over the translation 3b0f9f107cc0c8f3… (all of the seat's roots in one cut). By AI agents, Wed Nov 11 2026. No macro, syntax, notation, axiom, sorry.
-/
import Derived.Test.YthoefkpbijcdeaaDoorChecked
import GoSem.Claim
import GoSem.ClaimJoined
import GoSem.ClaimMapViews
import Derived.JoinedTies
import Derived.KernelRfl
namespace Go.Proofs.YthoefkpbijcdeaaDoor
/- THE CELL 'sum', in the pinned program and in every row, IS THE sha256 OF THE DUMP (.gsa) THAT YthoefkpbijcdeaaDoorProg.lean LOADS. Nothing in Lean hashes anything: it is a label: what it is worth is what the hold of that sum in a sandbox is worth. -/
noncomputable def Tryd.pinned : Pinned := { name := "ythoefkpbijcdeaadoor", sum := "3b0f9f107cc0c8f30328e307352248fc444da0a659ea3b5d1010c8567f0643cf", checked := Tryd.checked }
namespace Rows
def none {H : Type} : Left H := { results := [], args := [] }

/- WHAT THE LISTED PACKAGE-LEVEL VARIABLES READ AS WHEN THE CALL BEGINS. Each datum BY PROGRAM (the guide's laid-datum.mjs) off the statement by which the dump's own 'gosem.cut.vars' lays the variable. In a bare row this is a premise. The card (YthoefkpbijcdeaaDoorCards.lean) ties it to the program's text. -/
def laid_errors_errorType {H : Type} : DataW H := .iface "internal/reflectlite.rtype" (.agg [.ptr (.lit (.string [101, 114, 114, 111, 114]))])
def laid_plimsoll_field_errArg {H : Type} : DataW H := .iface "*errors.errorString" (.ptr (.agg [.lit (.string [110, 111, 32, 119, 105, 100, 116, 104])]))
def laid_plimsoll_field_errMore {H : Type} : DataW H := .iface "*errors.errorString" (.ptr (.agg [.lit (.string [116, 111, 111, 32, 115, 104, 111, 114, 116])]))
def laid_plimsoll_field_errField {H : Type} : DataW H := .iface "*errors.errorString" (.ptr (.agg [.lit (.string [116, 111, 111, 32, 103, 114, 101, 97, 116])]))
def laid_plimsoll_labcode_errLabel {H : Type} : DataW H := .iface "*errors.errorString" (.ptr (.agg [.lit (.string [110, 111, 32, 108, 97, 98, 101, 108])]))

/-- 'plimsolllaw04.LabcodeBack': WHATEVER THE INPUT: true; the input reads as it did. -/
def labcodeBackSpec : ChangeSpec := { name := "labcodeBack", fn := fun _ => fun
  | [d1, d2] => { results := [.lit (.bool true)], args := [d1, d2] }
  | _ => none }
def labcodeBackRow : OpenClaim := { program := "ythoefkpbijcdeaadoor", sum := "3b0f9f107cc0c8f30328e307352248fc444da0a659ea3b5d1010c8567f0643cf", func := "plimsoll/plimsolllaw04.LabcodeBack", spec := "labcodeBack", inPlace := ["internal/reflectlite.ValueOf", "(internal/reflectlite.Value).Type", "(internal/reflectlite.Value).IsNil", "internal/reflectlite.TypeOf", "(internal/reflectlite.Value).Elem", "(internal/reflectlite.Value).Set", "internal/abi.NoEscape"], unfollowed := true, recurses := true, named := ["plimsoll/labcode.errLabel", "plimsoll/field.errArg", "plimsoll/field.errMore", "plimsoll/field.errField", "errors.errorType"], apart := false, laid := [("errors.errorType", laid_errors_errorType), ("plimsoll/field.errArg", laid_plimsoll_field_errArg), ("plimsoll/field.errMore", laid_plimsoll_field_errMore), ("plimsoll/field.errField", laid_plimsoll_field_errField), ("plimsoll/labcode.errLabel", laid_plimsoll_labcode_errLabel)] }
def LabcodeBackSaid : Prop := labcodeBackRow.holds Tryd.pinned (OpenSpec.ofChange labcodeBackSpec)

/-- ITS FALSE NEIGHBOUR: 'it returns false'. Refute it at one input. -/
def labcodeBackWrong : ChangeSpec := { name := "labcodeBack", fn := fun _ => fun
  | [d1, d2] => { results := [.lit (.bool false)], args := [d1, d2] }
  | _ => none }
def LabcodeBackWrongFalsely : Prop := labcodeBackRow.holds Tryd.pinned (OpenSpec.ofChange labcodeBackWrong)

/-- 'plimsolllaw04.LabcodeLists': WHATEVER THE INPUT: true; the input reads as it did. -/
def labcodeListsSpec : ChangeSpec := { name := "labcodeLists", fn := fun _ => fun
  | [d1, d2] => { results := [.lit (.bool true)], args := [d1, d2] }
  | _ => none }
def labcodeListsRow : OpenClaim := { program := "ythoefkpbijcdeaadoor", sum := "3b0f9f107cc0c8f30328e307352248fc444da0a659ea3b5d1010c8567f0643cf", func := "plimsoll/plimsolllaw04.LabcodeLists", spec := "labcodeLists", inPlace := ["internal/reflectlite.ValueOf", "(internal/reflectlite.Value).Type", "(internal/reflectlite.Value).IsNil", "internal/reflectlite.TypeOf", "(internal/reflectlite.Value).Elem", "(internal/reflectlite.Value).Set", "internal/abi.NoEscape"], unfollowed := true, recurses := true, named := ["plimsoll/labcode.errLabel", "plimsoll/field.errArg", "plimsoll/field.errMore", "plimsoll/field.errField", "errors.errorType"], apart := false, laid := [("errors.errorType", laid_errors_errorType), ("plimsoll/field.errArg", laid_plimsoll_field_errArg), ("plimsoll/field.errMore", laid_plimsoll_field_errMore), ("plimsoll/field.errField", laid_plimsoll_field_errField), ("plimsoll/labcode.errLabel", laid_plimsoll_labcode_errLabel)] }
def LabcodeListsSaid : Prop := labcodeListsRow.holds Tryd.pinned (OpenSpec.ofChange labcodeListsSpec)

/-- ITS FALSE NEIGHBOUR: 'it returns false'. Refute it at one input. -/
def labcodeListsWrong : ChangeSpec := { name := "labcodeLists", fn := fun _ => fun
  | [d1, d2] => { results := [.lit (.bool false)], args := [d1, d2] }
  | _ => none }
def LabcodeListsWrongFalsely : Prop := labcodeListsRow.holds Tryd.pinned (OpenSpec.ofChange labcodeListsWrong)

/-- 'plimsolllaw04.LabcodeMany': WHATEVER THE INPUT: true; the input reads as it did. -/
def labcodeManySpec : ChangeSpec := { name := "labcodeMany", fn := fun _ => fun
  | [d1, d2] => { results := [.lit (.bool true)], args := [d1, d2] }
  | _ => none }
def labcodeManyRow : OpenClaim := { program := "ythoefkpbijcdeaadoor", sum := "3b0f9f107cc0c8f30328e307352248fc444da0a659ea3b5d1010c8567f0643cf", func := "plimsoll/plimsolllaw04.LabcodeMany", spec := "labcodeMany", inPlace := ["internal/reflectlite.ValueOf", "(internal/reflectlite.Value).Type", "(internal/reflectlite.Value).IsNil", "internal/reflectlite.TypeOf", "(internal/reflectlite.Value).Elem", "(internal/reflectlite.Value).Set", "internal/abi.NoEscape"], unfollowed := true, recurses := true, named := ["plimsoll/labcode.errLabel", "plimsoll/field.errArg", "plimsoll/field.errMore", "plimsoll/field.errField", "errors.errorType"], apart := false, laid := [("errors.errorType", laid_errors_errorType), ("plimsoll/field.errArg", laid_plimsoll_field_errArg), ("plimsoll/field.errMore", laid_plimsoll_field_errMore), ("plimsoll/field.errField", laid_plimsoll_field_errField), ("plimsoll/labcode.errLabel", laid_plimsoll_labcode_errLabel)] }
def LabcodeManySaid : Prop := labcodeManyRow.holds Tryd.pinned (OpenSpec.ofChange labcodeManySpec)

/-- ITS FALSE NEIGHBOUR: 'it returns false'. Refute it at one input. -/
def labcodeManyWrong : ChangeSpec := { name := "labcodeMany", fn := fun _ => fun
  | [d1, d2] => { results := [.lit (.bool false)], args := [d1, d2] }
  | _ => none }
def LabcodeManyWrongFalsely : Prop := labcodeManyRow.holds Tryd.pinned (OpenSpec.ofChange labcodeManyWrong)

/-- 'plimsolllaw04.LabcodeJoins': WHATEVER THE INPUT: true; the input reads as it did. -/
def labcodeJoinsSpec : ChangeSpec := { name := "labcodeJoins", fn := fun _ => fun
  | [d1, d2] => { results := [.lit (.bool true)], args := [d1, d2] }
  | _ => none }
def labcodeJoinsRow : OpenClaim := { program := "ythoefkpbijcdeaadoor", sum := "3b0f9f107cc0c8f30328e307352248fc444da0a659ea3b5d1010c8567f0643cf", func := "plimsoll/plimsolllaw04.LabcodeJoins", spec := "labcodeJoins", inPlace := ["internal/reflectlite.ValueOf", "(internal/reflectlite.Value).Type", "(internal/reflectlite.Value).IsNil", "internal/reflectlite.TypeOf", "(internal/reflectlite.Value).Elem", "(internal/reflectlite.Value).Set", "internal/abi.NoEscape"], unfollowed := true, recurses := true, named := ["plimsoll/labcode.errLabel", "plimsoll/field.errArg", "plimsoll/field.errMore", "plimsoll/field.errField", "errors.errorType"], apart := false, laid := [("errors.errorType", laid_errors_errorType), ("plimsoll/field.errArg", laid_plimsoll_field_errArg), ("plimsoll/field.errMore", laid_plimsoll_field_errMore), ("plimsoll/field.errField", laid_plimsoll_field_errField), ("plimsoll/labcode.errLabel", laid_plimsoll_labcode_errLabel)] }
def LabcodeJoinsSaid : Prop := labcodeJoinsRow.holds Tryd.pinned (OpenSpec.ofChange labcodeJoinsSpec)

/-- ITS FALSE NEIGHBOUR: 'it returns false'. Refute it at one input. -/
def labcodeJoinsWrong : ChangeSpec := { name := "labcodeJoins", fn := fun _ => fun
  | [d1, d2] => { results := [.lit (.bool false)], args := [d1, d2] }
  | _ => none }
def LabcodeJoinsWrongFalsely : Prop := labcodeJoinsRow.holds Tryd.pinned (OpenSpec.ofChange labcodeJoinsWrong)

/-- 'plimsolllaw04.LabcodeCodes': WHATEVER THE INPUT: true; the input reads as it did. -/
def labcodeCodesSpec : ChangeSpec := { name := "labcodeCodes", fn := fun _ => fun
  | [d1, d2, d3] => { results := [.lit (.bool true)], args := [d1, d2, d3] }
  | _ => none }
def labcodeCodesRow : OpenClaim := { program := "ythoefkpbijcdeaadoor", sum := "3b0f9f107cc0c8f30328e307352248fc444da0a659ea3b5d1010c8567f0643cf", func := "plimsoll/plimsolllaw04.LabcodeCodes", spec := "labcodeCodes", inPlace := ["internal/reflectlite.ValueOf", "(internal/reflectlite.Value).Type", "(internal/reflectlite.Value).IsNil", "internal/reflectlite.TypeOf", "(internal/reflectlite.Value).Elem", "(internal/reflectlite.Value).Set", "internal/abi.NoEscape"], unfollowed := true, recurses := true, named := ["plimsoll/labcode.errLabel", "plimsoll/field.errArg", "plimsoll/field.errMore", "plimsoll/field.errField", "errors.errorType"], apart := false, laid := [("errors.errorType", laid_errors_errorType), ("plimsoll/field.errArg", laid_plimsoll_field_errArg), ("plimsoll/field.errMore", laid_plimsoll_field_errMore), ("plimsoll/field.errField", laid_plimsoll_field_errField), ("plimsoll/labcode.errLabel", laid_plimsoll_labcode_errLabel)] }
def LabcodeCodesSaid : Prop := labcodeCodesRow.holds Tryd.pinned (OpenSpec.ofChange labcodeCodesSpec)

/-- ITS FALSE NEIGHBOUR: 'it returns false'. Refute it at one input. -/
def labcodeCodesWrong : ChangeSpec := { name := "labcodeCodes", fn := fun _ => fun
  | [d1, d2, d3] => { results := [.lit (.bool false)], args := [d1, d2, d3] }
  | _ => none }
def LabcodeCodesWrongFalsely : Prop := labcodeCodesRow.holds Tryd.pinned (OpenSpec.ofChange labcodeCodesWrong)

/-- 'plimsolllaw04.LabcodeRanges': WHATEVER THE INPUT: true; the input reads as it did. -/
def labcodeRangesSpec : ChangeSpec := { name := "labcodeRanges", fn := fun _ => fun
  | [d1, d2, d3] => { results := [.lit (.bool true)], args := [d1, d2, d3] }
  | _ => none }
def labcodeRangesRow : OpenClaim := { program := "ythoefkpbijcdeaadoor", sum := "3b0f9f107cc0c8f30328e307352248fc444da0a659ea3b5d1010c8567f0643cf", func := "plimsoll/plimsolllaw04.LabcodeRanges", spec := "labcodeRanges", inPlace := ["internal/reflectlite.ValueOf", "(internal/reflectlite.Value).Type", "(internal/reflectlite.Value).IsNil", "internal/reflectlite.TypeOf", "(internal/reflectlite.Value).Elem", "(internal/reflectlite.Value).Set", "internal/abi.NoEscape"], unfollowed := true, recurses := true, named := ["plimsoll/labcode.errLabel", "plimsoll/field.errArg", "plimsoll/field.errMore", "plimsoll/field.errField", "errors.errorType"], apart := false, laid := [("errors.errorType", laid_errors_errorType), ("plimsoll/field.errArg", laid_plimsoll_field_errArg), ("plimsoll/field.errMore", laid_plimsoll_field_errMore), ("plimsoll/field.errField", laid_plimsoll_field_errField), ("plimsoll/labcode.errLabel", laid_plimsoll_labcode_errLabel)] }
def LabcodeRangesSaid : Prop := labcodeRangesRow.holds Tryd.pinned (OpenSpec.ofChange labcodeRangesSpec)

/-- ITS FALSE NEIGHBOUR: 'it returns false'. Refute it at one input. -/
def labcodeRangesWrong : ChangeSpec := { name := "labcodeRanges", fn := fun _ => fun
  | [d1, d2, d3] => { results := [.lit (.bool false)], args := [d1, d2, d3] }
  | _ => none }
def LabcodeRangesWrongFalsely : Prop := labcodeRangesRow.holds Tryd.pinned (OpenSpec.ofChange labcodeRangesWrong)

/- THE SECOND FORM. 'bulk': how many values and letters a reading holds, each counted each time it is reached (what is shared counts as often as it is met; a slice's spare places count too). A statement '..UptoSaid' is the law's where the arguments, and the package variables that the reading takes, are together of bulk at most 1048576: NARROWER than '..Said'. Prove '..Said' where nothing that the law and all that it calls make is longer than what came in: it says more and counts as full. Else prove '..UptoSaid'. A law counts once. -/
mutual
def uptoBulk {H : Type} : DataW H → Nat
  | .lit (.string bytes) => bytes.length + 1
  | .lit _ => 1
  | .nil => 1
  | .ptr d => uptoBulk d + 1
  | .slice elems spare => uptoBulkAll elems + uptoBulkAll spare + 1
  | .agg parts => uptoBulkAll parts + 1
  | .iface _ d => uptoBulk d + 1
  | .map entries => uptoBulkEntries entries + 1
  | .held _ => 1
def uptoBulkAll {H : Type} : List (DataW H) → Nat
  | [] => 0
  | d :: r => uptoBulk d + uptoBulkAll r
def uptoBulkEntries {H : Type} : List (Lit × DataW H) → Nat
  | [] => 0
  | x :: r => uptoBulkEntry x + uptoBulkEntries r
def uptoBulkEntry {H : Type} : Lit × DataW H → Nat
  | (.string bytes, d) => bytes.length + uptoBulk d + 1
  | (_, d) => uptoBulk d + 1
 end
def uptoSmall : (H : Type) → List (DataW H) → Bool := fun _ ds => decide (uptoBulkAll ds ≤ 1048576)
def OpenSpec.upto (s : _root_.Go.ChangeSpec) : _root_.Go.OpenSpec := { _root_.Go.OpenSpec.ofChange s with cond := some uptoSmall }

/-- 'plimsolllaw04.LabcodeBack', WHERE WHAT IT READS IS OF BULK AT MOST 1048576: true; the input reads as it did. -/
def labcodeBackUptoRow : OpenClaim := { program := "ythoefkpbijcdeaadoor", sum := "3b0f9f107cc0c8f30328e307352248fc444da0a659ea3b5d1010c8567f0643cf", func := "plimsoll/plimsolllaw04.LabcodeBack", spec := "labcodeBack", inPlace := ["internal/reflectlite.ValueOf", "(internal/reflectlite.Value).Type", "(internal/reflectlite.Value).IsNil", "internal/reflectlite.TypeOf", "(internal/reflectlite.Value).Elem", "(internal/reflectlite.Value).Set", "internal/abi.NoEscape"], unfollowed := true, recurses := true, named := ["plimsoll/labcode.errLabel", "plimsoll/field.errArg", "plimsoll/field.errMore", "plimsoll/field.errField", "errors.errorType"], apart := false, laid := [("errors.errorType", laid_errors_errorType), ("plimsoll/field.errArg", laid_plimsoll_field_errArg), ("plimsoll/field.errMore", laid_plimsoll_field_errMore), ("plimsoll/field.errField", laid_plimsoll_field_errField), ("plimsoll/labcode.errLabel", laid_plimsoll_labcode_errLabel)], narrowed := true }
def LabcodeBackUptoSaid : Prop := labcodeBackUptoRow.holds Tryd.pinned (OpenSpec.upto labcodeBackSpec)

/-- 'plimsolllaw04.LabcodeLists', WHERE WHAT IT READS IS OF BULK AT MOST 1048576: true; the input reads as it did. -/
def labcodeListsUptoRow : OpenClaim := { program := "ythoefkpbijcdeaadoor", sum := "3b0f9f107cc0c8f30328e307352248fc444da0a659ea3b5d1010c8567f0643cf", func := "plimsoll/plimsolllaw04.LabcodeLists", spec := "labcodeLists", inPlace := ["internal/reflectlite.ValueOf", "(internal/reflectlite.Value).Type", "(internal/reflectlite.Value).IsNil", "internal/reflectlite.TypeOf", "(internal/reflectlite.Value).Elem", "(internal/reflectlite.Value).Set", "internal/abi.NoEscape"], unfollowed := true, recurses := true, named := ["plimsoll/labcode.errLabel", "plimsoll/field.errArg", "plimsoll/field.errMore", "plimsoll/field.errField", "errors.errorType"], apart := false, laid := [("errors.errorType", laid_errors_errorType), ("plimsoll/field.errArg", laid_plimsoll_field_errArg), ("plimsoll/field.errMore", laid_plimsoll_field_errMore), ("plimsoll/field.errField", laid_plimsoll_field_errField), ("plimsoll/labcode.errLabel", laid_plimsoll_labcode_errLabel)], narrowed := true }
def LabcodeListsUptoSaid : Prop := labcodeListsUptoRow.holds Tryd.pinned (OpenSpec.upto labcodeListsSpec)

/-- 'plimsolllaw04.LabcodeMany', WHERE WHAT IT READS IS OF BULK AT MOST 1048576: true; the input reads as it did. -/
def labcodeManyUptoRow : OpenClaim := { program := "ythoefkpbijcdeaadoor", sum := "3b0f9f107cc0c8f30328e307352248fc444da0a659ea3b5d1010c8567f0643cf", func := "plimsoll/plimsolllaw04.LabcodeMany", spec := "labcodeMany", inPlace := ["internal/reflectlite.ValueOf", "(internal/reflectlite.Value).Type", "(internal/reflectlite.Value).IsNil", "internal/reflectlite.TypeOf", "(internal/reflectlite.Value).Elem", "(internal/reflectlite.Value).Set", "internal/abi.NoEscape"], unfollowed := true, recurses := true, named := ["plimsoll/labcode.errLabel", "plimsoll/field.errArg", "plimsoll/field.errMore", "plimsoll/field.errField", "errors.errorType"], apart := false, laid := [("errors.errorType", laid_errors_errorType), ("plimsoll/field.errArg", laid_plimsoll_field_errArg), ("plimsoll/field.errMore", laid_plimsoll_field_errMore), ("plimsoll/field.errField", laid_plimsoll_field_errField), ("plimsoll/labcode.errLabel", laid_plimsoll_labcode_errLabel)], narrowed := true }
def LabcodeManyUptoSaid : Prop := labcodeManyUptoRow.holds Tryd.pinned (OpenSpec.upto labcodeManySpec)

/-- 'plimsolllaw04.LabcodeJoins', WHERE WHAT IT READS IS OF BULK AT MOST 1048576: true; the input reads as it did. -/
def labcodeJoinsUptoRow : OpenClaim := { program := "ythoefkpbijcdeaadoor", sum := "3b0f9f107cc0c8f30328e307352248fc444da0a659ea3b5d1010c8567f0643cf", func := "plimsoll/plimsolllaw04.LabcodeJoins", spec := "labcodeJoins", inPlace := ["internal/reflectlite.ValueOf", "(internal/reflectlite.Value).Type", "(internal/reflectlite.Value).IsNil", "internal/reflectlite.TypeOf", "(internal/reflectlite.Value).Elem", "(internal/reflectlite.Value).Set", "internal/abi.NoEscape"], unfollowed := true, recurses := true, named := ["plimsoll/labcode.errLabel", "plimsoll/field.errArg", "plimsoll/field.errMore", "plimsoll/field.errField", "errors.errorType"], apart := false, laid := [("errors.errorType", laid_errors_errorType), ("plimsoll/field.errArg", laid_plimsoll_field_errArg), ("plimsoll/field.errMore", laid_plimsoll_field_errMore), ("plimsoll/field.errField", laid_plimsoll_field_errField), ("plimsoll/labcode.errLabel", laid_plimsoll_labcode_errLabel)], narrowed := true }
def LabcodeJoinsUptoSaid : Prop := labcodeJoinsUptoRow.holds Tryd.pinned (OpenSpec.upto labcodeJoinsSpec)

/-- 'plimsolllaw04.LabcodeCodes', WHERE WHAT IT READS IS OF BULK AT MOST 1048576: true; the input reads as it did. -/
def labcodeCodesUptoRow : OpenClaim := { program := "ythoefkpbijcdeaadoor", sum := "3b0f9f107cc0c8f30328e307352248fc444da0a659ea3b5d1010c8567f0643cf", func := "plimsoll/plimsolllaw04.LabcodeCodes", spec := "labcodeCodes", inPlace := ["internal/reflectlite.ValueOf", "(internal/reflectlite.Value).Type", "(internal/reflectlite.Value).IsNil", "internal/reflectlite.TypeOf", "(internal/reflectlite.Value).Elem", "(internal/reflectlite.Value).Set", "internal/abi.NoEscape"], unfollowed := true, recurses := true, named := ["plimsoll/labcode.errLabel", "plimsoll/field.errArg", "plimsoll/field.errMore", "plimsoll/field.errField", "errors.errorType"], apart := false, laid := [("errors.errorType", laid_errors_errorType), ("plimsoll/field.errArg", laid_plimsoll_field_errArg), ("plimsoll/field.errMore", laid_plimsoll_field_errMore), ("plimsoll/field.errField", laid_plimsoll_field_errField), ("plimsoll/labcode.errLabel", laid_plimsoll_labcode_errLabel)], narrowed := true }
def LabcodeCodesUptoSaid : Prop := labcodeCodesUptoRow.holds Tryd.pinned (OpenSpec.upto labcodeCodesSpec)

/-- 'plimsolllaw04.LabcodeRanges', WHERE WHAT IT READS IS OF BULK AT MOST 1048576: true; the input reads as it did. -/
def labcodeRangesUptoRow : OpenClaim := { program := "ythoefkpbijcdeaadoor", sum := "3b0f9f107cc0c8f30328e307352248fc444da0a659ea3b5d1010c8567f0643cf", func := "plimsoll/plimsolllaw04.LabcodeRanges", spec := "labcodeRanges", inPlace := ["internal/reflectlite.ValueOf", "(internal/reflectlite.Value).Type", "(internal/reflectlite.Value).IsNil", "internal/reflectlite.TypeOf", "(internal/reflectlite.Value).Elem", "(internal/reflectlite.Value).Set", "internal/abi.NoEscape"], unfollowed := true, recurses := true, named := ["plimsoll/labcode.errLabel", "plimsoll/field.errArg", "plimsoll/field.errMore", "plimsoll/field.errField", "errors.errorType"], apart := false, laid := [("errors.errorType", laid_errors_errorType), ("plimsoll/field.errArg", laid_plimsoll_field_errArg), ("plimsoll/field.errMore", laid_plimsoll_field_errMore), ("plimsoll/field.errField", laid_plimsoll_field_errField), ("plimsoll/labcode.errLabel", laid_plimsoll_labcode_errLabel)], narrowed := true }
def LabcodeRangesUptoSaid : Prop := labcodeRangesUptoRow.holds Tryd.pinned (OpenSpec.upto labcodeRangesSpec)

end Rows
end Go.Proofs.YthoefkpbijcdeaaDoor
