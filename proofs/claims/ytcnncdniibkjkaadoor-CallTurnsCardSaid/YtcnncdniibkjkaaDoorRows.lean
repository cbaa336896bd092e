/-
  NARROWER THAN 'FOR EVERY INPUT', by the rows' own cells (each row's printed sentence says how): CallBack: laid · CallShort: laid · CallFirst: laid · CallTurns: laid.
  DERIVED. THE GIVEN ROWS OF THIS SEAT. 4 by the template 'for every input the law returns true; each argument reads behind the call as it read before'; 0 by the template 'total and deterministic' (their statements: YtcnncdniibkjkaaDoorTotals.lean).
  GIVEN WITH THE SEED: the statements are not yours to turn. If you find one false, say at which input.
  Laid BY PROGRAM, IN A SANDBOX (cutbox-rows.mjs): the forced cells as the released guide's own fill.sh prints them over the translation c5a77172084c7292… (all of the seat's roots in one cut). By AI agents, Wed Nov 11 2026. No macro, syntax, notation, axiom, sorry.
-/
import Derived.Test.YtcnncdniibkjkaaDoorChecked
import GoSem.Claim
import GoSem.ClaimJoined
import GoSem.ClaimMapViews
import Derived.JoinedTies
import Derived.KernelRfl
namespace Go.Proofs.YtcnncdniibkjkaaDoor
/- THE CELL 'sum', in the pinned program and in every row, IS THE sha256 OF THE DUMP (.gsa) THAT YtcnncdniibkjkaaDoorProg.lean LOADS. Nothing in Lean hashes anything: it is a label: what it is worth is what the hold of that sum in a sandbox is worth. -/
noncomputable def Tryd.pinned : Pinned := { name := "ytcnncdniibkjkaadoor", sum := "c5a77172084c729244418205d125cd7944155e9bafbfaa46997466e410fd3a65", checked := Tryd.checked }
namespace Rows
def none {H : Type} : Left H := { results := [], args := [] }

/- WHAT THE LISTED PACKAGE-LEVEL VARIABLES READ AS WHEN THE CALL BEGINS. Each datum BY PROGRAM (the guide's laid-datum.mjs) off the statement by which the dump's own 'gosem.cut.vars' lays the variable. In a bare row this is a premise. The card (YtcnncdniibkjkaaDoorCards.lean) ties it to the program's text. -/
def laid_errors_errorType {H : Type} : DataW H := .iface "internal/reflectlite.rtype" (.agg [.ptr (.lit (.string [101, 114, 114, 111, 114]))])
def laid_plimsoll_field_errArg {H : Type} : DataW H := .iface "*errors.errorString" (.ptr (.agg [.lit (.string [110, 111, 32, 119, 105, 100, 116, 104])]))
def laid_plimsoll_field_errMore {H : Type} : DataW H := .iface "*errors.errorString" (.ptr (.agg [.lit (.string [116, 111, 111, 32, 115, 104, 111, 114, 116])]))
def laid_plimsoll_field_errField {H : Type} : DataW H := .iface "*errors.errorString" (.ptr (.agg [.lit (.string [116, 111, 111, 32, 103, 114, 101, 97, 116])]))
def laid_plimsoll_labcode_errLabel {H : Type} : DataW H := .iface "*errors.errorString" (.ptr (.agg [.lit (.string [110, 111, 32, 108, 97, 98, 101, 108])]))

/-- 'plimsolllaw17.CallBack': WHATEVER THE INPUT: true; the input reads as it did. -/
def callBackSpec : ChangeSpec := { name := "callBack", fn := fun _ => fun
  | [d1, d2] => { results := [.lit (.bool true)], args := [d1, d2] }
  | _ => none }
def callBackRow : OpenClaim := { program := "ytcnncdniibkjkaadoor", sum := "c5a77172084c729244418205d125cd7944155e9bafbfaa46997466e410fd3a65", func := "plimsoll/plimsolllaw17.CallBack", spec := "callBack", inPlace := ["internal/reflectlite.ValueOf", "(internal/reflectlite.Value).Type", "(internal/reflectlite.Value).IsNil", "internal/reflectlite.TypeOf", "(internal/reflectlite.Value).Elem", "(internal/reflectlite.Value).Set", "internal/abi.NoEscape"], unfollowed := true, recurses := true, named := ["plimsoll/field.errField", "plimsoll/field.errArg", "plimsoll/field.errMore", "errors.errorType", "plimsoll/labcode.errLabel"], apart := false, laid := [("errors.errorType", laid_errors_errorType), ("plimsoll/field.errArg", laid_plimsoll_field_errArg), ("plimsoll/field.errMore", laid_plimsoll_field_errMore), ("plimsoll/field.errField", laid_plimsoll_field_errField), ("plimsoll/labcode.errLabel", laid_plimsoll_labcode_errLabel)] }
def CallBackSaid : Prop := callBackRow.holds Tryd.pinned (OpenSpec.ofChange callBackSpec)

/-- ITS FALSE NEIGHBOUR: 'it returns false'. Refute it at one input. -/
def callBackWrong : ChangeSpec := { name := "callBack", fn := fun _ => fun
  | [d1, d2] => { results := [.lit (.bool false)], args := [d1, d2] }
  | _ => none }
def CallBackWrongFalsely : Prop := callBackRow.holds Tryd.pinned (OpenSpec.ofChange callBackWrong)

/-- 'plimsolllaw17.CallShort': WHATEVER THE INPUT: true; the input reads as it did. -/
def callShortSpec : ChangeSpec := { name := "callShort", fn := fun _ => fun
  | [d1, d2] => { results := [.lit (.bool true)], args := [d1, d2] }
  | _ => none }
def callShortRow : OpenClaim := { program := "ytcnncdniibkjkaadoor", sum := "c5a77172084c729244418205d125cd7944155e9bafbfaa46997466e410fd3a65", func := "plimsoll/plimsolllaw17.CallShort", spec := "callShort", inPlace := ["internal/reflectlite.ValueOf", "(internal/reflectlite.Value).Type", "(internal/reflectlite.Value).IsNil", "internal/reflectlite.TypeOf", "(internal/reflectlite.Value).Elem", "(internal/reflectlite.Value).Set", "internal/abi.NoEscape"], unfollowed := true, recurses := true, named := ["plimsoll/field.errField", "plimsoll/field.errArg", "plimsoll/field.errMore", "errors.errorType", "plimsoll/labcode.errLabel"], apart := false, laid := [("errors.errorType", laid_errors_errorType), ("plimsoll/field.errArg", laid_plimsoll_field_errArg), ("plimsoll/field.errMore", laid_plimsoll_field_errMore), ("plimsoll/field.errField", laid_plimsoll_field_errField), ("plimsoll/labcode.errLabel", laid_plimsoll_labcode_errLabel)] }
def CallShortSaid : Prop := callShortRow.holds Tryd.pinned (OpenSpec.ofChange callShortSpec)

/-- ITS FALSE NEIGHBOUR: 'it returns false'. Refute it at one input. -/
def callShortWrong : ChangeSpec := { name := "callShort", fn := fun _ => fun
  | [d1, d2] => { results := [.lit (.bool false)], args := [d1, d2] }
  | _ => none }
def CallShortWrongFalsely : Prop := callShortRow.holds Tryd.pinned (OpenSpec.ofChange callShortWrong)

/-- 'plimsolllaw17.CallFirst': WHATEVER THE INPUT: true; the input reads as it did. -/
def callFirstSpec : ChangeSpec := { name := "callFirst", fn := fun _ => fun
  | [d1, d2] => { results := [.lit (.bool true)], args := [d1, d2] }
  | _ => none }
def callFirstRow : OpenClaim := { program := "ytcnncdniibkjkaadoor", sum := "c5a77172084c729244418205d125cd7944155e9bafbfaa46997466e410fd3a65", func := "plimsoll/plimsolllaw17.CallFirst", spec := "callFirst", inPlace := ["internal/reflectlite.ValueOf", "(internal/reflectlite.Value).Type", "(internal/reflectlite.Value).IsNil", "internal/reflectlite.TypeOf", "(internal/reflectlite.Value).Elem", "(internal/reflectlite.Value).Set", "internal/abi.NoEscape"], unfollowed := true, recurses := true, named := ["plimsoll/field.errField", "plimsoll/field.errArg", "plimsoll/field.errMore", "errors.errorType", "plimsoll/labcode.errLabel"], apart := false, laid := [("errors.errorType", laid_errors_errorType), ("plimsoll/field.errArg", laid_plimsoll_field_errArg), ("plimsoll/field.errMore", laid_plimsoll_field_errMore), ("plimsoll/field.errField", laid_plimsoll_field_errField), ("plimsoll/labcode.errLabel", laid_plimsoll_labcode_errLabel)] }
def CallFirstSaid : Prop := callFirstRow.holds Tryd.pinned (OpenSpec.ofChange callFirstSpec)

/-- ITS FALSE NEIGHBOUR: 'it returns false'. Refute it at one input. -/
def callFirstWrong : ChangeSpec := { name := "callFirst", fn := fun _ => fun
  | [d1, d2] => { results := [.lit (.bool false)], args := [d1, d2] }
  | _ => none }
def CallFirstWrongFalsely : Prop := callFirstRow.holds Tryd.pinned (OpenSpec.ofChange callFirstWrong)

/-- 'plimsolllaw17.CallTurns': WHATEVER THE INPUT: true; the input reads as it did. -/
def callTurnsSpec : ChangeSpec := { name := "callTurns", fn := fun _ => fun
  | [d1, d2] => { results := [.lit (.bool true)], args := [d1, d2] }
  | _ => none }
def callTurnsRow : OpenClaim := { program := "ytcnncdniibkjkaadoor", sum := "c5a77172084c729244418205d125cd7944155e9bafbfaa46997466e410fd3a65", func := "plimsoll/plimsolllaw17.CallTurns", spec := "callTurns", inPlace := ["internal/reflectlite.ValueOf", "(internal/reflectlite.Value).Type", "(internal/reflectlite.Value).IsNil", "internal/reflectlite.TypeOf", "(internal/reflectlite.Value).Elem", "(internal/reflectlite.Value).Set", "internal/abi.NoEscape"], unfollowed := true, recurses := true, named := ["plimsoll/field.errField", "plimsoll/field.errArg", "plimsoll/field.errMore", "errors.errorType", "plimsoll/labcode.errLabel"], apart := false, laid := [("errors.errorType", laid_errors_errorType), ("plimsoll/field.errArg", laid_plimsoll_field_errArg), ("plimsoll/field.errMore", laid_plimsoll_field_errMore), ("plimsoll/field.errField", laid_plimsoll_field_errField), ("plimsoll/labcode.errLabel", laid_plimsoll_labcode_errLabel)] }
def CallTurnsSaid : Prop := callTurnsRow.holds Tryd.pinned (OpenSpec.ofChange callTurnsSpec)

/-- ITS FALSE NEIGHBOUR: 'it returns false'. Refute it at one input. -/
def callTurnsWrong : ChangeSpec := { name := "callTurns", fn := fun _ => fun
  | [d1, d2] => { results := [.lit (.bool false)], args := [d1, d2] }
  | _ => none }
def CallTurnsWrongFalsely : Prop := callTurnsRow.holds Tryd.pinned (OpenSpec.ofChange callTurnsWrong)

/- THE SECOND FORM. 'bulk': how many values and letters a reading holds, each counted each time it is reached (what is shared counts as often as it is met; a slice's spare places count too). A statement '..UptoSaid' is the law's where the arguments, and the package variables that the reading takes, are together of bulk at most 1048576: NARROWER than '..Said'. Prove '..Said' where nothing that the law and all that it calls make is longer than what came in: it says more and counts as full. Else prove '..UptoSaid'. A law counts once. -/
mutual
def uptoBulk {H : Type} : DataW H → Nat
  | .lit (.string bytes) => bytes.length + 1
  | .lit _ => 1
  | .nil => 1
  | .ptr d => uptoBulk d + 1
  | .slice elems spare => uptoBulkAll elems + uptoBulkAll spare + 1
  | .agg parts => uptoBulkAll parts + 1
  | .iface _ d => uptoBulk d + 1
  | .map entries => uptoBulkEntries entries + 1
  | .held _ => 1
def uptoBulkAll {H : Type} : List (DataW H) → Nat
  | [] => 0
  | d :: r => uptoBulk d + uptoBulkAll r
def uptoBulkEntries {H : Type} : List (Lit × DataW H) → Nat
  | [] => 0
  | x :: r => uptoBulkEntry x + uptoBulkEntries r
def uptoBulkEntry {H : Type} : Lit × DataW H → Nat
  | (.string bytes, d) => bytes.length + uptoBulk d + 1
  | (_, d) => uptoBulk d + 1
 end
def uptoSmall : (H : Type) → List (DataW H) → Bool := fun _ ds => decide (uptoBulkAll ds ≤ 1048576)
def OpenSpec.upto (s : _root_.Go.ChangeSpec) : _root_.Go.OpenSpec := { _root_.Go.OpenSpec.ofChange s with cond := some uptoSmall }

/-- 'plimsolllaw17.CallBack', WHERE WHAT IT READS IS OF BULK AT MOST 1048576: true; the input reads as it did. -/
def callBackUptoRow : OpenClaim := { program := "ytcnncdniibkjkaadoor", sum := "c5a77172084c729244418205d125cd7944155e9bafbfaa46997466e410fd3a65", func := "plimsoll/plimsolllaw17.CallBack", spec := "callBack", inPlace := ["internal/reflectlite.ValueOf", "(internal/reflectlite.Value).Type", "(internal/reflectlite.Value).IsNil", "internal/reflectlite.TypeOf", "(internal/reflectlite.Value).Elem", "(internal/reflectlite.Value).Set", "internal/abi.NoEscape"], unfollowed := true, recurses := true, named := ["plimsoll/field.errField", "plimsoll/field.errArg", "plimsoll/field.errMore", "errors.errorType", "plimsoll/labcode.errLabel"], apart := false, laid := [("errors.errorType", laid_errors_errorType), ("plimsoll/field.errArg", laid_plimsoll_field_errArg), ("plimsoll/field.errMore", laid_plimsoll_field_errMore), ("plimsoll/field.errField", laid_plimsoll_field_errField), ("plimsoll/labcode.errLabel", laid_plimsoll_labcode_errLabel)], narrowed := true }
def CallBackUptoSaid : Prop := callBackUptoRow.holds Tryd.pinned (OpenSpec.upto callBackSpec)

/-- 'plimsolllaw17.CallShort', WHERE WHAT IT READS IS OF BULK AT MOST 1048576: true; the input reads as it did. -/
def callShortUptoRow : OpenClaim := { program := "ytcnncdniibkjkaadoor", sum := "c5a77172084c729244418205d125cd7944155e9bafbfaa46997466e410fd3a65", func := "plimsoll/plimsolllaw17.CallShort", spec := "callShort", inPlace := ["internal/reflectlite.ValueOf", "(internal/reflectlite.Value).Type", "(internal/reflectlite.Value).IsNil", "internal/reflectlite.TypeOf", "(internal/reflectlite.Value).Elem", "(internal/reflectlite.Value).Set", "internal/abi.NoEscape"], unfollowed := true, recurses := true, named := ["plimsoll/field.errField", "plimsoll/field.errArg", "plimsoll/field.errMore", "errors.errorType", "plimsoll/labcode.errLabel"], apart := false, laid := [("errors.errorType", laid_errors_errorType), ("plimsoll/field.errArg", laid_plimsoll_field_errArg), ("plimsoll/field.errMore", laid_plimsoll_field_errMore), ("plimsoll/field.errField", laid_plimsoll_field_errField), ("plimsoll/labcode.errLabel", laid_plimsoll_labcode_errLabel)], narrowed := true }
def CallShortUptoSaid : Prop := callShortUptoRow.holds Tryd.pinned (OpenSpec.upto callShortSpec)

/-- 'plimsolllaw17.CallFirst', WHERE WHAT IT READS IS OF BULK AT MOST 1048576: true; the input reads as it did. -/
def callFirstUptoRow : OpenClaim := { program := "ytcnncdniibkjkaadoor", sum := "c5a77172084c729244418205d125cd7944155e9bafbfaa46997466e410fd3a65", func := "plimsoll/plimsolllaw17.CallFirst", spec := "callFirst", inPlace := ["internal/reflectlite.ValueOf", "(internal/reflectlite.Value).Type", "(internal/reflectlite.Value).IsNil", "internal/reflectlite.TypeOf", "(internal/reflectlite.Value).Elem", "(internal/reflectlite.Value).Set", "internal/abi.NoEscape"], unfollowed := true, recurses := true, named := ["plimsoll/field.errField", "plimsoll/field.errArg", "plimsoll/field.errMore", "errors.errorType", "plimsoll/labcode.errLabel"], apart := false, laid := [("errors.errorType", laid_errors_errorType), ("plimsoll/field.errArg", laid_plimsoll_field_errArg), ("plimsoll/field.errMore", laid_plimsoll_field_errMore), ("plimsoll/field.errField", laid_plimsoll_field_errField), ("plimsoll/labcode.errLabel", laid_plimsoll_labcode_errLabel)], narrowed := true }
def CallFirstUptoSaid : Prop := callFirstUptoRow.holds Tryd.pinned (OpenSpec.upto callFirstSpec)

/-- 'plimsolllaw17.CallTurns', WHERE WHAT IT READS IS OF BULK AT MOST 1048576: true; the input reads as it did. -/
def callTurnsUptoRow : OpenClaim := { program := "ytcnncdniibkjkaadoor", sum := "c5a77172084c729244418205d125cd7944155e9bafbfaa46997466e410fd3a65", func := "plimsoll/plimsolllaw17.CallTurns", spec := "callTurns", inPlace := ["internal/reflectlite.ValueOf", "(internal/reflectlite.Value).Type", "(internal/reflectlite.Value).IsNil", "internal/reflectlite.TypeOf", "(internal/reflectlite.Value).Elem", "(internal/reflectlite.Value).Set", "internal/abi.NoEscape"], unfollowed := true, recurses := true, named := ["plimsoll/field.errField", "plimsoll/field.errArg", "plimsoll/field.errMore", "errors.errorType", "plimsoll/labcode.errLabel"], apart := false, laid := [("errors.errorType", laid_errors_errorType), ("plimsoll/field.errArg", laid_plimsoll_field_errArg), ("plimsoll/field.errMore", laid_plimsoll_field_errMore), ("plimsoll/field.errField", laid_plimsoll_field_errField), ("plimsoll/labcode.errLabel", laid_plimsoll_labcode_errLabel)], narrowed := true }
def CallTurnsUptoSaid : Prop := callTurnsUptoRow.holds Tryd.pinned (OpenSpec.upto callTurnsSpec)

end Rows
end Go.Proofs.YtcnncdniibkjkaaDoor
