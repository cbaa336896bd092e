/-
  NARROWER THAN 'FOR EVERY INPUT', by the rows' own cells (each row's printed sentence says how): CallCodes: laid · CallReplies: laid.
  DERIVED. THE GIVEN ROWS OF THIS SEAT. 2 by the template 'for every input the law returns true; each argument reads behind the call as it read before'; 0 by the template 'total and deterministic' (their statements: YtcnncdniibkjkaaGreatDoorTotals.lean).
  GIVEN WITH THE SEED: the statements are not yours to turn. If you find one false, say at which input.
  Laid BY PROGRAM, IN A SANDBOX (cutbox-rows.mjs): the forced cells as the released guide's own fill.sh prints them over the translation ddf986e454a5b1f9… (all of the seat's roots in one cut). By AI agents, Wed Nov 11 2026. No macro, syntax, notation, axiom, sorry.
-/
import Derived.Test.YtcnncdniibkjkaaGreatDoorChecked
import GoSem.Claim
import GoSem.ClaimJoined
import GoSem.ClaimMapViews
import Derived.JoinedTies
import Derived.KernelRfl
namespace Go.Proofs.YtcnncdniibkjkaaGreatDoor
/- THE CELL 'sum', in the pinned program and in every row, IS THE sha256 OF THE DUMP (.gsa) THAT YtcnncdniibkjkaaGreatDoorProg.lean LOADS. Nothing in Lean hashes anything: it is a label: what it is worth is what the hold of that sum in a sandbox is worth. -/
noncomputable def Tryz.pinned : Pinned := { name := "ytcnncdniibkjkaagreatdoor", sum := "ddf986e454a5b1f9b64a650fef416660d24a8660d88424034dfbed23ba859450", checked := Tryz.checked }
namespace Rows
def none {H : Type} : Left H := { results := [], args := [] }

/- WHAT THE LISTED PACKAGE-LEVEL VARIABLES READ AS WHEN THE CALL BEGINS. Each datum BY PROGRAM (the guide's laid-datum.mjs) off the statement by which the dump's own 'gosem.cut.vars' lays the variable. In a bare row this is a premise. The card (YtcnncdniibkjkaaGreatDoorCards.lean) ties it to the program's text. -/
def laid_errors_errorType {H : Type} : DataW H := .iface "internal/reflectlite.rtype" (.agg [.ptr (.lit (.string [101, 114, 114, 111, 114]))])
def laid_plimsoll_field_errArg {H : Type} : DataW H := .iface "*errors.errorString" (.ptr (.agg [.lit (.string [110, 111, 32, 119, 105, 100, 116, 104])]))
def laid_plimsoll_field_errMore {H : Type} : DataW H := .iface "*errors.errorString" (.ptr (.agg [.lit (.string [116, 111, 111, 32, 115, 104, 111, 114, 116])]))
def laid_plimsoll_field_errField {H : Type} : DataW H := .iface "*errors.errorString" (.ptr (.agg [.lit (.string [116, 111, 111, 32, 103, 114, 101, 97, 116])]))
def laid_plimsoll_labcode_errLabel {H : Type} : DataW H := .iface "*errors.errorString" (.ptr (.agg [.lit (.string [110, 111, 32, 108, 97, 98, 101, 108])]))

/-- 'plimsolllaw17.CallCodes': WHATEVER THE INPUT: true; the input reads as it did. -/
def callCodesSpec : ChangeSpec := { name := "callCodes", fn := fun _ => fun
  | [d1, d2, d3] => { results := [.lit (.bool true)], args := [d1, d2, d3] }
  | _ => none }
def callCodesRow : OpenClaim := { program := "ytcnncdniibkjkaagreatdoor", sum := "ddf986e454a5b1f9b64a650fef416660d24a8660d88424034dfbed23ba859450", func := "plimsoll/plimsolllaw17.CallCodes", spec := "callCodes", inPlace := ["internal/reflectlite.ValueOf", "(internal/reflectlite.Value).Type", "(internal/reflectlite.Value).IsNil", "internal/reflectlite.TypeOf", "(internal/reflectlite.Value).Elem", "(internal/reflectlite.Value).Set", "internal/abi.NoEscape"], unfollowed := true, recurses := true, named := ["plimsoll/field.errField", "plimsoll/field.errArg", "plimsoll/field.errMore", "errors.errorType", "plimsoll/labcode.errLabel"], apart := false, laid := [("errors.errorType", laid_errors_errorType), ("plimsoll/field.errArg", laid_plimsoll_field_errArg), ("plimsoll/field.errMore", laid_plimsoll_field_errMore), ("plimsoll/field.errField", laid_plimsoll_field_errField), ("plimsoll/labcode.errLabel", laid_plimsoll_labcode_errLabel)] }
def CallCodesSaid : Prop := callCodesRow.holds Tryz.pinned (OpenSpec.ofChange callCodesSpec)

/-- ITS FALSE NEIGHBOUR: 'it returns false'. Refute it at one input. -/
def callCodesWrong : ChangeSpec := { name := "callCodes", fn := fun _ => fun
  | [d1, d2, d3] => { results := [.lit (.bool false)], args := [d1, d2, d3] }
  | _ => none }
def CallCodesWrongFalsely : Prop := callCodesRow.holds Tryz.pinned (OpenSpec.ofChange callCodesWrong)

/-- 'plimsolllaw17.CallReplies': WHATEVER THE INPUT: true; the input reads as it did. -/
def callRepliesSpec : ChangeSpec := { name := "callReplies", fn := fun _ => fun
  | [d1, d2, d3] => { results := [.lit (.bool true)], args := [d1, d2, d3] }
  | _ => none }
def callRepliesRow : OpenClaim := { program := "ytcnncdniibkjkaagreatdoor", sum := "ddf986e454a5b1f9b64a650fef416660d24a8660d88424034dfbed23ba859450", func := "plimsoll/plimsolllaw17.CallReplies", spec := "callReplies", inPlace := ["internal/reflectlite.ValueOf", "(internal/reflectlite.Value).Type", "(internal/reflectlite.Value).IsNil", "internal/reflectlite.TypeOf", "(internal/reflectlite.Value).Elem", "(internal/reflectlite.Value).Set", "internal/abi.NoEscape"], unfollowed := true, recurses := true, named := ["plimsoll/field.errField", "plimsoll/field.errArg", "plimsoll/field.errMore", "errors.errorType", "plimsoll/labcode.errLabel"], apart := false, laid := [("errors.errorType", laid_errors_errorType), ("plimsoll/field.errArg", laid_plimsoll_field_errArg), ("plimsoll/field.errMore", laid_plimsoll_field_errMore), ("plimsoll/field.errField", laid_plimsoll_field_errField), ("plimsoll/labcode.errLabel", laid_plimsoll_labcode_errLabel)] }
def CallRepliesSaid : Prop := callRepliesRow.holds Tryz.pinned (OpenSpec.ofChange callRepliesSpec)

/-- ITS FALSE NEIGHBOUR: 'it returns false'. Refute it at one input. -/
def callRepliesWrong : ChangeSpec := { name := "callReplies", fn := fun _ => fun
  | [d1, d2, d3] => { results := [.lit (.bool false)], args := [d1, d2, d3] }
  | _ => none }
def CallRepliesWrongFalsely : Prop := callRepliesRow.holds Tryz.pinned (OpenSpec.ofChange callRepliesWrong)

/- THE SECOND FORM. 'bulk': how many values and letters a reading holds, each counted each time it is reached (what is shared counts as often as it is met; a slice's spare places count too). A statement '..UptoSaid' is the law's where the arguments, and the package variables that the reading takes, are together of bulk at most 1048576: NARROWER than '..Said'. Prove '..Said' where nothing that the law and all that it calls make is longer than what came in: it says more and counts as full. Else prove '..UptoSaid'. A law counts once. -/
mutual
def uptoBulk {H : Type} : DataW H → Nat
  | .lit (.string bytes) => bytes.length + 1
  | .lit _ => 1
  | .nil => 1
  | .ptr d => uptoBulk d + 1
  | .slice elems spare => uptoBulkAll elems + uptoBulkAll spare + 1
  | .agg parts => uptoBulkAll parts + 1
  | .iface _ d => uptoBulk d + 1
  | .map entries => uptoBulkEntries entries + 1
  | .held _ => 1
def uptoBulkAll {H : Type} : List (DataW H) → Nat
  | [] => 0
  | d :: r => uptoBulk d + uptoBulkAll r
def uptoBulkEntries {H : Type} : List (Lit × DataW H) → Nat
  | [] => 0
  | x :: r => uptoBulkEntry x + uptoBulkEntries r
def uptoBulkEntry {H : Type} : Lit × DataW H → Nat
  | (.string bytes, d) => bytes.length + uptoBulk d + 1
  | (_, d) => uptoBulk d + 1
 end
def uptoSmall : (H : Type) → List (DataW H) → Bool := fun _ ds => decide (uptoBulkAll ds ≤ 1048576)
def OpenSpec.upto (s : _root_.Go.ChangeSpec) : _root_.Go.OpenSpec := { _root_.Go.OpenSpec.ofChange s with cond := some uptoSmall }

/-- 'plimsolllaw17.CallCodes', WHERE WHAT IT READS IS OF BULK AT MOST 1048576: true; the input reads as it did. -/
def callCodesUptoRow : OpenClaim := { program := "ytcnncdniibkjkaagreatdoor", sum := "ddf986e454a5b1f9b64a650fef416660d24a8660d88424034dfbed23ba859450", func := "plimsoll/plimsolllaw17.CallCodes", spec := "callCodes", inPlace := ["internal/reflectlite.ValueOf", "(internal/reflectlite.Value).Type", "(internal/reflectlite.Value).IsNil", "internal/reflectlite.TypeOf", "(internal/reflectlite.Value).Elem", "(internal/reflectlite.Value).Set", "internal/abi.NoEscape"], unfollowed := true, recurses := true, named := ["plimsoll/field.errField", "plimsoll/field.errArg", "plimsoll/field.errMore", "errors.errorType", "plimsoll/labcode.errLabel"], apart := false, laid := [("errors.errorType", laid_errors_errorType), ("plimsoll/field.errArg", laid_plimsoll_field_errArg), ("plimsoll/field.errMore", laid_plimsoll_field_errMore), ("plimsoll/field.errField", laid_plimsoll_field_errField), ("plimsoll/labcode.errLabel", laid_plimsoll_labcode_errLabel)], narrowed := true }
def CallCodesUptoSaid : Prop := callCodesUptoRow.holds Tryz.pinned (OpenSpec.upto callCodesSpec)

/-- 'plimsolllaw17.CallReplies', WHERE WHAT IT READS IS OF BULK AT MOST 1048576: true; the input reads as it did. -/
def callRepliesUptoRow : OpenClaim := { program := "ytcnncdniibkjkaagreatdoor", sum := "ddf986e454a5b1f9b64a650fef416660d24a8660d88424034dfbed23ba859450", func := "plimsoll/plimsolllaw17.CallReplies", spec := "callReplies", inPlace := ["internal/reflectlite.ValueOf", "(internal/reflectlite.Value).Type", "(internal/reflectlite.Value).IsNil", "internal/reflectlite.TypeOf", "(internal/reflectlite.Value).Elem", "(internal/reflectlite.Value).Set", "internal/abi.NoEscape"], unfollowed := true, recurses := true, named := ["plimsoll/field.errField", "plimsoll/field.errArg", "plimsoll/field.errMore", "errors.errorType", "plimsoll/labcode.errLabel"], apart := false, laid := [("errors.errorType", laid_errors_errorType), ("plimsoll/field.errArg", laid_plimsoll_field_errArg), ("plimsoll/field.errMore", laid_plimsoll_field_errMore), ("plimsoll/field.errField", laid_plimsoll_field_errField), ("plimsoll/labcode.errLabel", laid_plimsoll_labcode_errLabel)], narrowed := true }
def CallRepliesUptoSaid : Prop := callRepliesUptoRow.holds Tryz.pinned (OpenSpec.upto callRepliesSpec)

end Rows
end Go.Proofs.YtcnncdniibkjkaaGreatDoor
