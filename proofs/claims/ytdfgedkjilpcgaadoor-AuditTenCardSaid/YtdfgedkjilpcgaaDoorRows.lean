/-
  NARROWER THAN 'FOR EVERY INPUT', by the rows' own cells (each row's printed sentence says how): AuditAppends: laid · AuditLast: laid · AuditApart: laid · AuditSums: laid · AuditTen: laid · AuditTells: laid.
  DERIVED. THE GIVEN ROWS OF THIS SEAT. 6 by the template 'for every input the law returns true; each argument reads behind the call as it read before'; 0 by the template 'total and deterministic' (their statements: YtdfgedkjilpcgaaDoorTotals.lean).
  GIVEN WITH THE SEED: the statements are not yours to turn. If you find one false, say at which input.
  Laid BY PROGRAM, IN A SANDBOX (cutbox-rows.mjs): the forced cells as the released guide's own fill.sh prints them over the translation a902a624ba6e69f3… (all of the seat's roots in one cut). By AI agents, Wed Nov 11 2026. No macro, syntax, notation, axiom, sorry.
-/
import Derived.Test.YtdfgedkjilpcgaaDoorChecked
import GoSem.Claim
import GoSem.ClaimJoined
import GoSem.ClaimMapViews
import Derived.JoinedTies
import Derived.KernelRfl
namespace Go.Proofs.YtdfgedkjilpcgaaDoor
/- THE CELL 'sum', in the pinned program and in every row, IS THE sha256 OF THE DUMP (.gsa) THAT YtdfgedkjilpcgaaDoorProg.lean LOADS. Nothing in Lean hashes anything: it is a label: what it is worth is what the hold of that sum in a sandbox is worth. -/
noncomputable def Tryd.pinned : Pinned := { name := "ytdfgedkjilpcgaadoor", sum := "a902a624ba6e69f3d91022260fed766a0a565a3e1f34ae35325c0510f0d4b688", checked := Tryd.checked }
namespace Rows
def none {H : Type} : Left H := { results := [], args := [] }

/- WHAT THE LISTED PACKAGE-LEVEL VARIABLES READ AS WHEN THE CALL BEGINS. Each datum BY PROGRAM (the guide's laid-datum.mjs) off the statement by which the dump's own 'gosem.cut.vars' lays the variable. In a bare row this is a premise. The card (YtdfgedkjilpcgaaDoorCards.lean) ties it to the program's text. -/
def laid_plimsoll_audit_errLog {H : Type} : DataW H := .iface "*errors.errorString" (.ptr (.agg [.lit (.string [110, 111, 32, 108, 111, 103])]))

/-- 'plimsolllaw18.AuditAppends': WHATEVER THE INPUT: true; the input reads as it did. -/
def auditAppendsSpec : ChangeSpec := { name := "auditAppends", fn := fun _ => fun
  | [d1, d2] => { results := [.lit (.bool true)], args := [d1, d2] }
  | _ => none }
def auditAppendsRow : OpenClaim := { program := "ytdfgedkjilpcgaadoor", sum := "a902a624ba6e69f3d91022260fed766a0a565a3e1f34ae35325c0510f0d4b688", func := "plimsoll/plimsolllaw18.AuditAppends", spec := "auditAppends", inPlace := ["internal/reflectlite.TypeOf", "internal/abi.NoEscape", "internal/bytealg.MakeNoZero"], unfollowed := true, recurses := true, named := ["plimsoll/audit.errLog"], apart := false, laid := [("plimsoll/audit.errLog", laid_plimsoll_audit_errLog)] }
def AuditAppendsSaid : Prop := auditAppendsRow.holds Tryd.pinned (OpenSpec.ofChange auditAppendsSpec)

/-- ITS FALSE NEIGHBOUR: 'it returns false'. Refute it at one input. -/
def auditAppendsWrong : ChangeSpec := { name := "auditAppends", fn := fun _ => fun
  | [d1, d2] => { results := [.lit (.bool false)], args := [d1, d2] }
  | _ => none }
def AuditAppendsWrongFalsely : Prop := auditAppendsRow.holds Tryd.pinned (OpenSpec.ofChange auditAppendsWrong)

/-- 'plimsolllaw18.AuditLast': WHATEVER THE INPUT: true; the input reads as it did. -/
def auditLastSpec : ChangeSpec := { name := "auditLast", fn := fun _ => fun
  | [d1, d2] => { results := [.lit (.bool true)], args := [d1, d2] }
  | _ => none }
def auditLastRow : OpenClaim := { program := "ytdfgedkjilpcgaadoor", sum := "a902a624ba6e69f3d91022260fed766a0a565a3e1f34ae35325c0510f0d4b688", func := "plimsoll/plimsolllaw18.AuditLast", spec := "auditLast", inPlace := ["internal/reflectlite.TypeOf", "internal/abi.NoEscape", "internal/bytealg.MakeNoZero"], unfollowed := true, recurses := true, named := ["plimsoll/audit.errLog"], apart := false, laid := [("plimsoll/audit.errLog", laid_plimsoll_audit_errLog)] }
def AuditLastSaid : Prop := auditLastRow.holds Tryd.pinned (OpenSpec.ofChange auditLastSpec)

/-- ITS FALSE NEIGHBOUR: 'it returns false'. Refute it at one input. -/
def auditLastWrong : ChangeSpec := { name := "auditLast", fn := fun _ => fun
  | [d1, d2] => { results := [.lit (.bool false)], args := [d1, d2] }
  | _ => none }
def AuditLastWrongFalsely : Prop := auditLastRow.holds Tryd.pinned (OpenSpec.ofChange auditLastWrong)

/-- 'plimsolllaw18.AuditApart': WHATEVER THE INPUT: true; the input reads as it did. -/
def auditApartSpec : ChangeSpec := { name := "auditApart", fn := fun _ => fun
  | [d1, d2, d3] => { results := [.lit (.bool true)], args := [d1, d2, d3] }
  | _ => none }
def auditApartRow : OpenClaim := { program := "ytdfgedkjilpcgaadoor", sum := "a902a624ba6e69f3d91022260fed766a0a565a3e1f34ae35325c0510f0d4b688", func := "plimsoll/plimsolllaw18.AuditApart", spec := "auditApart", inPlace := ["internal/reflectlite.TypeOf", "internal/abi.NoEscape", "internal/bytealg.MakeNoZero"], unfollowed := true, recurses := true, named := ["plimsoll/audit.errLog"], apart := false, laid := [("plimsoll/audit.errLog", laid_plimsoll_audit_errLog)] }
def AuditApartSaid : Prop := auditApartRow.holds Tryd.pinned (OpenSpec.ofChange auditApartSpec)

/-- ITS FALSE NEIGHBOUR: 'it returns false'. Refute it at one input. -/
def auditApartWrong : ChangeSpec := { name := "auditApart", fn := fun _ => fun
  | [d1, d2, d3] => { results := [.lit (.bool false)], args := [d1, d2, d3] }
  | _ => none }
def AuditApartWrongFalsely : Prop := auditApartRow.holds Tryd.pinned (OpenSpec.ofChange auditApartWrong)

/-- 'plimsolllaw18.AuditSums': WHATEVER THE INPUT: true; the input reads as it did. -/
def auditSumsSpec : ChangeSpec := { name := "auditSums", fn := fun _ => fun
  | [d1, d2] => { results := [.lit (.bool true)], args := [d1, d2] }
  | _ => none }
def auditSumsRow : OpenClaim := { program := "ytdfgedkjilpcgaadoor", sum := "a902a624ba6e69f3d91022260fed766a0a565a3e1f34ae35325c0510f0d4b688", func := "plimsoll/plimsolllaw18.AuditSums", spec := "auditSums", inPlace := ["internal/reflectlite.TypeOf", "internal/abi.NoEscape", "internal/bytealg.MakeNoZero"], unfollowed := true, recurses := true, named := ["plimsoll/audit.errLog"], apart := false, laid := [("plimsoll/audit.errLog", laid_plimsoll_audit_errLog)] }
def AuditSumsSaid : Prop := auditSumsRow.holds Tryd.pinned (OpenSpec.ofChange auditSumsSpec)

/-- ITS FALSE NEIGHBOUR: 'it returns false'. Refute it at one input. -/
def auditSumsWrong : ChangeSpec := { name := "auditSums", fn := fun _ => fun
  | [d1, d2] => { results := [.lit (.bool false)], args := [d1, d2] }
  | _ => none }
def AuditSumsWrongFalsely : Prop := auditSumsRow.holds Tryd.pinned (OpenSpec.ofChange auditSumsWrong)

/-- 'plimsolllaw18.AuditTen': WHATEVER THE INPUT: true; the input reads as it did. -/
def auditTenSpec : ChangeSpec := { name := "auditTen", fn := fun _ => fun
  | [d1, d2] => { results := [.lit (.bool true)], args := [d1, d2] }
  | _ => none }
def auditTenRow : OpenClaim := { program := "ytdfgedkjilpcgaadoor", sum := "a902a624ba6e69f3d91022260fed766a0a565a3e1f34ae35325c0510f0d4b688", func := "plimsoll/plimsolllaw18.AuditTen", spec := "auditTen", inPlace := ["internal/reflectlite.TypeOf", "internal/abi.NoEscape", "internal/bytealg.MakeNoZero"], unfollowed := true, recurses := true, named := ["plimsoll/audit.errLog"], apart := false, laid := [("plimsoll/audit.errLog", laid_plimsoll_audit_errLog)] }
def AuditTenSaid : Prop := auditTenRow.holds Tryd.pinned (OpenSpec.ofChange auditTenSpec)

/-- ITS FALSE NEIGHBOUR: 'it returns false'. Refute it at one input. -/
def auditTenWrong : ChangeSpec := { name := "auditTen", fn := fun _ => fun
  | [d1, d2] => { results := [.lit (.bool false)], args := [d1, d2] }
  | _ => none }
def AuditTenWrongFalsely : Prop := auditTenRow.holds Tryd.pinned (OpenSpec.ofChange auditTenWrong)

/-- 'plimsolllaw18.AuditTells': WHATEVER THE INPUT: true; the input reads as it did. -/
def auditTellsSpec : ChangeSpec := { name := "auditTells", fn := fun _ => fun
  | [d1, d2, d3, d4, d5] => { results := [.lit (.bool true)], args := [d1, d2, d3, d4, d5] }
  | _ => none }
def auditTellsRow : OpenClaim := { program := "ytdfgedkjilpcgaadoor", sum := "a902a624ba6e69f3d91022260fed766a0a565a3e1f34ae35325c0510f0d4b688", func := "plimsoll/plimsolllaw18.AuditTells", spec := "auditTells", inPlace := ["internal/reflectlite.TypeOf", "internal/abi.NoEscape", "internal/bytealg.MakeNoZero"], unfollowed := true, recurses := true, named := ["plimsoll/audit.errLog"], apart := false, laid := [("plimsoll/audit.errLog", laid_plimsoll_audit_errLog)] }
def AuditTellsSaid : Prop := auditTellsRow.holds Tryd.pinned (OpenSpec.ofChange auditTellsSpec)

/-- ITS FALSE NEIGHBOUR: 'it returns false'. Refute it at one input. -/
def auditTellsWrong : ChangeSpec := { name := "auditTells", fn := fun _ => fun
  | [d1, d2, d3, d4, d5] => { results := [.lit (.bool false)], args := [d1, d2, d3, d4, d5] }
  | _ => none }
def AuditTellsWrongFalsely : Prop := auditTellsRow.holds Tryd.pinned (OpenSpec.ofChange auditTellsWrong)

/- THE SECOND FORM. 'bulk': how many values and letters a reading holds, each counted each time it is reached (what is shared counts as often as it is met; a slice's spare places count too). A statement '..UptoSaid' is the law's where the arguments, and the package variables that the reading takes, are together of bulk at most 1048576: NARROWER than '..Said'. Prove '..Said' where nothing that the law and all that it calls make is longer than what came in: it says more and counts as full. Else prove '..UptoSaid'. A law counts once. -/
mutual
def uptoBulk {H : Type} : DataW H → Nat
  | .lit (.string bytes) => bytes.length + 1
  | .lit _ => 1
  | .nil => 1
  | .ptr d => uptoBulk d + 1
  | .slice elems spare => uptoBulkAll elems + uptoBulkAll spare + 1
  | .agg parts => uptoBulkAll parts + 1
  | .iface _ d => uptoBulk d + 1
  | .map entries => uptoBulkEntries entries + 1
  | .held _ => 1
def uptoBulkAll {H : Type} : List (DataW H) → Nat
  | [] => 0
  | d :: r => uptoBulk d + uptoBulkAll r
def uptoBulkEntries {H : Type} : List (Lit × DataW H) → Nat
  | [] => 0
  | x :: r => uptoBulkEntry x + uptoBulkEntries r
def uptoBulkEntry {H : Type} : Lit × DataW H → Nat
  | (.string bytes, d) => bytes.length + uptoBulk d + 1
  | (_, d) => uptoBulk d + 1
 end
def uptoSmall : (H : Type) → List (DataW H) → Bool := fun _ ds => decide (uptoBulkAll ds ≤ 1048576)
def OpenSpec.upto (s : _root_.Go.ChangeSpec) : _root_.Go.OpenSpec := { _root_.Go.OpenSpec.ofChange s with cond := some uptoSmall }

/-- 'plimsolllaw18.AuditAppends', WHERE WHAT IT READS IS OF BULK AT MOST 1048576: true; the input reads as it did. -/
def auditAppendsUptoRow : OpenClaim := { program := "ytdfgedkjilpcgaadoor", sum := "a902a624ba6e69f3d91022260fed766a0a565a3e1f34ae35325c0510f0d4b688", func := "plimsoll/plimsolllaw18.AuditAppends", spec := "auditAppends", inPlace := ["internal/reflectlite.TypeOf", "internal/abi.NoEscape", "internal/bytealg.MakeNoZero"], unfollowed := true, recurses := true, named := ["plimsoll/audit.errLog"], apart := false, laid := [("plimsoll/audit.errLog", laid_plimsoll_audit_errLog)], narrowed := true }
def AuditAppendsUptoSaid : Prop := auditAppendsUptoRow.holds Tryd.pinned (OpenSpec.upto auditAppendsSpec)

/-- 'plimsolllaw18.AuditLast', WHERE WHAT IT READS IS OF BULK AT MOST 1048576: true; the input reads as it did. -/
def auditLastUptoRow : OpenClaim := { program := "ytdfgedkjilpcgaadoor", sum := "a902a624ba6e69f3d91022260fed766a0a565a3e1f34ae35325c0510f0d4b688", func := "plimsoll/plimsolllaw18.AuditLast", spec := "auditLast", inPlace := ["internal/reflectlite.TypeOf", "internal/abi.NoEscape", "internal/bytealg.MakeNoZero"], unfollowed := true, recurses := true, named := ["plimsoll/audit.errLog"], apart := false, laid := [("plimsoll/audit.errLog", laid_plimsoll_audit_errLog)], narrowed := true }
def AuditLastUptoSaid : Prop := auditLastUptoRow.holds Tryd.pinned (OpenSpec.upto auditLastSpec)

/-- 'plimsolllaw18.AuditApart', WHERE WHAT IT READS IS OF BULK AT MOST 1048576: true; the input reads as it did. -/
def auditApartUptoRow : OpenClaim := { program := "ytdfgedkjilpcgaadoor", sum := "a902a624ba6e69f3d91022260fed766a0a565a3e1f34ae35325c0510f0d4b688", func := "plimsoll/plimsolllaw18.AuditApart", spec := "auditApart", inPlace := ["internal/reflectlite.TypeOf", "internal/abi.NoEscape", "internal/bytealg.MakeNoZero"], unfollowed := true, recurses := true, named := ["plimsoll/audit.errLog"], apart := false, laid := [("plimsoll/audit.errLog", laid_plimsoll_audit_errLog)], narrowed := true }
def AuditApartUptoSaid : Prop := auditApartUptoRow.holds Tryd.pinned (OpenSpec.upto auditApartSpec)

/-- 'plimsolllaw18.AuditSums', WHERE WHAT IT READS IS OF BULK AT MOST 1048576: true; the input reads as it did. -/
def auditSumsUptoRow : OpenClaim := { program := "ytdfgedkjilpcgaadoor", sum := "a902a624ba6e69f3d91022260fed766a0a565a3e1f34ae35325c0510f0d4b688", func := "plimsoll/plimsolllaw18.AuditSums", spec := "auditSums", inPlace := ["internal/reflectlite.TypeOf", "internal/abi.NoEscape", "internal/bytealg.MakeNoZero"], unfollowed := true, recurses := true, named := ["plimsoll/audit.errLog"], apart := false, laid := [("plimsoll/audit.errLog", laid_plimsoll_audit_errLog)], narrowed := true }
def AuditSumsUptoSaid : Prop := auditSumsUptoRow.holds Tryd.pinned (OpenSpec.upto auditSumsSpec)

/-- 'plimsolllaw18.AuditTen', WHERE WHAT IT READS IS OF BULK AT MOST 1048576: true; the input reads as it did. -/
def auditTenUptoRow : OpenClaim := { program := "ytdfgedkjilpcgaadoor", sum := "a902a624ba6e69f3d91022260fed766a0a565a3e1f34ae35325c0510f0d4b688", func := "plimsoll/plimsolllaw18.AuditTen", spec := "auditTen", inPlace := ["internal/reflectlite.TypeOf", "internal/abi.NoEscape", "internal/bytealg.MakeNoZero"], unfollowed := true, recurses := true, named := ["plimsoll/audit.errLog"], apart := false, laid := [("plimsoll/audit.errLog", laid_plimsoll_audit_errLog)], narrowed := true }
def AuditTenUptoSaid : Prop := auditTenUptoRow.holds Tryd.pinned (OpenSpec.upto auditTenSpec)

/-- 'plimsolllaw18.AuditTells', WHERE WHAT IT READS IS OF BULK AT MOST 1048576: true; the input reads as it did. -/
def auditTellsUptoRow : OpenClaim := { program := "ytdfgedkjilpcgaadoor", sum := "a902a624ba6e69f3d91022260fed766a0a565a3e1f34ae35325c0510f0d4b688", func := "plimsoll/plimsolllaw18.AuditTells", spec := "auditTells", inPlace := ["internal/reflectlite.TypeOf", "internal/abi.NoEscape", "internal/bytealg.MakeNoZero"], unfollowed := true, recurses := true, named := ["plimsoll/audit.errLog"], apart := false, laid := [("plimsoll/audit.errLog", laid_plimsoll_audit_errLog)], narrowed := true }
def AuditTellsUptoSaid : Prop := auditTellsUptoRow.holds Tryd.pinned (OpenSpec.upto auditTellsSpec)

end Rows
end Go.Proofs.YtdfgedkjilpcgaaDoor
