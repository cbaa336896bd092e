/-
  NARROWER THAN 'FOR EVERY INPUT', by the rows' own cells (each row's printed sentence says how): FileCuts: laid · FileBack: laid · FileParts: laid · FileSizes: laid · FileSplices: laid · FileReads: laid.
  DERIVED. THE GIVEN ROWS OF THIS SEAT. 6 by the template 'for every input the law returns true; each argument reads behind the call as it read before'; 0 by the template 'total and deterministic' (their statements: YthjcekfehicjhaaDoorTotals.lean).
  GIVEN WITH THE SEED: the statements are not yours to turn. If you find one false, say at which input.
  Laid BY PROGRAM, IN A SANDBOX (cutbox-rows.mjs): the forced cells as the released guide's own fill.sh prints them over the translation a865491f555f572c… (all of the seat's roots in one cut). By AI agents, Wed Nov 11 2026. No macro, syntax, notation, axiom, sorry.
-/
import Derived.Test.YthjcekfehicjhaaDoorChecked
import GoSem.Claim
import GoSem.ClaimJoined
import GoSem.ClaimMapViews
import Derived.JoinedTies
import Derived.KernelRfl
namespace Go.Proofs.YthjcekfehicjhaaDoor
/- THE CELL 'sum', in the pinned program and in every row, IS THE sha256 OF THE DUMP (.gsa) THAT YthjcekfehicjhaaDoorProg.lean LOADS. Nothing in Lean hashes anything: it is a label: what it is worth is what the hold of that sum in a sandbox is worth. -/
noncomputable def Tryd.pinned : Pinned := { name := "ythjcekfehicjhaadoor", sum := "a865491f555f572cecc24033b311e74a2b54cc869204f510cd0133d0e1a460a5", checked := Tryd.checked }
namespace Rows
def none {H : Type} : Left H := { results := [], args := [] }

/- WHAT THE LISTED PACKAGE-LEVEL VARIABLES READ AS WHEN THE CALL BEGINS. Each datum BY PROGRAM (the guide's laid-datum.mjs) off the statement by which the dump's own 'gosem.cut.vars' lays the variable. In a bare row this is a premise. The card (YthjcekfehicjhaaDoorCards.lean) ties it to the program's text. -/
def laid_errors_errorType {H : Type} : DataW H := .iface "internal/reflectlite.rtype" (.agg [.ptr (.lit (.string [101, 114, 114, 111, 114]))])

/-- 'plimsolllaw09.FileCuts': WHATEVER THE INPUT: true; the input reads as it did. -/
def fileCutsSpec : ChangeSpec := { name := "fileCuts", fn := fun _ => fun
  | [d1, d2, d3, d4] => { results := [.lit (.bool true)], args := [d1, d2, d3, d4] }
  | _ => none }
def fileCutsRow : OpenClaim := { program := "ythjcekfehicjhaadoor", sum := "a865491f555f572cecc24033b311e74a2b54cc869204f510cd0133d0e1a460a5", func := "plimsoll/plimsolllaw09.FileCuts", spec := "fileCuts", inPlace := ["internal/reflectlite.ValueOf", "(internal/reflectlite.Value).Type", "(internal/reflectlite.Value).IsNil", "internal/reflectlite.TypeOf", "(internal/reflectlite.Value).Elem", "(internal/reflectlite.Value).Set"], unfollowed := true, recurses := true, named := ["errors.errorType"], apart := false, laid := [("errors.errorType", laid_errors_errorType)] }
def FileCutsSaid : Prop := fileCutsRow.holds Tryd.pinned (OpenSpec.ofChange fileCutsSpec)

/-- ITS FALSE NEIGHBOUR: 'it returns false'. Refute it at one input. -/
def fileCutsWrong : ChangeSpec := { name := "fileCuts", fn := fun _ => fun
  | [d1, d2, d3, d4] => { results := [.lit (.bool false)], args := [d1, d2, d3, d4] }
  | _ => none }
def FileCutsWrongFalsely : Prop := fileCutsRow.holds Tryd.pinned (OpenSpec.ofChange fileCutsWrong)

/-- 'plimsolllaw09.FileBack': WHATEVER THE INPUT: true; the input reads as it did. -/
def fileBackSpec : ChangeSpec := { name := "fileBack", fn := fun _ => fun
  | [d1, d2, d3] => { results := [.lit (.bool true)], args := [d1, d2, d3] }
  | _ => none }
def fileBackRow : OpenClaim := { program := "ythjcekfehicjhaadoor", sum := "a865491f555f572cecc24033b311e74a2b54cc869204f510cd0133d0e1a460a5", func := "plimsoll/plimsolllaw09.FileBack", spec := "fileBack", inPlace := ["internal/reflectlite.ValueOf", "(internal/reflectlite.Value).Type", "(internal/reflectlite.Value).IsNil", "internal/reflectlite.TypeOf", "(internal/reflectlite.Value).Elem", "(internal/reflectlite.Value).Set"], unfollowed := true, recurses := true, named := ["errors.errorType"], apart := false, laid := [("errors.errorType", laid_errors_errorType)] }
def FileBackSaid : Prop := fileBackRow.holds Tryd.pinned (OpenSpec.ofChange fileBackSpec)

/-- ITS FALSE NEIGHBOUR: 'it returns false'. Refute it at one input. -/
def fileBackWrong : ChangeSpec := { name := "fileBack", fn := fun _ => fun
  | [d1, d2, d3] => { results := [.lit (.bool false)], args := [d1, d2, d3] }
  | _ => none }
def FileBackWrongFalsely : Prop := fileBackRow.holds Tryd.pinned (OpenSpec.ofChange fileBackWrong)

/-- 'plimsolllaw09.FileParts': WHATEVER THE INPUT: true; the input reads as it did. -/
def filePartsSpec : ChangeSpec := { name := "fileParts", fn := fun _ => fun
  | [d1, d2, d3, d4] => { results := [.lit (.bool true)], args := [d1, d2, d3, d4] }
  | _ => none }
def filePartsRow : OpenClaim := { program := "ythjcekfehicjhaadoor", sum := "a865491f555f572cecc24033b311e74a2b54cc869204f510cd0133d0e1a460a5", func := "plimsoll/plimsolllaw09.FileParts", spec := "fileParts", inPlace := ["internal/reflectlite.ValueOf", "(internal/reflectlite.Value).Type", "(internal/reflectlite.Value).IsNil", "internal/reflectlite.TypeOf", "(internal/reflectlite.Value).Elem", "(internal/reflectlite.Value).Set"], unfollowed := true, recurses := true, named := ["errors.errorType"], apart := false, laid := [("errors.errorType", laid_errors_errorType)] }
def FilePartsSaid : Prop := filePartsRow.holds Tryd.pinned (OpenSpec.ofChange filePartsSpec)

/-- ITS FALSE NEIGHBOUR: 'it returns false'. Refute it at one input. -/
def filePartsWrong : ChangeSpec := { name := "fileParts", fn := fun _ => fun
  | [d1, d2, d3, d4] => { results := [.lit (.bool false)], args := [d1, d2, d3, d4] }
  | _ => none }
def FilePartsWrongFalsely : Prop := filePartsRow.holds Tryd.pinned (OpenSpec.ofChange filePartsWrong)

/-- 'plimsolllaw09.FileSizes': WHATEVER THE INPUT: true; the input reads as it did. -/
def fileSizesSpec : ChangeSpec := { name := "fileSizes", fn := fun _ => fun
  | [d1, d2] => { results := [.lit (.bool true)], args := [d1, d2] }
  | _ => none }
def fileSizesRow : OpenClaim := { program := "ythjcekfehicjhaadoor", sum := "a865491f555f572cecc24033b311e74a2b54cc869204f510cd0133d0e1a460a5", func := "plimsoll/plimsolllaw09.FileSizes", spec := "fileSizes", inPlace := ["internal/reflectlite.ValueOf", "(internal/reflectlite.Value).Type", "(internal/reflectlite.Value).IsNil", "internal/reflectlite.TypeOf", "(internal/reflectlite.Value).Elem", "(internal/reflectlite.Value).Set"], unfollowed := true, recurses := true, named := ["errors.errorType"], apart := false, laid := [("errors.errorType", laid_errors_errorType)] }
def FileSizesSaid : Prop := fileSizesRow.holds Tryd.pinned (OpenSpec.ofChange fileSizesSpec)

/-- ITS FALSE NEIGHBOUR: 'it returns false'. Refute it at one input. -/
def fileSizesWrong : ChangeSpec := { name := "fileSizes", fn := fun _ => fun
  | [d1, d2] => { results := [.lit (.bool false)], args := [d1, d2] }
  | _ => none }
def FileSizesWrongFalsely : Prop := fileSizesRow.holds Tryd.pinned (OpenSpec.ofChange fileSizesWrong)

/-- 'plimsolllaw09.FileSplices': WHATEVER THE INPUT: true; the input reads as it did. -/
def fileSplicesSpec : ChangeSpec := { name := "fileSplices", fn := fun _ => fun
  | [d1, d2, d3, d4] => { results := [.lit (.bool true)], args := [d1, d2, d3, d4] }
  | _ => none }
def fileSplicesRow : OpenClaim := { program := "ythjcekfehicjhaadoor", sum := "a865491f555f572cecc24033b311e74a2b54cc869204f510cd0133d0e1a460a5", func := "plimsoll/plimsolllaw09.FileSplices", spec := "fileSplices", inPlace := ["internal/reflectlite.ValueOf", "(internal/reflectlite.Value).Type", "(internal/reflectlite.Value).IsNil", "internal/reflectlite.TypeOf", "(internal/reflectlite.Value).Elem", "(internal/reflectlite.Value).Set"], unfollowed := true, recurses := true, named := ["errors.errorType"], apart := false, laid := [("errors.errorType", laid_errors_errorType)] }
def FileSplicesSaid : Prop := fileSplicesRow.holds Tryd.pinned (OpenSpec.ofChange fileSplicesSpec)

/-- ITS FALSE NEIGHBOUR: 'it returns false'. Refute it at one input. -/
def fileSplicesWrong : ChangeSpec := { name := "fileSplices", fn := fun _ => fun
  | [d1, d2, d3, d4] => { results := [.lit (.bool false)], args := [d1, d2, d3, d4] }
  | _ => none }
def FileSplicesWrongFalsely : Prop := fileSplicesRow.holds Tryd.pinned (OpenSpec.ofChange fileSplicesWrong)

/-- 'plimsolllaw09.FileReads': WHATEVER THE INPUT: true; the input reads as it did. -/
def fileReadsSpec : ChangeSpec := { name := "fileReads", fn := fun _ => fun
  | [d1, d2, d3, d4] => { results := [.lit (.bool true)], args := [d1, d2, d3, d4] }
  | _ => none }
def fileReadsRow : OpenClaim := { program := "ythjcekfehicjhaadoor", sum := "a865491f555f572cecc24033b311e74a2b54cc869204f510cd0133d0e1a460a5", func := "plimsoll/plimsolllaw09.FileReads", spec := "fileReads", inPlace := ["internal/reflectlite.ValueOf", "(internal/reflectlite.Value).Type", "(internal/reflectlite.Value).IsNil", "internal/reflectlite.TypeOf", "(internal/reflectlite.Value).Elem", "(internal/reflectlite.Value).Set"], unfollowed := true, recurses := true, named := ["errors.errorType"], apart := false, laid := [("errors.errorType", laid_errors_errorType)] }
def FileReadsSaid : Prop := fileReadsRow.holds Tryd.pinned (OpenSpec.ofChange fileReadsSpec)

/-- ITS FALSE NEIGHBOUR: 'it returns false'. Refute it at one input. -/
def fileReadsWrong : ChangeSpec := { name := "fileReads", fn := fun _ => fun
  | [d1, d2, d3, d4] => { results := [.lit (.bool false)], args := [d1, d2, d3, d4] }
  | _ => none }
def FileReadsWrongFalsely : Prop := fileReadsRow.holds Tryd.pinned (OpenSpec.ofChange fileReadsWrong)

/- THE SECOND FORM. 'bulk': how many values and letters a reading holds, each counted each time it is reached (what is shared counts as often as it is met; a slice's spare places count too). A statement '..UptoSaid' is the law's where the arguments, and the package variables that the reading takes, are together of bulk at most 1048576: NARROWER than '..Said'. Prove '..Said' where nothing that the law and all that it calls make is longer than what came in: it says more and counts as full. Else prove '..UptoSaid'. A law counts once. -/
mutual
def uptoBulk {H : Type} : DataW H → Nat
  | .lit (.string bytes) => bytes.length + 1
  | .lit _ => 1
  | .nil => 1
  | .ptr d => uptoBulk d + 1
  | .slice elems spare => uptoBulkAll elems + uptoBulkAll spare + 1
  | .agg parts => uptoBulkAll parts + 1
  | .iface _ d => uptoBulk d + 1
  | .map entries => uptoBulkEntries entries + 1
  | .held _ => 1
def uptoBulkAll {H : Type} : List (DataW H) → Nat
  | [] => 0
  | d :: r => uptoBulk d + uptoBulkAll r
def uptoBulkEntries {H : Type} : List (Lit × DataW H) → Nat
  | [] => 0
  | x :: r => uptoBulkEntry x + uptoBulkEntries r
def uptoBulkEntry {H : Type} : Lit × DataW H → Nat
  | (.string bytes, d) => bytes.length + uptoBulk d + 1
  | (_, d) => uptoBulk d + 1
 end
def uptoSmall : (H : Type) → List (DataW H) → Bool := fun _ ds => decide (uptoBulkAll ds ≤ 1048576)
def OpenSpec.upto (s : _root_.Go.ChangeSpec) : _root_.Go.OpenSpec := { _root_.Go.OpenSpec.ofChange s with cond := some uptoSmall }

/-- 'plimsolllaw09.FileCuts', WHERE WHAT IT READS IS OF BULK AT MOST 1048576: true; the input reads as it did. -/
def fileCutsUptoRow : OpenClaim := { program := "ythjcekfehicjhaadoor", sum := "a865491f555f572cecc24033b311e74a2b54cc869204f510cd0133d0e1a460a5", func := "plimsoll/plimsolllaw09.FileCuts", spec := "fileCuts", inPlace := ["internal/reflectlite.ValueOf", "(internal/reflectlite.Value).Type", "(internal/reflectlite.Value).IsNil", "internal/reflectlite.TypeOf", "(internal/reflectlite.Value).Elem", "(internal/reflectlite.Value).Set"], unfollowed := true, recurses := true, named := ["errors.errorType"], apart := false, laid := [("errors.errorType", laid_errors_errorType)], narrowed := true }
def FileCutsUptoSaid : Prop := fileCutsUptoRow.holds Tryd.pinned (OpenSpec.upto fileCutsSpec)

/-- 'plimsolllaw09.FileBack', WHERE WHAT IT READS IS OF BULK AT MOST 1048576: true; the input reads as it did. -/
def fileBackUptoRow : OpenClaim := { program := "ythjcekfehicjhaadoor", sum := "a865491f555f572cecc24033b311e74a2b54cc869204f510cd0133d0e1a460a5", func := "plimsoll/plimsolllaw09.FileBack", spec := "fileBack", inPlace := ["internal/reflectlite.ValueOf", "(internal/reflectlite.Value).Type", "(internal/reflectlite.Value).IsNil", "internal/reflectlite.TypeOf", "(internal/reflectlite.Value).Elem", "(internal/reflectlite.Value).Set"], unfollowed := true, recurses := true, named := ["errors.errorType"], apart := false, laid := [("errors.errorType", laid_errors_errorType)], narrowed := true }
def FileBackUptoSaid : Prop := fileBackUptoRow.holds Tryd.pinned (OpenSpec.upto fileBackSpec)

/-- 'plimsolllaw09.FileParts', WHERE WHAT IT READS IS OF BULK AT MOST 1048576: true; the input reads as it did. -/
def filePartsUptoRow : OpenClaim := { program := "ythjcekfehicjhaadoor", sum := "a865491f555f572cecc24033b311e74a2b54cc869204f510cd0133d0e1a460a5", func := "plimsoll/plimsolllaw09.FileParts", spec := "fileParts", inPlace := ["internal/reflectlite.ValueOf", "(internal/reflectlite.Value).Type", "(internal/reflectlite.Value).IsNil", "internal/reflectlite.TypeOf", "(internal/reflectlite.Value).Elem", "(internal/reflectlite.Value).Set"], unfollowed := true, recurses := true, named := ["errors.errorType"], apart := false, laid := [("errors.errorType", laid_errors_errorType)], narrowed := true }
def FilePartsUptoSaid : Prop := filePartsUptoRow.holds Tryd.pinned (OpenSpec.upto filePartsSpec)

/-- 'plimsolllaw09.FileSizes', WHERE WHAT IT READS IS OF BULK AT MOST 1048576: true; the input reads as it did. -/
def fileSizesUptoRow : OpenClaim := { program := "ythjcekfehicjhaadoor", sum := "a865491f555f572cecc24033b311e74a2b54cc869204f510cd0133d0e1a460a5", func := "plimsoll/plimsolllaw09.FileSizes", spec := "fileSizes", inPlace := ["internal/reflectlite.ValueOf", "(internal/reflectlite.Value).Type", "(internal/reflectlite.Value).IsNil", "internal/reflectlite.TypeOf", "(internal/reflectlite.Value).Elem", "(internal/reflectlite.Value).Set"], unfollowed := true, recurses := true, named := ["errors.errorType"], apart := false, laid := [("errors.errorType", laid_errors_errorType)], narrowed := true }
def FileSizesUptoSaid : Prop := fileSizesUptoRow.holds Tryd.pinned (OpenSpec.upto fileSizesSpec)

/-- 'plimsolllaw09.FileSplices', WHERE WHAT IT READS IS OF BULK AT MOST 1048576: true; the input reads as it did. -/
def fileSplicesUptoRow : OpenClaim := { program := "ythjcekfehicjhaadoor", sum := "a865491f555f572cecc24033b311e74a2b54cc869204f510cd0133d0e1a460a5", func := "plimsoll/plimsolllaw09.FileSplices", spec := "fileSplices", inPlace := ["internal/reflectlite.ValueOf", "(internal/reflectlite.Value).Type", "(internal/reflectlite.Value).IsNil", "internal/reflectlite.TypeOf", "(internal/reflectlite.Value).Elem", "(internal/reflectlite.Value).Set"], unfollowed := true, recurses := true, named := ["errors.errorType"], apart := false, laid := [("errors.errorType", laid_errors_errorType)], narrowed := true }
def FileSplicesUptoSaid : Prop := fileSplicesUptoRow.holds Tryd.pinned (OpenSpec.upto fileSplicesSpec)

/-- 'plimsolllaw09.FileReads', WHERE WHAT IT READS IS OF BULK AT MOST 1048576: true; the input reads as it did. -/
def fileReadsUptoRow : OpenClaim := { program := "ythjcekfehicjhaadoor", sum := "a865491f555f572cecc24033b311e74a2b54cc869204f510cd0133d0e1a460a5", func := "plimsoll/plimsolllaw09.FileReads", spec := "fileReads", inPlace := ["internal/reflectlite.ValueOf", "(internal/reflectlite.Value).Type", "(internal/reflectlite.Value).IsNil", "internal/reflectlite.TypeOf", "(internal/reflectlite.Value).Elem", "(internal/reflectlite.Value).Set"], unfollowed := true, recurses := true, named := ["errors.errorType"], apart := false, laid := [("errors.errorType", laid_errors_errorType)], narrowed := true }
def FileReadsUptoSaid : Prop := fileReadsUptoRow.holds Tryd.pinned (OpenSpec.upto fileReadsSpec)

end Rows
end Go.Proofs.YthjcekfehicjhaaDoor
