/-
  NARROWER THAN 'FOR EVERY INPUT', by the rows' own cells (each row's printed sentence says how): JournalReleases: laid · JournalApart: laid · JournalBound: laid · JournalSums: laid · JournalSeen: laid.
  DERIVED. THE GIVEN ROWS OF THIS SEAT. 5 by the template 'for every input the law returns true; each argument reads behind the call as it read before'; 0 by the template 'total and deterministic' (their statements: YthehnjbdkjnlpaaDoorTotals.lean).
  GIVEN WITH THE SEED: the statements are not yours to turn. If you find one false, say at which input.
  Laid BY PROGRAM, IN A SANDBOX (cutbox-rows.mjs): the forced cells as the released guide's own fill.sh prints them over the translation 08d51a1c9ba71d48… (all of the seat's roots in one cut). By AI agents, Wed Nov 11 2026. No macro, syntax, notation, axiom, sorry.
-/
import Derived.Test.YthehnjbdkjnlpaaDoorChecked
import GoSem.Claim
import GoSem.ClaimJoined
import GoSem.ClaimMapViews
import Derived.JoinedTies
import Derived.KernelRfl
namespace Go.Proofs.YthehnjbdkjnlpaaDoor
/- THE CELL 'sum', in the pinned program and in every row, IS THE sha256 OF THE DUMP (.gsa) THAT YthehnjbdkjnlpaaDoorProg.lean LOADS. Nothing in Lean hashes anything: it is a label: what it is worth is what the hold of that sum in a sandbox is worth. -/
noncomputable def Tryd.pinned : Pinned := { name := "ythehnjbdkjnlpaadoor", sum := "08d51a1c9ba71d48ae291fe1ef9b3ffcf6ab2ee696852fc3a8c54a41e07b41a4", checked := Tryd.checked }
namespace Rows
def none {H : Type} : Left H := { results := [], args := [] }

/- WHAT THE LISTED PACKAGE-LEVEL VARIABLES READ AS WHEN THE CALL BEGINS. Each datum BY PROGRAM (the guide's laid-datum.mjs) off the statement by which the dump's own 'gosem.cut.vars' lays the variable. In a bare row this is a premise. The card (YthehnjbdkjnlpaaDoorCards.lean) ties it to the program's text. -/
def laid_errors_errorType {H : Type} : DataW H := .iface "internal/reflectlite.rtype" (.agg [.ptr (.lit (.string [101, 114, 114, 111, 114]))])
def laid_plimsoll_filter_errFilter {H : Type} : DataW H := .iface "*errors.errorString" (.ptr (.agg [.lit (.string [110, 111, 32, 102, 105, 108, 116, 101, 114])]))
def laid_plimsoll_journal_errSpent {H : Type} : DataW H := .iface "*errors.errorString" (.ptr (.agg [.lit (.string [115, 112, 101, 110, 116])]))

/-- 'plimsolllaw15.JournalReleases': WHATEVER THE INPUT: true; the input reads as it did. -/
def journalReleasesSpec : ChangeSpec := { name := "journalReleases", fn := fun _ => fun
  | [d1, d2, d3, d4, d5, d6] => { results := [.lit (.bool true)], args := [d1, d2, d3, d4, d5, d6] }
  | _ => none }
def journalReleasesRow : OpenClaim := { program := "ythehnjbdkjnlpaadoor", sum := "08d51a1c9ba71d48ae291fe1ef9b3ffcf6ab2ee696852fc3a8c54a41e07b41a4", func := "plimsoll/plimsolllaw15.JournalReleases", spec := "journalReleases", inPlace := ["internal/bytealg.IndexByteString", "internal/reflectlite.TypeOf", "internal/reflectlite.ValueOf", "(internal/reflectlite.Value).Type", "(internal/reflectlite.Value).IsNil", "(internal/reflectlite.Value).Elem", "(internal/reflectlite.Value).Set"], unfollowed := true, recurses := true, named := ["plimsoll/filter.errFilter", "plimsoll/journal.errSpent", "errors.errorType"], apart := false, laid := [("errors.errorType", laid_errors_errorType), ("plimsoll/filter.errFilter", laid_plimsoll_filter_errFilter), ("plimsoll/journal.errSpent", laid_plimsoll_journal_errSpent)] }
def JournalReleasesSaid : Prop := journalReleasesRow.holds Tryd.pinned (OpenSpec.ofChange journalReleasesSpec)

/-- ITS FALSE NEIGHBOUR: 'it returns false'. Refute it at one input. -/
def journalReleasesWrong : ChangeSpec := { name := "journalReleases", fn := fun _ => fun
  | [d1, d2, d3, d4, d5, d6] => { results := [.lit (.bool false)], args := [d1, d2, d3, d4, d5, d6] }
  | _ => none }
def JournalReleasesWrongFalsely : Prop := journalReleasesRow.holds Tryd.pinned (OpenSpec.ofChange journalReleasesWrong)

/-- 'plimsolllaw15.JournalApart': WHATEVER THE INPUT: true; the input reads as it did. -/
def journalApartSpec : ChangeSpec := { name := "journalApart", fn := fun _ => fun
  | [d1, d2, d3, d4, d5, d6, d7, d8] => { results := [.lit (.bool true)], args := [d1, d2, d3, d4, d5, d6, d7, d8] }
  | _ => none }
def journalApartRow : OpenClaim := { program := "ythehnjbdkjnlpaadoor", sum := "08d51a1c9ba71d48ae291fe1ef9b3ffcf6ab2ee696852fc3a8c54a41e07b41a4", func := "plimsoll/plimsolllaw15.JournalApart", spec := "journalApart", inPlace := ["internal/bytealg.IndexByteString", "internal/reflectlite.TypeOf", "internal/reflectlite.ValueOf", "(internal/reflectlite.Value).Type", "(internal/reflectlite.Value).IsNil", "(internal/reflectlite.Value).Elem", "(internal/reflectlite.Value).Set"], unfollowed := true, recurses := true, named := ["plimsoll/filter.errFilter", "plimsoll/journal.errSpent", "errors.errorType"], apart := false, laid := [("errors.errorType", laid_errors_errorType), ("plimsoll/filter.errFilter", laid_plimsoll_filter_errFilter), ("plimsoll/journal.errSpent", laid_plimsoll_journal_errSpent)] }
def JournalApartSaid : Prop := journalApartRow.holds Tryd.pinned (OpenSpec.ofChange journalApartSpec)

/-- ITS FALSE NEIGHBOUR: 'it returns false'. Refute it at one input. -/
def journalApartWrong : ChangeSpec := { name := "journalApart", fn := fun _ => fun
  | [d1, d2, d3, d4, d5, d6, d7, d8] => { results := [.lit (.bool false)], args := [d1, d2, d3, d4, d5, d6, d7, d8] }
  | _ => none }
def JournalApartWrongFalsely : Prop := journalApartRow.holds Tryd.pinned (OpenSpec.ofChange journalApartWrong)

/-- 'plimsolllaw15.JournalBound': WHATEVER THE INPUT: true; the input reads as it did. -/
def journalBoundSpec : ChangeSpec := { name := "journalBound", fn := fun _ => fun
  | [d1, d2, d3, d4, d5, d6] => { results := [.lit (.bool true)], args := [d1, d2, d3, d4, d5, d6] }
  | _ => none }
def journalBoundRow : OpenClaim := { program := "ythehnjbdkjnlpaadoor", sum := "08d51a1c9ba71d48ae291fe1ef9b3ffcf6ab2ee696852fc3a8c54a41e07b41a4", func := "plimsoll/plimsolllaw15.JournalBound", spec := "journalBound", inPlace := ["internal/bytealg.IndexByteString", "internal/reflectlite.TypeOf", "internal/reflectlite.ValueOf", "(internal/reflectlite.Value).Type", "(internal/reflectlite.Value).IsNil", "(internal/reflectlite.Value).Elem", "(internal/reflectlite.Value).Set"], unfollowed := true, recurses := true, named := ["plimsoll/filter.errFilter", "plimsoll/journal.errSpent", "errors.errorType"], apart := false, laid := [("errors.errorType", laid_errors_errorType), ("plimsoll/filter.errFilter", laid_plimsoll_filter_errFilter), ("plimsoll/journal.errSpent", laid_plimsoll_journal_errSpent)] }
def JournalBoundSaid : Prop := journalBoundRow.holds Tryd.pinned (OpenSpec.ofChange journalBoundSpec)

/-- ITS FALSE NEIGHBOUR: 'it returns false'. Refute it at one input. -/
def journalBoundWrong : ChangeSpec := { name := "journalBound", fn := fun _ => fun
  | [d1, d2, d3, d4, d5, d6] => { results := [.lit (.bool false)], args := [d1, d2, d3, d4, d5, d6] }
  | _ => none }
def JournalBoundWrongFalsely : Prop := journalBoundRow.holds Tryd.pinned (OpenSpec.ofChange journalBoundWrong)

/-- 'plimsolllaw15.JournalSums': WHATEVER THE INPUT: true; the input reads as it did. -/
def journalSumsSpec : ChangeSpec := { name := "journalSums", fn := fun _ => fun
  | [d1, d2, d3] => { results := [.lit (.bool true)], args := [d1, d2, d3] }
  | _ => none }
def journalSumsRow : OpenClaim := { program := "ythehnjbdkjnlpaadoor", sum := "08d51a1c9ba71d48ae291fe1ef9b3ffcf6ab2ee696852fc3a8c54a41e07b41a4", func := "plimsoll/plimsolllaw15.JournalSums", spec := "journalSums", inPlace := ["internal/bytealg.IndexByteString", "internal/reflectlite.TypeOf", "internal/reflectlite.ValueOf", "(internal/reflectlite.Value).Type", "(internal/reflectlite.Value).IsNil", "(internal/reflectlite.Value).Elem", "(internal/reflectlite.Value).Set"], unfollowed := true, recurses := true, named := ["plimsoll/filter.errFilter", "plimsoll/journal.errSpent", "errors.errorType"], apart := false, laid := [("errors.errorType", laid_errors_errorType), ("plimsoll/filter.errFilter", laid_plimsoll_filter_errFilter), ("plimsoll/journal.errSpent", laid_plimsoll_journal_errSpent)] }
def JournalSumsSaid : Prop := journalSumsRow.holds Tryd.pinned (OpenSpec.ofChange journalSumsSpec)

/-- ITS FALSE NEIGHBOUR: 'it returns false'. Refute it at one input. -/
def journalSumsWrong : ChangeSpec := { name := "journalSums", fn := fun _ => fun
  | [d1, d2, d3] => { results := [.lit (.bool false)], args := [d1, d2, d3] }
  | _ => none }
def JournalSumsWrongFalsely : Prop := journalSumsRow.holds Tryd.pinned (OpenSpec.ofChange journalSumsWrong)

/-- 'plimsolllaw15.JournalSeen': WHATEVER THE INPUT: true; the input reads as it did. -/
def journalSeenSpec : ChangeSpec := { name := "journalSeen", fn := fun _ => fun
  | [d1, d2, d3, d4, d5, d6, d7] => { results := [.lit (.bool true)], args := [d1, d2, d3, d4, d5, d6, d7] }
  | _ => none }
def journalSeenRow : OpenClaim := { program := "ythehnjbdkjnlpaadoor", sum := "08d51a1c9ba71d48ae291fe1ef9b3ffcf6ab2ee696852fc3a8c54a41e07b41a4", func := "plimsoll/plimsolllaw15.JournalSeen", spec := "journalSeen", inPlace := ["internal/bytealg.IndexByteString", "internal/reflectlite.TypeOf", "internal/reflectlite.ValueOf", "(internal/reflectlite.Value).Type", "(internal/reflectlite.Value).IsNil", "(internal/reflectlite.Value).Elem", "(internal/reflectlite.Value).Set"], unfollowed := true, recurses := true, named := ["plimsoll/filter.errFilter", "plimsoll/journal.errSpent", "errors.errorType"], apart := false, laid := [("errors.errorType", laid_errors_errorType), ("plimsoll/filter.errFilter", laid_plimsoll_filter_errFilter), ("plimsoll/journal.errSpent", laid_plimsoll_journal_errSpent)] }
def JournalSeenSaid : Prop := journalSeenRow.holds Tryd.pinned (OpenSpec.ofChange journalSeenSpec)

/-- ITS FALSE NEIGHBOUR: 'it returns false'. Refute it at one input. -/
def journalSeenWrong : ChangeSpec := { name := "journalSeen", fn := fun _ => fun
  | [d1, d2, d3, d4, d5, d6, d7] => { results := [.lit (.bool false)], args := [d1, d2, d3, d4, d5, d6, d7] }
  | _ => none }
def JournalSeenWrongFalsely : Prop := journalSeenRow.holds Tryd.pinned (OpenSpec.ofChange journalSeenWrong)

/- THE SECOND FORM. 'bulk': how many values and letters a reading holds, each counted each time it is reached (what is shared counts as often as it is met; a slice's spare places count too). A statement '..UptoSaid' is the law's where the arguments, and the package variables that the reading takes, are together of bulk at most 1048576: NARROWER than '..Said'. Prove '..Said' where nothing that the law and all that it calls make is longer than what came in: it says more and counts as full. Else prove '..UptoSaid'. A law counts once. -/
mutual
def uptoBulk {H : Type} : DataW H → Nat
  | .lit (.string bytes) => bytes.length + 1
  | .lit _ => 1
  | .nil => 1
  | .ptr d => uptoBulk d + 1
  | .slice elems spare => uptoBulkAll elems + uptoBulkAll spare + 1
  | .agg parts => uptoBulkAll parts + 1
  | .iface _ d => uptoBulk d + 1
  | .map entries => uptoBulkEntries entries + 1
  | .held _ => 1
def uptoBulkAll {H : Type} : List (DataW H) → Nat
  | [] => 0
  | d :: r => uptoBulk d + uptoBulkAll r
def uptoBulkEntries {H : Type} : List (Lit × DataW H) → Nat
  | [] => 0
  | x :: r => uptoBulkEntry x + uptoBulkEntries r
def uptoBulkEntry {H : Type} : Lit × DataW H → Nat
  | (.string bytes, d) => bytes.length + uptoBulk d + 1
  | (_, d) => uptoBulk d + 1
 end
def uptoSmall : (H : Type) → List (DataW H) → Bool := fun _ ds => decide (uptoBulkAll ds ≤ 1048576)
def OpenSpec.upto (s : _root_.Go.ChangeSpec) : _root_.Go.OpenSpec := { _root_.Go.OpenSpec.ofChange s with cond := some uptoSmall }

/-- 'plimsolllaw15.JournalReleases', WHERE WHAT IT READS IS OF BULK AT MOST 1048576: true; the input reads as it did. -/
def journalReleasesUptoRow : OpenClaim := { program := "ythehnjbdkjnlpaadoor", sum := "08d51a1c9ba71d48ae291fe1ef9b3ffcf6ab2ee696852fc3a8c54a41e07b41a4", func := "plimsoll/plimsolllaw15.JournalReleases", spec := "journalReleases", inPlace := ["internal/bytealg.IndexByteString", "internal/reflectlite.TypeOf", "internal/reflectlite.ValueOf", "(internal/reflectlite.Value).Type", "(internal/reflectlite.Value).IsNil", "(internal/reflectlite.Value).Elem", "(internal/reflectlite.Value).Set"], unfollowed := true, recurses := true, named := ["plimsoll/filter.errFilter", "plimsoll/journal.errSpent", "errors.errorType"], apart := false, laid := [("errors.errorType", laid_errors_errorType), ("plimsoll/filter.errFilter", laid_plimsoll_filter_errFilter), ("plimsoll/journal.errSpent", laid_plimsoll_journal_errSpent)], narrowed := true }
def JournalReleasesUptoSaid : Prop := journalReleasesUptoRow.holds Tryd.pinned (OpenSpec.upto journalReleasesSpec)

/-- 'plimsolllaw15.JournalApart', WHERE WHAT IT READS IS OF BULK AT MOST 1048576: true; the input reads as it did. -/
def journalApartUptoRow : OpenClaim := { program := "ythehnjbdkjnlpaadoor", sum := "08d51a1c9ba71d48ae291fe1ef9b3ffcf6ab2ee696852fc3a8c54a41e07b41a4", func := "plimsoll/plimsolllaw15.JournalApart", spec := "journalApart", inPlace := ["internal/bytealg.IndexByteString", "internal/reflectlite.TypeOf", "internal/reflectlite.ValueOf", "(internal/reflectlite.Value).Type", "(internal/reflectlite.Value).IsNil", "(internal/reflectlite.Value).Elem", "(internal/reflectlite.Value).Set"], unfollowed := true, recurses := true, named := ["plimsoll/filter.errFilter", "plimsoll/journal.errSpent", "errors.errorType"], apart := false, laid := [("errors.errorType", laid_errors_errorType), ("plimsoll/filter.errFilter", laid_plimsoll_filter_errFilter), ("plimsoll/journal.errSpent", laid_plimsoll_journal_errSpent)], narrowed := true }
def JournalApartUptoSaid : Prop := journalApartUptoRow.holds Tryd.pinned (OpenSpec.upto journalApartSpec)

/-- 'plimsolllaw15.JournalBound', WHERE WHAT IT READS IS OF BULK AT MOST 1048576: true; the input reads as it did. -/
def journalBoundUptoRow : OpenClaim := { program := "ythehnjbdkjnlpaadoor", sum := "08d51a1c9ba71d48ae291fe1ef9b3ffcf6ab2ee696852fc3a8c54a41e07b41a4", func := "plimsoll/plimsolllaw15.JournalBound", spec := "journalBound", inPlace := ["internal/bytealg.IndexByteString", "internal/reflectlite.TypeOf", "internal/reflectlite.ValueOf", "(internal/reflectlite.Value).Type", "(internal/reflectlite.Value).IsNil", "(internal/reflectlite.Value).Elem", "(internal/reflectlite.Value).Set"], unfollowed := true, recurses := true, named := ["plimsoll/filter.errFilter", "plimsoll/journal.errSpent", "errors.errorType"], apart := false, laid := [("errors.errorType", laid_errors_errorType), ("plimsoll/filter.errFilter", laid_plimsoll_filter_errFilter), ("plimsoll/journal.errSpent", laid_plimsoll_journal_errSpent)], narrowed := true }
def JournalBoundUptoSaid : Prop := journalBoundUptoRow.holds Tryd.pinned (OpenSpec.upto journalBoundSpec)

/-- 'plimsolllaw15.JournalSums', WHERE WHAT IT READS IS OF BULK AT MOST 1048576: true; the input reads as it did. -/
def journalSumsUptoRow : OpenClaim := { program := "ythehnjbdkjnlpaadoor", sum := "08d51a1c9ba71d48ae291fe1ef9b3ffcf6ab2ee696852fc3a8c54a41e07b41a4", func := "plimsoll/plimsolllaw15.JournalSums", spec := "journalSums", inPlace := ["internal/bytealg.IndexByteString", "internal/reflectlite.TypeOf", "internal/reflectlite.ValueOf", "(internal/reflectlite.Value).Type", "(internal/reflectlite.Value).IsNil", "(internal/reflectlite.Value).Elem", "(internal/reflectlite.Value).Set"], unfollowed := true, recurses := true, named := ["plimsoll/filter.errFilter", "plimsoll/journal.errSpent", "errors.errorType"], apart := false, laid := [("errors.errorType", laid_errors_errorType), ("plimsoll/filter.errFilter", laid_plimsoll_filter_errFilter), ("plimsoll/journal.errSpent", laid_plimsoll_journal_errSpent)], narrowed := true }
def JournalSumsUptoSaid : Prop := journalSumsUptoRow.holds Tryd.pinned (OpenSpec.upto journalSumsSpec)

/-- 'plimsolllaw15.JournalSeen', WHERE WHAT IT READS IS OF BULK AT MOST 1048576: true; the input reads as it did. -/
def journalSeenUptoRow : OpenClaim := { program := "ythehnjbdkjnlpaadoor", sum := "08d51a1c9ba71d48ae291fe1ef9b3ffcf6ab2ee696852fc3a8c54a41e07b41a4", func := "plimsoll/plimsolllaw15.JournalSeen", spec := "journalSeen", inPlace := ["internal/bytealg.IndexByteString", "internal/reflectlite.TypeOf", "internal/reflectlite.ValueOf", "(internal/reflectlite.Value).Type", "(internal/reflectlite.Value).IsNil", "(internal/reflectlite.Value).Elem", "(internal/reflectlite.Value).Set"], unfollowed := true, recurses := true, named := ["plimsoll/filter.errFilter", "plimsoll/journal.errSpent", "errors.errorType"], apart := false, laid := [("errors.errorType", laid_errors_errorType), ("plimsoll/filter.errFilter", laid_plimsoll_filter_errFilter), ("plimsoll/journal.errSpent", laid_plimsoll_journal_errSpent)], narrowed := true }
def JournalSeenUptoSaid : Prop := journalSeenUptoRow.holds Tryd.pinned (OpenSpec.upto journalSeenSpec)

end Rows
end Go.Proofs.YthehnjbdkjnlpaaDoor
