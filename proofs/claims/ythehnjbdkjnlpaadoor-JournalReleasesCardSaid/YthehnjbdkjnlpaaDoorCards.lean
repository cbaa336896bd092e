/-
  DERIVED. GIVEN WITH THE SEED: THE CARDS: each row of YthehnjbdkjnlpaaDoorRows.lean that lists a variable, with what it lists TIED to the program's text (the seventh form; the later family's looks); each row that meets fmt, with fmt's text TOLD by the authors' own Lean function (tested against real Go, not proved from fmt's source: count such statements apart). THE CARD IS WHAT COUNTS. Prove the row's statement (the work); the ties are given (YthehnjbdkjnlpaaDoorTie.lean); close each card by the builder's one call (the guide's Derived/Test/ToyasCard.lean, 'card_holds'). Laid BY PROGRAM, IN A SANDBOX (cutbox-door.mjs). By AI agents, Wed Nov 11 2026. No macro, syntax, notation, axiom, sorry.
-/
import Derived.Test.YthehnjbdkjnlpaaDoorRows
import GoSem.ClaimSeven
namespace Go.Proofs.YthehnjbdkjnlpaaDoor
namespace Rows

/-- THE TIED CARD OF 'plimsolllaw15.JournalReleases'. -/
def journalReleasesCard : Claim7 := { stood := { row := journalReleasesRow, standIns := [], harness := (true, "72eba0f33a7e5651a87a0ac21875880bf9ac478e65bbb692fb67f4bbfb5bbbdb"), looks := true }, kinds := [], alts := [], laidByText := true, laidKinds := [.handle, .sentinel, .sentinel], laidTests := true, laidLooks := .later }
def JournalReleasesCardSaid : Prop := Claim7.holds Tryd.pinned (.plain (OpenSpec.ofChange journalReleasesSpec)) journalReleasesCard

/-- THE TIED CARD OF 'plimsolllaw15.JournalApart'. -/
def journalApartCard : Claim7 := { stood := { row := journalApartRow, standIns := [], harness := (true, "72eba0f33a7e5651a87a0ac21875880bf9ac478e65bbb692fb67f4bbfb5bbbdb"), looks := true }, kinds := [], alts := [], laidByText := true, laidKinds := [.handle, .sentinel, .sentinel], laidTests := true, laidLooks := .later }
def JournalApartCardSaid : Prop := Claim7.holds Tryd.pinned (.plain (OpenSpec.ofChange journalApartSpec)) journalApartCard

/-- THE TIED CARD OF 'plimsolllaw15.JournalBound'. -/
def journalBoundCard : Claim7 := { stood := { row := journalBoundRow, standIns := [], harness := (true, "72eba0f33a7e5651a87a0ac21875880bf9ac478e65bbb692fb67f4bbfb5bbbdb"), looks := true }, kinds := [], alts := [], laidByText := true, laidKinds := [.handle, .sentinel, .sentinel], laidTests := true, laidLooks := .later }
def JournalBoundCardSaid : Prop := Claim7.holds Tryd.pinned (.plain (OpenSpec.ofChange journalBoundSpec)) journalBoundCard

/-- THE TIED CARD OF 'plimsolllaw15.JournalSums'. -/
def journalSumsCard : Claim7 := { stood := { row := journalSumsRow, standIns := [], harness := (true, "72eba0f33a7e5651a87a0ac21875880bf9ac478e65bbb692fb67f4bbfb5bbbdb"), looks := true }, kinds := [], alts := [], laidByText := true, laidKinds := [.handle, .sentinel, .sentinel], laidTests := true, laidLooks := .later }
def JournalSumsCardSaid : Prop := Claim7.holds Tryd.pinned (.plain (OpenSpec.ofChange journalSumsSpec)) journalSumsCard

/-- THE TIED CARD OF 'plimsolllaw15.JournalSeen'. -/
def journalSeenCard : Claim7 := { stood := { row := journalSeenRow, standIns := [], harness := (true, "72eba0f33a7e5651a87a0ac21875880bf9ac478e65bbb692fb67f4bbfb5bbbdb"), looks := true }, kinds := [], alts := [], laidByText := true, laidKinds := [.handle, .sentinel, .sentinel], laidTests := true, laidLooks := .later }
def JournalSeenCardSaid : Prop := Claim7.holds Tryd.pinned (.plain (OpenSpec.ofChange journalSeenSpec)) journalSeenCard

/-- THE SECOND FORM's CARD OF 'plimsolllaw15.JournalReleases'. -/
def journalReleasesUptoCard : Claim7 := { stood := { row := journalReleasesUptoRow, standIns := [], harness := (true, "72eba0f33a7e5651a87a0ac21875880bf9ac478e65bbb692fb67f4bbfb5bbbdb"), looks := true }, kinds := [], alts := [], laidByText := true, laidKinds := [.handle, .sentinel, .sentinel], laidTests := true, laidLooks := .later }
def JournalReleasesUptoCardSaid : Prop := Claim7.holds Tryd.pinned (.plain (OpenSpec.upto journalReleasesSpec)) journalReleasesUptoCard

/-- THE SECOND FORM's CARD OF 'plimsolllaw15.JournalApart'. -/
def journalApartUptoCard : Claim7 := { stood := { row := journalApartUptoRow, standIns := [], harness := (true, "72eba0f33a7e5651a87a0ac21875880bf9ac478e65bbb692fb67f4bbfb5bbbdb"), looks := true }, kinds := [], alts := [], laidByText := true, laidKinds := [.handle, .sentinel, .sentinel], laidTests := true, laidLooks := .later }
def JournalApartUptoCardSaid : Prop := Claim7.holds Tryd.pinned (.plain (OpenSpec.upto journalApartSpec)) journalApartUptoCard

/-- THE SECOND FORM's CARD OF 'plimsolllaw15.JournalBound'. -/
def journalBoundUptoCard : Claim7 := { stood := { row := journalBoundUptoRow, standIns := [], harness := (true, "72eba0f33a7e5651a87a0ac21875880bf9ac478e65bbb692fb67f4bbfb5bbbdb"), looks := true }, kinds := [], alts := [], laidByText := true, laidKinds := [.handle, .sentinel, .sentinel], laidTests := true, laidLooks := .later }
def JournalBoundUptoCardSaid : Prop := Claim7.holds Tryd.pinned (.plain (OpenSpec.upto journalBoundSpec)) journalBoundUptoCard

/-- THE SECOND FORM's CARD OF 'plimsolllaw15.JournalSums'. -/
def journalSumsUptoCard : Claim7 := { stood := { row := journalSumsUptoRow, standIns := [], harness := (true, "72eba0f33a7e5651a87a0ac21875880bf9ac478e65bbb692fb67f4bbfb5bbbdb"), looks := true }, kinds := [], alts := [], laidByText := true, laidKinds := [.handle, .sentinel, .sentinel], laidTests := true, laidLooks := .later }
def JournalSumsUptoCardSaid : Prop := Claim7.holds Tryd.pinned (.plain (OpenSpec.upto journalSumsSpec)) journalSumsUptoCard

/-- THE SECOND FORM's CARD OF 'plimsolllaw15.JournalSeen'. -/
def journalSeenUptoCard : Claim7 := { stood := { row := journalSeenUptoRow, standIns := [], harness := (true, "72eba0f33a7e5651a87a0ac21875880bf9ac478e65bbb692fb67f4bbfb5bbbdb"), looks := true }, kinds := [], alts := [], laidByText := true, laidKinds := [.handle, .sentinel, .sentinel], laidTests := true, laidLooks := .later }
def JournalSeenUptoCardSaid : Prop := Claim7.holds Tryd.pinned (.plain (OpenSpec.upto journalSeenSpec)) journalSeenUptoCard
end Rows
end Go.Proofs.YthehnjbdkjnlpaaDoor
