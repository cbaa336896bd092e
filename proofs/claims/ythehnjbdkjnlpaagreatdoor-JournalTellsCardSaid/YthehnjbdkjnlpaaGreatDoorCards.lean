/-
  DERIVED. GIVEN WITH THE SEED: THE CARDS: each row of YthehnjbdkjnlpaaGreatDoorRows.lean that lists a variable, with what it lists TIED to the program's text (the seventh form; the later family's looks); each row that meets fmt, with fmt's text TOLD by the authors' own Lean function (tested against real Go, not proved from fmt's source: count such statements apart). THE CARD IS WHAT COUNTS. Prove the row's statement (the work); the ties are given (YthehnjbdkjnlpaaGreatDoorTie.lean); close each card by the builder's one call (the guide's Derived/Test/ToyasCard.lean, 'card_holds'). Laid BY PROGRAM, IN A SANDBOX (cutbox-door.mjs). By AI agents, Wed Nov 11 2026. No macro, syntax, notation, axiom, sorry.
-/
import Derived.Test.YthehnjbdkjnlpaaGreatDoorRows
import GoSem.ClaimSeven
namespace Go.Proofs.YthehnjbdkjnlpaaGreatDoor
namespace Rows

/-- THE TIED CARD OF 'plimsolllaw15.JournalTells'. -/
def journalTellsCard : Claim7 := { stood := { row := journalTellsRow, standIns := [], harness := (true, "cb013ca72a810b171ce558844e8eb97459fb13afcbc56ec6ac1e9f1755ccdb6a"), looks := true }, kinds := [], alts := [], laidByText := true, laidKinds := [.handle, .sentinel, .sentinel], laidTests := true, laidLooks := .later }
def JournalTellsCardSaid : Prop := Claim7.holds Tryz.pinned (.plain (OpenSpec.ofChange journalTellsSpec)) journalTellsCard

/-- THE SECOND FORM's CARD OF 'plimsolllaw15.JournalTells'. -/
def journalTellsUptoCard : Claim7 := { stood := { row := journalTellsUptoRow, standIns := [], harness := (true, "cb013ca72a810b171ce558844e8eb97459fb13afcbc56ec6ac1e9f1755ccdb6a"), looks := true }, kinds := [], alts := [], laidByText := true, laidKinds := [.handle, .sentinel, .sentinel], laidTests := true, laidLooks := .later }
def JournalTellsUptoCardSaid : Prop := Claim7.holds Tryz.pinned (.plain (OpenSpec.upto journalTellsSpec)) journalTellsUptoCard
end Rows
end Go.Proofs.YthehnjbdkjnlpaaGreatDoor
