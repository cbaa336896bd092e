/-
  DERIVED. GIVEN WITH THE SEED: THE CARDS: each row of YthjcekfehicjhabDoorRows.lean that lists a variable, with what it lists TIED to the program's text (the seventh form; the later family's looks); each row that meets fmt, with fmt's text TOLD by the authors' own Lean function (tested against real Go, not proved from fmt's source: count such statements apart). THE CARD IS WHAT COUNTS. Prove the row's statement (the work); the ties are given (YthjcekfehicjhabDoorTie.lean); close each card by the builder's one call (the guide's Derived/Test/ToyasCard.lean, 'card_holds'). Laid BY PROGRAM, IN A SANDBOX (cutbox-door.mjs). By AI agents, Wed Nov 11 2026. No macro, syntax, notation, axiom, sorry.
-/
import Derived.Test.YthjcekfehicjhabDoorRows
import GoSem.ClaimSeven
namespace Go.Proofs.YthjcekfehicjhabDoor
namespace Rows

/-- THE TIED CARD OF 'plimsolllaw09.FileWrites'. -/
def fileWritesCard : Claim7 := { stood := { row := fileWritesRow, standIns := [], harness := (true, "cf1a416c18b01824ea8e9042571471284076252f0cde0c9dce2f651cadb78b61"), looks := true }, kinds := [], alts := [], laidByText := true, laidKinds := [.handle], laidTests := true, laidLooks := .later }
def FileWritesCardSaid : Prop := Claim7.holds Tryd.pinned (.plain (OpenSpec.ofChange fileWritesSpec)) fileWritesCard

/-- THE SECOND FORM's CARD OF 'plimsolllaw09.FileWrites'. -/
def fileWritesUptoCard : Claim7 := { stood := { row := fileWritesUptoRow, standIns := [], harness := (true, "cf1a416c18b01824ea8e9042571471284076252f0cde0c9dce2f651cadb78b61"), looks := true }, kinds := [], alts := [], laidByText := true, laidKinds := [.handle], laidTests := true, laidLooks := .later }
def FileWritesUptoCardSaid : Prop := Claim7.holds Tryd.pinned (.plain (OpenSpec.upto fileWritesSpec)) fileWritesUptoCard
end Rows
end Go.Proofs.YthjcekfehicjhabDoor
