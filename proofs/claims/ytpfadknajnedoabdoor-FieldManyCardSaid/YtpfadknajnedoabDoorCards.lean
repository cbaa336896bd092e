/-
  DERIVED. GIVEN WITH THE SEED: THE CARDS: each row of YtpfadknajnedoabDoorRows.lean that lists a variable, with what it lists TIED to the program's text (the seventh form; the later family's looks); each row that meets fmt, with fmt's text TOLD by the authors' own Lean function (tested against real Go, not proved from fmt's source: count such statements apart). THE CARD IS WHAT COUNTS. Prove the row's statement (the work); the ties are given (YtpfadknajnedoabDoorTie.lean); close each card by the builder's one call (the guide's Derived/Test/ToyasCard.lean, 'card_holds'). Laid BY PROGRAM, IN A SANDBOX (cutbox-door.mjs). By AI agents, Wed Nov 11 2026. No macro, syntax, notation, axiom, sorry.
-/
import Derived.Test.YtpfadknajnedoabDoorRows
import GoSem.ClaimSeven
namespace Go.Proofs.YtpfadknajnedoabDoor
namespace Rows

/-- THE TIED CARD OF 'plimsolllaw03.FieldMany'. -/
def fieldManyCard : Claim7 := { stood := { row := fieldManyRow, standIns := [], harness := (true, "4b8e135a1f799cdcadcf5cff63d5a9c914adbfb759b1da0302c7cc5a2d7084b6"), looks := true }, kinds := [], alts := [], laidByText := true, laidKinds := [.handle, .sentinel, .sentinel, .sentinel], laidTests := true, laidLooks := .later }
def FieldManyCardSaid : Prop := Claim7.holds Tryd.pinned (.plain (OpenSpec.ofChange fieldManySpec)) fieldManyCard

/-- THE SECOND FORM's CARD OF 'plimsolllaw03.FieldMany'. -/
def fieldManyUptoCard : Claim7 := { stood := { row := fieldManyUptoRow, standIns := [], harness := (true, "4b8e135a1f799cdcadcf5cff63d5a9c914adbfb759b1da0302c7cc5a2d7084b6"), looks := true }, kinds := [], alts := [], laidByText := true, laidKinds := [.handle, .sentinel, .sentinel, .sentinel], laidTests := true, laidLooks := .later }
def FieldManyUptoCardSaid : Prop := Claim7.holds Tryd.pinned (.plain (OpenSpec.upto fieldManySpec)) fieldManyUptoCard
end Rows
end Go.Proofs.YtpfadknajnedoabDoor
