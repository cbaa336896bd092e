/-
  DERIVED. GIVEN WITH THE SEED: THE CARDS: each row of YtcnncdniibkjkaaGreatDoorRows.lean that lists a variable, with what it lists TIED to the program's text (the seventh form; the later family's looks); each row that meets fmt, with fmt's text TOLD by the authors' own Lean function (tested against real Go, not proved from fmt's source: count such statements apart). THE CARD IS WHAT COUNTS. Prove the row's statement (the work); the ties are given (YtcnncdniibkjkaaGreatDoorTie.lean); close each card by the builder's one call (the guide's Derived/Test/ToyasCard.lean, 'card_holds'). Laid BY PROGRAM, IN A SANDBOX (cutbox-door.mjs). By AI agents, Wed Nov 11 2026. No macro, syntax, notation, axiom, sorry.
-/
import Derived.Test.YtcnncdniibkjkaaGreatDoorRows
import GoSem.ClaimSeven
namespace Go.Proofs.YtcnncdniibkjkaaGreatDoor
namespace Rows

/-- THE TIED CARD OF 'plimsolllaw17.CallCodes'. -/
def callCodesCard : Claim7 := { stood := { row := callCodesRow, standIns := [], harness := (true, "22c03a84e7f285918f5889c9239f3ad771e538513f185b5c7267c7d80ce70bff"), looks := true }, kinds := [], alts := [], laidByText := true, laidKinds := [.handle, .sentinel, .sentinel, .sentinel, .sentinel], laidTests := true, laidLooks := .later }
def CallCodesCardSaid : Prop := Claim7.holds Tryz.pinned (.plain (OpenSpec.ofChange callCodesSpec)) callCodesCard

/-- THE TIED CARD OF 'plimsolllaw17.CallReplies'. -/
def callRepliesCard : Claim7 := { stood := { row := callRepliesRow, standIns := [], harness := (true, "22c03a84e7f285918f5889c9239f3ad771e538513f185b5c7267c7d80ce70bff"), looks := true }, kinds := [], alts := [], laidByText := true, laidKinds := [.handle, .sentinel, .sentinel, .sentinel, .sentinel], laidTests := true, laidLooks := .later }
def CallRepliesCardSaid : Prop := Claim7.holds Tryz.pinned (.plain (OpenSpec.ofChange callRepliesSpec)) callRepliesCard

/-- THE SECOND FORM's CARD OF 'plimsolllaw17.CallCodes'. -/
def callCodesUptoCard : Claim7 := { stood := { row := callCodesUptoRow, standIns := [], harness := (true, "22c03a84e7f285918f5889c9239f3ad771e538513f185b5c7267c7d80ce70bff"), looks := true }, kinds := [], alts := [], laidByText := true, laidKinds := [.handle, .sentinel, .sentinel, .sentinel, .sentinel], laidTests := true, laidLooks := .later }
def CallCodesUptoCardSaid : Prop := Claim7.holds Tryz.pinned (.plain (OpenSpec.upto callCodesSpec)) callCodesUptoCard

/-- THE SECOND FORM's CARD OF 'plimsolllaw17.CallReplies'. -/
def callRepliesUptoCard : Claim7 := { stood := { row := callRepliesUptoRow, standIns := [], harness := (true, "22c03a84e7f285918f5889c9239f3ad771e538513f185b5c7267c7d80ce70bff"), looks := true }, kinds := [], alts := [], laidByText := true, laidKinds := [.handle, .sentinel, .sentinel, .sentinel, .sentinel], laidTests := true, laidLooks := .later }
def CallRepliesUptoCardSaid : Prop := Claim7.holds Tryz.pinned (.plain (OpenSpec.upto callRepliesSpec)) callRepliesUptoCard
end Rows
end Go.Proofs.YtcnncdniibkjkaaGreatDoor
