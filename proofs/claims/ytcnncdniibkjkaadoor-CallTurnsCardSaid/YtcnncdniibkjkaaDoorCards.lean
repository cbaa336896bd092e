/-
  DERIVED. GIVEN WITH THE SEED: THE CARDS: each row of YtcnncdniibkjkaaDoorRows.lean that lists a variable, with what it lists TIED to the program's text (the seventh form; the later family's looks); each row that meets fmt, with fmt's text TOLD by the authors' own Lean function (tested against real Go, not proved from fmt's source: count such statements apart). THE CARD IS WHAT COUNTS. Prove the row's statement (the work); the ties are given (YtcnncdniibkjkaaDoorTie.lean); close each card by the builder's one call (the guide's Derived/Test/ToyasCard.lean, 'card_holds'). Laid BY PROGRAM, IN A SANDBOX (cutbox-door.mjs). By AI agents, Wed Nov 11 2026. No macro, syntax, notation, axiom, sorry.
-/
import Derived.Test.YtcnncdniibkjkaaDoorRows
import GoSem.ClaimSeven
namespace Go.Proofs.YtcnncdniibkjkaaDoor
namespace Rows

/-- THE TIED CARD OF 'plimsolllaw17.CallBack'. -/
def callBackCard : Claim7 := { stood := { row := callBackRow, standIns := [], harness := (true, "3c1874592a54b2e649354390c467f693355f608a460c4d021c4d60da7d4b5c58"), looks := true }, kinds := [], alts := [], laidByText := true, laidKinds := [.handle, .sentinel, .sentinel, .sentinel, .sentinel], laidTests := true, laidLooks := .later }
def CallBackCardSaid : Prop := Claim7.holds Tryd.pinned (.plain (OpenSpec.ofChange callBackSpec)) callBackCard

/-- THE TIED CARD OF 'plimsolllaw17.CallShort'. -/
def callShortCard : Claim7 := { stood := { row := callShortRow, standIns := [], harness := (true, "3c1874592a54b2e649354390c467f693355f608a460c4d021c4d60da7d4b5c58"), looks := true }, kinds := [], alts := [], laidByText := true, laidKinds := [.handle, .sentinel, .sentinel, .sentinel, .sentinel], laidTests := true, laidLooks := .later }
def CallShortCardSaid : Prop := Claim7.holds Tryd.pinned (.plain (OpenSpec.ofChange callShortSpec)) callShortCard

/-- THE TIED CARD OF 'plimsolllaw17.CallFirst'. -/
def callFirstCard : Claim7 := { stood := { row := callFirstRow, standIns := [], harness := (true, "3c1874592a54b2e649354390c467f693355f608a460c4d021c4d60da7d4b5c58"), looks := true }, kinds := [], alts := [], laidByText := true, laidKinds := [.handle, .sentinel, .sentinel, .sentinel, .sentinel], laidTests := true, laidLooks := .later }
def CallFirstCardSaid : Prop := Claim7.holds Tryd.pinned (.plain (OpenSpec.ofChange callFirstSpec)) callFirstCard

/-- THE TIED CARD OF 'plimsolllaw17.CallTurns'. -/
def callTurnsCard : Claim7 := { stood := { row := callTurnsRow, standIns := [], harness := (true, "3c1874592a54b2e649354390c467f693355f608a460c4d021c4d60da7d4b5c58"), looks := true }, kinds := [], alts := [], laidByText := true, laidKinds := [.handle, .sentinel, .sentinel, .sentinel, .sentinel], laidTests := true, laidLooks := .later }
def CallTurnsCardSaid : Prop := Claim7.holds Tryd.pinned (.plain (OpenSpec.ofChange callTurnsSpec)) callTurnsCard

/-- THE SECOND FORM's CARD OF 'plimsolllaw17.CallBack'. -/
def callBackUptoCard : Claim7 := { stood := { row := callBackUptoRow, standIns := [], harness := (true, "3c1874592a54b2e649354390c467f693355f608a460c4d021c4d60da7d4b5c58"), looks := true }, kinds := [], alts := [], laidByText := true, laidKinds := [.handle, .sentinel, .sentinel, .sentinel, .sentinel], laidTests := true, laidLooks := .later }
def CallBackUptoCardSaid : Prop := Claim7.holds Tryd.pinned (.plain (OpenSpec.upto callBackSpec)) callBackUptoCard

/-- THE SECOND FORM's CARD OF 'plimsolllaw17.CallShort'. -/
def callShortUptoCard : Claim7 := { stood := { row := callShortUptoRow, standIns := [], harness := (true, "3c1874592a54b2e649354390c467f693355f608a460c4d021c4d60da7d4b5c58"), looks := true }, kinds := [], alts := [], laidByText := true, laidKinds := [.handle, .sentinel, .sentinel, .sentinel, .sentinel], laidTests := true, laidLooks := .later }
def CallShortUptoCardSaid : Prop := Claim7.holds Tryd.pinned (.plain (OpenSpec.upto callShortSpec)) callShortUptoCard

/-- THE SECOND FORM's CARD OF 'plimsolllaw17.CallFirst'. -/
def callFirstUptoCard : Claim7 := { stood := { row := callFirstUptoRow, standIns := [], harness := (true, "3c1874592a54b2e649354390c467f693355f608a460c4d021c4d60da7d4b5c58"), looks := true }, kinds := [], alts := [], laidByText := true, laidKinds := [.handle, .sentinel, .sentinel, .sentinel, .sentinel], laidTests := true, laidLooks := .later }
def CallFirstUptoCardSaid : Prop := Claim7.holds Tryd.pinned (.plain (OpenSpec.upto callFirstSpec)) callFirstUptoCard

/-- THE SECOND FORM's CARD OF 'plimsolllaw17.CallTurns'. -/
def callTurnsUptoCard : Claim7 := { stood := { row := callTurnsUptoRow, standIns := [], harness := (true, "3c1874592a54b2e649354390c467f693355f608a460c4d021c4d60da7d4b5c58"), looks := true }, kinds := [], alts := [], laidByText := true, laidKinds := [.handle, .sentinel, .sentinel, .sentinel, .sentinel], laidTests := true, laidLooks := .later }
def CallTurnsUptoCardSaid : Prop := Claim7.holds Tryd.pinned (.plain (OpenSpec.upto callTurnsSpec)) callTurnsUptoCard
end Rows
end Go.Proofs.YtcnncdniibkjkaaDoor
