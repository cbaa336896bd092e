/-
  DERIVED. GIVEN WITH THE SEED: THE CARDS: each row of YtjcjbdhkajiaeaaDoorRows.lean that lists a variable, with what it lists TIED to the program's text (the seventh form; the later family's looks); each row that meets fmt, with fmt's text TOLD by the authors' own Lean function (tested against real Go, not proved from fmt's source: count such statements apart). THE CARD IS WHAT COUNTS. Prove the row's statement (the work); the ties are given (YtjcjbdhkajiaeaaDoorTie.lean); close each card by the builder's one call (the guide's Derived/Test/ToyasCard.lean, 'card_holds'). Laid BY PROGRAM, IN A SANDBOX (cutbox-door.mjs). By AI agents, Wed Nov 11 2026. No macro, syntax, notation, axiom, sorry.
-/
import Derived.Test.YtjcjbdhkajiaeaaDoorRows
import GoSem.ClaimSeven
namespace Go.Proofs.YtjcjbdhkajiaeaaDoor
namespace Rows

/-- THE TIED CARD OF 'plimsolllaw08.RingBound'. -/
def ringBoundCard : Claim7 := { stood := { row := ringBoundRow, standIns := [], harness := (true, "b786713441a752de7acee6366f0947f351ff51927903928e5be71e03e352de47"), looks := true }, kinds := [], alts := [], laidByText := true, laidKinds := [.sentinel, .sentinel, .sentinel], laidTests := true, laidLooks := .later }
def RingBoundCardSaid : Prop := Claim7.holds Tryd.pinned (.plain (OpenSpec.ofChange ringBoundSpec)) ringBoundCard

/-- THE TIED CARD OF 'plimsolllaw08.RingAll'. -/
def ringAllCard : Claim7 := { stood := { row := ringAllRow, standIns := [], harness := (true, "b786713441a752de7acee6366f0947f351ff51927903928e5be71e03e352de47"), looks := true }, kinds := [], alts := [], laidByText := true, laidKinds := [.sentinel, .sentinel, .sentinel], laidTests := true, laidLooks := .later }
def RingAllCardSaid : Prop := Claim7.holds Tryd.pinned (.plain (OpenSpec.ofChange ringAllSpec)) ringAllCard

/-- THE TIED CARD OF 'plimsolllaw08.RingOwn'. -/
def ringOwnCard : Claim7 := { stood := { row := ringOwnRow, standIns := [], harness := (true, "b786713441a752de7acee6366f0947f351ff51927903928e5be71e03e352de47"), looks := true }, kinds := [], alts := [], laidByText := true, laidKinds := [.sentinel, .sentinel, .sentinel], laidTests := true, laidLooks := .later }
def RingOwnCardSaid : Prop := Claim7.holds Tryd.pinned (.plain (OpenSpec.ofChange ringOwnSpec)) ringOwnCard

/-- THE TIED CARD OF 'plimsolllaw08.RingTells'. -/
def ringTellsCard : Claim7 := { stood := { row := ringTellsRow, standIns := [], harness := (true, "b786713441a752de7acee6366f0947f351ff51927903928e5be71e03e352de47"), looks := true }, kinds := [], alts := [], laidByText := true, laidKinds := [.sentinel, .sentinel, .sentinel], laidTests := true, laidLooks := .later }
def RingTellsCardSaid : Prop := Claim7.holds Tryd.pinned (.plain (OpenSpec.ofChange ringTellsSpec)) ringTellsCard

/-- THE TIED CARD OF 'plimsolllaw08.RingTurns'. -/
def ringTurnsCard : Claim7 := { stood := { row := ringTurnsRow, standIns := [], harness := (true, "b786713441a752de7acee6366f0947f351ff51927903928e5be71e03e352de47"), looks := true }, kinds := [], alts := [], laidByText := true, laidKinds := [.sentinel, .sentinel, .sentinel], laidTests := true, laidLooks := .later }
def RingTurnsCardSaid : Prop := Claim7.holds Tryd.pinned (.plain (OpenSpec.ofChange ringTurnsSpec)) ringTurnsCard

/-- THE TIED CARD OF 'plimsolllaw08.RingOrder'. -/
def ringOrderCard : Claim7 := { stood := { row := ringOrderRow, standIns := [], harness := (true, "b786713441a752de7acee6366f0947f351ff51927903928e5be71e03e352de47"), looks := true }, kinds := [], alts := [], laidByText := true, laidKinds := [.sentinel, .sentinel, .sentinel], laidTests := true, laidLooks := .later }
def RingOrderCardSaid : Prop := Claim7.holds Tryd.pinned (.plain (OpenSpec.ofChange ringOrderSpec)) ringOrderCard

/-- THE SECOND FORM's CARD OF 'plimsolllaw08.RingBound'. -/
def ringBoundUptoCard : Claim7 := { stood := { row := ringBoundUptoRow, standIns := [], harness := (true, "b786713441a752de7acee6366f0947f351ff51927903928e5be71e03e352de47"), looks := true }, kinds := [], alts := [], laidByText := true, laidKinds := [.sentinel, .sentinel, .sentinel], laidTests := true, laidLooks := .later }
def RingBoundUptoCardSaid : Prop := Claim7.holds Tryd.pinned (.plain (OpenSpec.upto ringBoundSpec)) ringBoundUptoCard

/-- THE SECOND FORM's CARD OF 'plimsolllaw08.RingAll'. -/
def ringAllUptoCard : Claim7 := { stood := { row := ringAllUptoRow, standIns := [], harness := (true, "b786713441a752de7acee6366f0947f351ff51927903928e5be71e03e352de47"), looks := true }, kinds := [], alts := [], laidByText := true, laidKinds := [.sentinel, .sentinel, .sentinel], laidTests := true, laidLooks := .later }
def RingAllUptoCardSaid : Prop := Claim7.holds Tryd.pinned (.plain (OpenSpec.upto ringAllSpec)) ringAllUptoCard

/-- THE SECOND FORM's CARD OF 'plimsolllaw08.RingOwn'. -/
def ringOwnUptoCard : Claim7 := { stood := { row := ringOwnUptoRow, standIns := [], harness := (true, "b786713441a752de7acee6366f0947f351ff51927903928e5be71e03e352de47"), looks := true }, kinds := [], alts := [], laidByText := true, laidKinds := [.sentinel, .sentinel, .sentinel], laidTests := true, laidLooks := .later }
def RingOwnUptoCardSaid : Prop := Claim7.holds Tryd.pinned (.plain (OpenSpec.upto ringOwnSpec)) ringOwnUptoCard

/-- THE SECOND FORM's CARD OF 'plimsolllaw08.RingTells'. -/
def ringTellsUptoCard : Claim7 := { stood := { row := ringTellsUptoRow, standIns := [], harness := (true, "b786713441a752de7acee6366f0947f351ff51927903928e5be71e03e352de47"), looks := true }, kinds := [], alts := [], laidByText := true, laidKinds := [.sentinel, .sentinel, .sentinel], laidTests := true, laidLooks := .later }
def RingTellsUptoCardSaid : Prop := Claim7.holds Tryd.pinned (.plain (OpenSpec.upto ringTellsSpec)) ringTellsUptoCard

/-- THE SECOND FORM's CARD OF 'plimsolllaw08.RingTurns'. -/
def ringTurnsUptoCard : Claim7 := { stood := { row := ringTurnsUptoRow, standIns := [], harness := (true, "b786713441a752de7acee6366f0947f351ff51927903928e5be71e03e352de47"), looks := true }, kinds := [], alts := [], laidByText := true, laidKinds := [.sentinel, .sentinel, .sentinel], laidTests := true, laidLooks := .later }
def RingTurnsUptoCardSaid : Prop := Claim7.holds Tryd.pinned (.plain (OpenSpec.upto ringTurnsSpec)) ringTurnsUptoCard

/-- THE SECOND FORM's CARD OF 'plimsolllaw08.RingOrder'. -/
def ringOrderUptoCard : Claim7 := { stood := { row := ringOrderUptoRow, standIns := [], harness := (true, "b786713441a752de7acee6366f0947f351ff51927903928e5be71e03e352de47"), looks := true }, kinds := [], alts := [], laidByText := true, laidKinds := [.sentinel, .sentinel, .sentinel], laidTests := true, laidLooks := .later }
def RingOrderUptoCardSaid : Prop := Claim7.holds Tryd.pinned (.plain (OpenSpec.upto ringOrderSpec)) ringOrderUptoCard
end Rows
end Go.Proofs.YtjcjbdhkajiaeaaDoor
