/-
  DERIVED. GIVEN WITH THE SEED: THE CARDS: each row of YtdfgedkjilpcgaaDoorRows.lean that lists a variable, with what it lists TIED to the program's text (the seventh form; the later family's looks); each row that meets fmt, with fmt's text TOLD by the authors' own Lean function (tested against real Go, not proved from fmt's source: count such statements apart). THE CARD IS WHAT COUNTS. Prove the row's statement (the work); the ties are given (YtdfgedkjilpcgaaDoorTie.lean); close each card by the builder's one call (the guide's Derived/Test/ToyasCard.lean, 'card_holds'). Laid BY PROGRAM, IN A SANDBOX (cutbox-door.mjs). By AI agents, Wed Nov 11 2026. No macro, syntax, notation, axiom, sorry.
-/
import Derived.Test.YtdfgedkjilpcgaaDoorRows
import GoSem.ClaimSeven
namespace Go.Proofs.YtdfgedkjilpcgaaDoor
namespace Rows

/-- THE TIED CARD OF 'plimsolllaw18.AuditAppends'. -/
def auditAppendsCard : Claim7 := { stood := { row := auditAppendsRow, standIns := [], harness := (true, "35e7403ab91cb1dd5564393e521f2bb402b38fbb63a2a8846c559422764305c8"), looks := true }, kinds := [], alts := [], laidByText := true, laidKinds := [.sentinel], laidTests := true, laidLooks := .later }
def AuditAppendsCardSaid : Prop := Claim7.holds Tryd.pinned (.plain (OpenSpec.ofChange auditAppendsSpec)) auditAppendsCard

/-- THE TIED CARD OF 'plimsolllaw18.AuditLast'. -/
def auditLastCard : Claim7 := { stood := { row := auditLastRow, standIns := [], harness := (true, "35e7403ab91cb1dd5564393e521f2bb402b38fbb63a2a8846c559422764305c8"), looks := true }, kinds := [], alts := [], laidByText := true, laidKinds := [.sentinel], laidTests := true, laidLooks := .later }
def AuditLastCardSaid : Prop := Claim7.holds Tryd.pinned (.plain (OpenSpec.ofChange auditLastSpec)) auditLastCard

/-- THE TIED CARD OF 'plimsolllaw18.AuditApart'. -/
def auditApartCard : Claim7 := { stood := { row := auditApartRow, standIns := [], harness := (true, "35e7403ab91cb1dd5564393e521f2bb402b38fbb63a2a8846c559422764305c8"), looks := true }, kinds := [], alts := [], laidByText := true, laidKinds := [.sentinel], laidTests := true, laidLooks := .later }
def AuditApartCardSaid : Prop := Claim7.holds Tryd.pinned (.plain (OpenSpec.ofChange auditApartSpec)) auditApartCard

/-- THE TIED CARD OF 'plimsolllaw18.AuditSums'. -/
def auditSumsCard : Claim7 := { stood := { row := auditSumsRow, standIns := [], harness := (true, "35e7403ab91cb1dd5564393e521f2bb402b38fbb63a2a8846c559422764305c8"), looks := true }, kinds := [], alts := [], laidByText := true, laidKinds := [.sentinel], laidTests := true, laidLooks := .later }
def AuditSumsCardSaid : Prop := Claim7.holds Tryd.pinned (.plain (OpenSpec.ofChange auditSumsSpec)) auditSumsCard

/-- THE TIED CARD OF 'plimsolllaw18.AuditTen'. -/
def auditTenCard : Claim7 := { stood := { row := auditTenRow, standIns := [], harness := (true, "35e7403ab91cb1dd5564393e521f2bb402b38fbb63a2a8846c559422764305c8"), looks := true }, kinds := [], alts := [], laidByText := true, laidKinds := [.sentinel], laidTests := true, laidLooks := .later }
def AuditTenCardSaid : Prop := Claim7.holds Tryd.pinned (.plain (OpenSpec.ofChange auditTenSpec)) auditTenCard

/-- THE TIED CARD OF 'plimsolllaw18.AuditTells'. -/
def auditTellsCard : Claim7 := { stood := { row := auditTellsRow, standIns := [], harness := (true, "35e7403ab91cb1dd5564393e521f2bb402b38fbb63a2a8846c559422764305c8"), looks := true }, kinds := [], alts := [], laidByText := true, laidKinds := [.sentinel], laidTests := true, laidLooks := .later }
def AuditTellsCardSaid : Prop := Claim7.holds Tryd.pinned (.plain (OpenSpec.ofChange auditTellsSpec)) auditTellsCard

/-- THE SECOND FORM's CARD OF 'plimsolllaw18.AuditAppends'. -/
def auditAppendsUptoCard : Claim7 := { stood := { row := auditAppendsUptoRow, standIns := [], harness := (true, "35e7403ab91cb1dd5564393e521f2bb402b38fbb63a2a8846c559422764305c8"), looks := true }, kinds := [], alts := [], laidByText := true, laidKinds := [.sentinel], laidTests := true, laidLooks := .later }
def AuditAppendsUptoCardSaid : Prop := Claim7.holds Tryd.pinned (.plain (OpenSpec.upto auditAppendsSpec)) auditAppendsUptoCard

/-- THE SECOND FORM's CARD OF 'plimsolllaw18.AuditLast'. -/
def auditLastUptoCard : Claim7 := { stood := { row := auditLastUptoRow, standIns := [], harness := (true, "35e7403ab91cb1dd5564393e521f2bb402b38fbb63a2a8846c559422764305c8"), looks := true }, kinds := [], alts := [], laidByText := true, laidKinds := [.sentinel], laidTests := true, laidLooks := .later }
def AuditLastUptoCardSaid : Prop := Claim7.holds Tryd.pinned (.plain (OpenSpec.upto auditLastSpec)) auditLastUptoCard

/-- THE SECOND FORM's CARD OF 'plimsolllaw18.AuditApart'. -/
def auditApartUptoCard : Claim7 := { stood := { row := auditApartUptoRow, standIns := [], harness := (true, "35e7403ab91cb1dd5564393e521f2bb402b38fbb63a2a8846c559422764305c8"), looks := true }, kinds := [], alts := [], laidByText := true, laidKinds := [.sentinel], laidTests := true, laidLooks := .later }
def AuditApartUptoCardSaid : Prop := Claim7.holds Tryd.pinned (.plain (OpenSpec.upto auditApartSpec)) auditApartUptoCard

/-- THE SECOND FORM's CARD OF 'plimsolllaw18.AuditSums'. -/
def auditSumsUptoCard : Claim7 := { stood := { row := auditSumsUptoRow, standIns := [], harness := (true, "35e7403ab91cb1dd5564393e521f2bb402b38fbb63a2a8846c559422764305c8"), looks := true }, kinds := [], alts := [], laidByText := true, laidKinds := [.sentinel], laidTests := true, laidLooks := .later }
def AuditSumsUptoCardSaid : Prop := Claim7.holds Tryd.pinned (.plain (OpenSpec.upto auditSumsSpec)) auditSumsUptoCard

/-- THE SECOND FORM's CARD OF 'plimsolllaw18.AuditTen'. -/
def auditTenUptoCard : Claim7 := { stood := { row := auditTenUptoRow, standIns := [], harness := (true, "35e7403ab91cb1dd5564393e521f2bb402b38fbb63a2a8846c559422764305c8"), looks := true }, kinds := [], alts := [], laidByText := true, laidKinds := [.sentinel], laidTests := true, laidLooks := .later }
def AuditTenUptoCardSaid : Prop := Claim7.holds Tryd.pinned (.plain (OpenSpec.upto auditTenSpec)) auditTenUptoCard

/-- THE SECOND FORM's CARD OF 'plimsolllaw18.AuditTells'. -/
def auditTellsUptoCard : Claim7 := { stood := { row := auditTellsUptoRow, standIns := [], harness := (true, "35e7403ab91cb1dd5564393e521f2bb402b38fbb63a2a8846c559422764305c8"), looks := true }, kinds := [], alts := [], laidByText := true, laidKinds := [.sentinel], laidTests := true, laidLooks := .later }
def AuditTellsUptoCardSaid : Prop := Claim7.holds Tryd.pinned (.plain (OpenSpec.upto auditTellsSpec)) auditTellsUptoCard
end Rows
end Go.Proofs.YtdfgedkjilpcgaaDoor
