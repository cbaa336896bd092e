/-
  DERIVED. GIVEN WITH THE SEED: THE CARDS: each row of YtpfadknajnedoaaDoorRows.lean that lists a variable, with what it lists TIED to the program's text (the seventh form; the later family's looks); each row that meets fmt, with fmt's text TOLD by the authors' own Lean function (tested against real Go, not proved from fmt's source: count such statements apart). THE CARD IS WHAT COUNTS. Prove the row's statement (the work); the ties are given (YtpfadknajnedoaaDoorTie.lean); close each card by the builder's one call (the guide's Derived/Test/ToyasCard.lean, 'card_holds'). Laid BY PROGRAM, IN A SANDBOX (cutbox-door.mjs). By AI agents, Wed Nov 11 2026. No macro, syntax, notation, axiom, sorry.
-/
import Derived.Test.YtpfadknajnedoaaDoorRows
import GoSem.ClaimSeven
namespace Go.Proofs.YtpfadknajnedoaaDoor
namespace Rows

/-- THE TIED CARD OF 'plimsolllaw03.FieldCodes'. -/
def fieldCodesCard : Claim7 := { stood := { row := fieldCodesRow, standIns := [], harness := (true, "c8c0a27d96be948c7b8e149bfc6123fa08506cbd3750604ae164bda16609a8ab"), looks := true }, kinds := [], alts := [], laidByText := true, laidKinds := [.handle, .sentinel, .sentinel, .sentinel], laidTests := true, laidLooks := .later }
def FieldCodesCardSaid : Prop := Claim7.holds Tryd.pinned (.plain (OpenSpec.ofChange fieldCodesSpec)) fieldCodesCard

/-- THE TIED CARD OF 'plimsolllaw03.FieldBack'. -/
def fieldBackCard : Claim7 := { stood := { row := fieldBackRow, standIns := [], harness := (true, "c8c0a27d96be948c7b8e149bfc6123fa08506cbd3750604ae164bda16609a8ab"), looks := true }, kinds := [], alts := [], laidByText := true, laidKinds := [.handle, .sentinel, .sentinel, .sentinel], laidTests := true, laidLooks := .later }
def FieldBackCardSaid : Prop := Claim7.holds Tryd.pinned (.plain (OpenSpec.ofChange fieldBackSpec)) fieldBackCard

/-- THE TIED CARD OF 'plimsolllaw03.FieldTexts'. -/
def fieldTextsCard : Claim7 := { stood := { row := fieldTextsRow, standIns := [], harness := (true, "c8c0a27d96be948c7b8e149bfc6123fa08506cbd3750604ae164bda16609a8ab"), looks := true }, kinds := [], alts := [], laidByText := true, laidKinds := [.handle, .sentinel, .sentinel, .sentinel], laidTests := true, laidLooks := .later }
def FieldTextsCardSaid : Prop := Claim7.holds Tryd.pinned (.plain (OpenSpec.ofChange fieldTextsSpec)) fieldTextsCard

/-- THE TIED CARD OF 'plimsolllaw03.FieldWidths'. -/
def fieldWidthsCard : Claim7 := { stood := { row := fieldWidthsRow, standIns := [], harness := (true, "c8c0a27d96be948c7b8e149bfc6123fa08506cbd3750604ae164bda16609a8ab"), looks := true }, kinds := [], alts := [], laidByText := true, laidKinds := [.handle, .sentinel, .sentinel, .sentinel], laidTests := true, laidLooks := .later }
def FieldWidthsCardSaid : Prop := Claim7.holds Tryd.pinned (.plain (OpenSpec.ofChange fieldWidthsSpec)) fieldWidthsCard

/-- THE TIED CARD OF 'plimsolllaw03.FieldOrders'. -/
def fieldOrdersCard : Claim7 := { stood := { row := fieldOrdersRow, standIns := [], harness := (true, "c8c0a27d96be948c7b8e149bfc6123fa08506cbd3750604ae164bda16609a8ab"), looks := true }, kinds := [], alts := [], laidByText := true, laidKinds := [.handle, .sentinel, .sentinel, .sentinel], laidTests := true, laidLooks := .later }
def FieldOrdersCardSaid : Prop := Claim7.holds Tryd.pinned (.plain (OpenSpec.ofChange fieldOrdersSpec)) fieldOrdersCard

/-- THE TIED CARD OF 'plimsolllaw03.FieldPacks'. -/
def fieldPacksCard : Claim7 := { stood := { row := fieldPacksRow, standIns := [], harness := (true, "c8c0a27d96be948c7b8e149bfc6123fa08506cbd3750604ae164bda16609a8ab"), looks := true }, kinds := [], alts := [], laidByText := true, laidKinds := [.handle, .sentinel, .sentinel, .sentinel], laidTests := true, laidLooks := .later }
def FieldPacksCardSaid : Prop := Claim7.holds Tryd.pinned (.plain (OpenSpec.ofChange fieldPacksSpec)) fieldPacksCard

/-- THE SECOND FORM's CARD OF 'plimsolllaw03.FieldCodes'. -/
def fieldCodesUptoCard : Claim7 := { stood := { row := fieldCodesUptoRow, standIns := [], harness := (true, "c8c0a27d96be948c7b8e149bfc6123fa08506cbd3750604ae164bda16609a8ab"), looks := true }, kinds := [], alts := [], laidByText := true, laidKinds := [.handle, .sentinel, .sentinel, .sentinel], laidTests := true, laidLooks := .later }
def FieldCodesUptoCardSaid : Prop := Claim7.holds Tryd.pinned (.plain (OpenSpec.upto fieldCodesSpec)) fieldCodesUptoCard

/-- THE SECOND FORM's CARD OF 'plimsolllaw03.FieldBack'. -/
def fieldBackUptoCard : Claim7 := { stood := { row := fieldBackUptoRow, standIns := [], harness := (true, "c8c0a27d96be948c7b8e149bfc6123fa08506cbd3750604ae164bda16609a8ab"), looks := true }, kinds := [], alts := [], laidByText := true, laidKinds := [.handle, .sentinel, .sentinel, .sentinel], laidTests := true, laidLooks := .later }
def FieldBackUptoCardSaid : Prop := Claim7.holds Tryd.pinned (.plain (OpenSpec.upto fieldBackSpec)) fieldBackUptoCard

/-- THE SECOND FORM's CARD OF 'plimsolllaw03.FieldTexts'. -/
def fieldTextsUptoCard : Claim7 := { stood := { row := fieldTextsUptoRow, standIns := [], harness := (true, "c8c0a27d96be948c7b8e149bfc6123fa08506cbd3750604ae164bda16609a8ab"), looks := true }, kinds := [], alts := [], laidByText := true, laidKinds := [.handle, .sentinel, .sentinel, .sentinel], laidTests := true, laidLooks := .later }
def FieldTextsUptoCardSaid : Prop := Claim7.holds Tryd.pinned (.plain (OpenSpec.upto fieldTextsSpec)) fieldTextsUptoCard

/-- THE SECOND FORM's CARD OF 'plimsolllaw03.FieldWidths'. -/
def fieldWidthsUptoCard : Claim7 := { stood := { row := fieldWidthsUptoRow, standIns := [], harness := (true, "c8c0a27d96be948c7b8e149bfc6123fa08506cbd3750604ae164bda16609a8ab"), looks := true }, kinds := [], alts := [], laidByText := true, laidKinds := [.handle, .sentinel, .sentinel, .sentinel], laidTests := true, laidLooks := .later }
def FieldWidthsUptoCardSaid : Prop := Claim7.holds Tryd.pinned (.plain (OpenSpec.upto fieldWidthsSpec)) fieldWidthsUptoCard

/-- THE SECOND FORM's CARD OF 'plimsolllaw03.FieldOrders'. -/
def fieldOrdersUptoCard : Claim7 := { stood := { row := fieldOrdersUptoRow, standIns := [], harness := (true, "c8c0a27d96be948c7b8e149bfc6123fa08506cbd3750604ae164bda16609a8ab"), looks := true }, kinds := [], alts := [], laidByText := true, laidKinds := [.handle, .sentinel, .sentinel, .sentinel], laidTests := true, laidLooks := .later }
def FieldOrdersUptoCardSaid : Prop := Claim7.holds Tryd.pinned (.plain (OpenSpec.upto fieldOrdersSpec)) fieldOrdersUptoCard

/-- THE SECOND FORM's CARD OF 'plimsolllaw03.FieldPacks'. -/
def fieldPacksUptoCard : Claim7 := { stood := { row := fieldPacksUptoRow, standIns := [], harness := (true, "c8c0a27d96be948c7b8e149bfc6123fa08506cbd3750604ae164bda16609a8ab"), looks := true }, kinds := [], alts := [], laidByText := true, laidKinds := [.handle, .sentinel, .sentinel, .sentinel], laidTests := true, laidLooks := .later }
def FieldPacksUptoCardSaid : Prop := Claim7.holds Tryd.pinned (.plain (OpenSpec.upto fieldPacksSpec)) fieldPacksUptoCard
end Rows
end Go.Proofs.YtpfadknajnedoaaDoor
