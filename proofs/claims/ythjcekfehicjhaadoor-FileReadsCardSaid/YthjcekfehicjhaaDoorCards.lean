/-
  DERIVED. GIVEN WITH THE SEED: THE CARDS: each row of YthjcekfehicjhaaDoorRows.lean that lists a variable, with what it lists TIED to the program's text (the seventh form; the later family's looks); each row that meets fmt, with fmt's text TOLD by the authors' own Lean function (tested against real Go, not proved from fmt's source: count such statements apart). THE CARD IS WHAT COUNTS. Prove the row's statement (the work); the ties are given (YthjcekfehicjhaaDoorTie.lean); close each card by the builder's one call (the guide's Derived/Test/ToyasCard.lean, 'card_holds'). Laid BY PROGRAM, IN A SANDBOX (cutbox-door.mjs). By AI agents, Wed Nov 11 2026. No macro, syntax, notation, axiom, sorry.
-/
import Derived.Test.YthjcekfehicjhaaDoorRows
import GoSem.ClaimSeven
namespace Go.Proofs.YthjcekfehicjhaaDoor
namespace Rows

/-- THE TIED CARD OF 'plimsolllaw09.FileCuts'. -/
def fileCutsCard : Claim7 := { stood := { row := fileCutsRow, standIns := [], harness := (true, "1464f6dbad33219df62835eddaf29e1acf9d0732e1918e04ed2ecca85cf007ca"), looks := true }, kinds := [], alts := [], laidByText := true, laidKinds := [.handle], laidTests := true, laidLooks := .later }
def FileCutsCardSaid : Prop := Claim7.holds Tryd.pinned (.plain (OpenSpec.ofChange fileCutsSpec)) fileCutsCard

/-- THE TIED CARD OF 'plimsolllaw09.FileBack'. -/
def fileBackCard : Claim7 := { stood := { row := fileBackRow, standIns := [], harness := (true, "1464f6dbad33219df62835eddaf29e1acf9d0732e1918e04ed2ecca85cf007ca"), looks := true }, kinds := [], alts := [], laidByText := true, laidKinds := [.handle], laidTests := true, laidLooks := .later }
def FileBackCardSaid : Prop := Claim7.holds Tryd.pinned (.plain (OpenSpec.ofChange fileBackSpec)) fileBackCard

/-- THE TIED CARD OF 'plimsolllaw09.FileParts'. -/
def filePartsCard : Claim7 := { stood := { row := filePartsRow, standIns := [], harness := (true, "1464f6dbad33219df62835eddaf29e1acf9d0732e1918e04ed2ecca85cf007ca"), looks := true }, kinds := [], alts := [], laidByText := true, laidKinds := [.handle], laidTests := true, laidLooks := .later }
def FilePartsCardSaid : Prop := Claim7.holds Tryd.pinned (.plain (OpenSpec.ofChange filePartsSpec)) filePartsCard

/-- THE TIED CARD OF 'plimsolllaw09.FileSizes'. -/
def fileSizesCard : Claim7 := { stood := { row := fileSizesRow, standIns := [], harness := (true, "1464f6dbad33219df62835eddaf29e1acf9d0732e1918e04ed2ecca85cf007ca"), looks := true }, kinds := [], alts := [], laidByText := true, laidKinds := [.handle], laidTests := true, laidLooks := .later }
def FileSizesCardSaid : Prop := Claim7.holds Tryd.pinned (.plain (OpenSpec.ofChange fileSizesSpec)) fileSizesCard

/-- THE TIED CARD OF 'plimsolllaw09.FileSplices'. -/
def fileSplicesCard : Claim7 := { stood := { row := fileSplicesRow, standIns := [], harness := (true, "1464f6dbad33219df62835eddaf29e1acf9d0732e1918e04ed2ecca85cf007ca"), looks := true }, kinds := [], alts := [], laidByText := true, laidKinds := [.handle], laidTests := true, laidLooks := .later }
def FileSplicesCardSaid : Prop := Claim7.holds Tryd.pinned (.plain (OpenSpec.ofChange fileSplicesSpec)) fileSplicesCard

/-- THE TIED CARD OF 'plimsolllaw09.FileReads'. -/
def fileReadsCard : Claim7 := { stood := { row := fileReadsRow, standIns := [], harness := (true, "1464f6dbad33219df62835eddaf29e1acf9d0732e1918e04ed2ecca85cf007ca"), looks := true }, kinds := [], alts := [], laidByText := true, laidKinds := [.handle], laidTests := true, laidLooks := .later }
def FileReadsCardSaid : Prop := Claim7.holds Tryd.pinned (.plain (OpenSpec.ofChange fileReadsSpec)) fileReadsCard

/-- THE SECOND FORM's CARD OF 'plimsolllaw09.FileCuts'. -/
def fileCutsUptoCard : Claim7 := { stood := { row := fileCutsUptoRow, standIns := [], harness := (true, "1464f6dbad33219df62835eddaf29e1acf9d0732e1918e04ed2ecca85cf007ca"), looks := true }, kinds := [], alts := [], laidByText := true, laidKinds := [.handle], laidTests := true, laidLooks := .later }
def FileCutsUptoCardSaid : Prop := Claim7.holds Tryd.pinned (.plain (OpenSpec.upto fileCutsSpec)) fileCutsUptoCard

/-- THE SECOND FORM's CARD OF 'plimsolllaw09.FileBack'. -/
def fileBackUptoCard : Claim7 := { stood := { row := fileBackUptoRow, standIns := [], harness := (true, "1464f6dbad33219df62835eddaf29e1acf9d0732e1918e04ed2ecca85cf007ca"), looks := true }, kinds := [], alts := [], laidByText := true, laidKinds := [.handle], laidTests := true, laidLooks := .later }
def FileBackUptoCardSaid : Prop := Claim7.holds Tryd.pinned (.plain (OpenSpec.upto fileBackSpec)) fileBackUptoCard

/-- THE SECOND FORM's CARD OF 'plimsolllaw09.FileParts'. -/
def filePartsUptoCard : Claim7 := { stood := { row := filePartsUptoRow, standIns := [], harness := (true, "1464f6dbad33219df62835eddaf29e1acf9d0732e1918e04ed2ecca85cf007ca"), looks := true }, kinds := [], alts := [], laidByText := true, laidKinds := [.handle], laidTests := true, laidLooks := .later }
def FilePartsUptoCardSaid : Prop := Claim7.holds Tryd.pinned (.plain (OpenSpec.upto filePartsSpec)) filePartsUptoCard

/-- THE SECOND FORM's CARD OF 'plimsolllaw09.FileSizes'. -/
def fileSizesUptoCard : Claim7 := { stood := { row := fileSizesUptoRow, standIns := [], harness := (true, "1464f6dbad33219df62835eddaf29e1acf9d0732e1918e04ed2ecca85cf007ca"), looks := true }, kinds := [], alts := [], laidByText := true, laidKinds := [.handle], laidTests := true, laidLooks := .later }
def FileSizesUptoCardSaid : Prop := Claim7.holds Tryd.pinned (.plain (OpenSpec.upto fileSizesSpec)) fileSizesUptoCard

/-- THE SECOND FORM's CARD OF 'plimsolllaw09.FileSplices'. -/
def fileSplicesUptoCard : Claim7 := { stood := { row := fileSplicesUptoRow, standIns := [], harness := (true, "1464f6dbad33219df62835eddaf29e1acf9d0732e1918e04ed2ecca85cf007ca"), looks := true }, kinds := [], alts := [], laidByText := true, laidKinds := [.handle], laidTests := true, laidLooks := .later }
def FileSplicesUptoCardSaid : Prop := Claim7.holds Tryd.pinned (.plain (OpenSpec.upto fileSplicesSpec)) fileSplicesUptoCard

/-- THE SECOND FORM's CARD OF 'plimsolllaw09.FileReads'. -/
def fileReadsUptoCard : Claim7 := { stood := { row := fileReadsUptoRow, standIns := [], harness := (true, "1464f6dbad33219df62835eddaf29e1acf9d0732e1918e04ed2ecca85cf007ca"), looks := true }, kinds := [], alts := [], laidByText := true, laidKinds := [.handle], laidTests := true, laidLooks := .later }
def FileReadsUptoCardSaid : Prop := Claim7.holds Tryd.pinned (.plain (OpenSpec.upto fileReadsSpec)) fileReadsUptoCard
end Rows
end Go.Proofs.YthjcekfehicjhaaDoor
