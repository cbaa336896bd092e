/-
  DERIVED. GIVEN WITH THE SEED: THE CARDS: each row of YthoefkpbijcdeaaDoorRows.lean that lists a variable, with what it lists TIED to the program's text (the seventh form; the later family's looks); each row that meets fmt, with fmt's text TOLD by the authors' own Lean function (tested against real Go, not proved from fmt's source: count such statements apart). THE CARD IS WHAT COUNTS. Prove the row's statement (the work); the ties are given (YthoefkpbijcdeaaDoorTie.lean); close each card by the builder's one call (the guide's Derived/Test/ToyasCard.lean, 'card_holds'). Laid BY PROGRAM, IN A SANDBOX (cutbox-door.mjs). By AI agents, Wed Nov 11 2026. No macro, syntax, notation, axiom, sorry.
-/
import Derived.Test.YthoefkpbijcdeaaDoorRows
import GoSem.ClaimSeven
namespace Go.Proofs.YthoefkpbijcdeaaDoor
namespace Rows

/-- THE TIED CARD OF 'plimsolllaw04.LabcodeBack'. -/
def labcodeBackCard : Claim7 := { stood := { row := labcodeBackRow, standIns := [], harness := (true, "82d7388c699c1f59c478d7b5162bc7ad8aedc7a42c1ff6199c48f7e1ed07bcde"), looks := true }, kinds := [], alts := [], laidByText := true, laidKinds := [.handle, .sentinel, .sentinel, .sentinel, .sentinel], laidTests := true, laidLooks := .later }
def LabcodeBackCardSaid : Prop := Claim7.holds Tryd.pinned (.plain (OpenSpec.ofChange labcodeBackSpec)) labcodeBackCard

/-- THE TIED CARD OF 'plimsolllaw04.LabcodeLists'. -/
def labcodeListsCard : Claim7 := { stood := { row := labcodeListsRow, standIns := [], harness := (true, "82d7388c699c1f59c478d7b5162bc7ad8aedc7a42c1ff6199c48f7e1ed07bcde"), looks := true }, kinds := [], alts := [], laidByText := true, laidKinds := [.handle, .sentinel, .sentinel, .sentinel, .sentinel], laidTests := true, laidLooks := .later }
def LabcodeListsCardSaid : Prop := Claim7.holds Tryd.pinned (.plain (OpenSpec.ofChange labcodeListsSpec)) labcodeListsCard

/-- THE TIED CARD OF 'plimsolllaw04.LabcodeMany'. -/
def labcodeManyCard : Claim7 := { stood := { row := labcodeManyRow, standIns := [], harness := (true, "82d7388c699c1f59c478d7b5162bc7ad8aedc7a42c1ff6199c48f7e1ed07bcde"), looks := true }, kinds := [], alts := [], laidByText := true, laidKinds := [.handle, .sentinel, .sentinel, .sentinel, .sentinel], laidTests := true, laidLooks := .later }
def LabcodeManyCardSaid : Prop := Claim7.holds Tryd.pinned (.plain (OpenSpec.ofChange labcodeManySpec)) labcodeManyCard

/-- THE TIED CARD OF 'plimsolllaw04.LabcodeJoins'. -/
def labcodeJoinsCard : Claim7 := { stood := { row := labcodeJoinsRow, standIns := [], harness := (true, "82d7388c699c1f59c478d7b5162bc7ad8aedc7a42c1ff6199c48f7e1ed07bcde"), looks := true }, kinds := [], alts := [], laidByText := true, laidKinds := [.handle, .sentinel, .sentinel, .sentinel, .sentinel], laidTests := true, laidLooks := .later }
def LabcodeJoinsCardSaid : Prop := Claim7.holds Tryd.pinned (.plain (OpenSpec.ofChange labcodeJoinsSpec)) labcodeJoinsCard

/-- THE TIED CARD OF 'plimsolllaw04.LabcodeCodes'. -/
def labcodeCodesCard : Claim7 := { stood := { row := labcodeCodesRow, standIns := [], harness := (true, "82d7388c699c1f59c478d7b5162bc7ad8aedc7a42c1ff6199c48f7e1ed07bcde"), looks := true }, kinds := [], alts := [], laidByText := true, laidKinds := [.handle, .sentinel, .sentinel, .sentinel, .sentinel], laidTests := true, laidLooks := .later }
def LabcodeCodesCardSaid : Prop := Claim7.holds Tryd.pinned (.plain (OpenSpec.ofChange labcodeCodesSpec)) labcodeCodesCard

/-- THE TIED CARD OF 'plimsolllaw04.LabcodeRanges'. -/
def labcodeRangesCard : Claim7 := { stood := { row := labcodeRangesRow, standIns := [], harness := (true, "82d7388c699c1f59c478d7b5162bc7ad8aedc7a42c1ff6199c48f7e1ed07bcde"), looks := true }, kinds := [], alts := [], laidByText := true, laidKinds := [.handle, .sentinel, .sentinel, .sentinel, .sentinel], laidTests := true, laidLooks := .later }
def LabcodeRangesCardSaid : Prop := Claim7.holds Tryd.pinned (.plain (OpenSpec.ofChange labcodeRangesSpec)) labcodeRangesCard

/-- THE SECOND FORM's CARD OF 'plimsolllaw04.LabcodeBack'. -/
def labcodeBackUptoCard : Claim7 := { stood := { row := labcodeBackUptoRow, standIns := [], harness := (true, "82d7388c699c1f59c478d7b5162bc7ad8aedc7a42c1ff6199c48f7e1ed07bcde"), looks := true }, kinds := [], alts := [], laidByText := true, laidKinds := [.handle, .sentinel, .sentinel, .sentinel, .sentinel], laidTests := true, laidLooks := .later }
def LabcodeBackUptoCardSaid : Prop := Claim7.holds Tryd.pinned (.plain (OpenSpec.upto labcodeBackSpec)) labcodeBackUptoCard

/-- THE SECOND FORM's CARD OF 'plimsolllaw04.LabcodeLists'. -/
def labcodeListsUptoCard : Claim7 := { stood := { row := labcodeListsUptoRow, standIns := [], harness := (true, "82d7388c699c1f59c478d7b5162bc7ad8aedc7a42c1ff6199c48f7e1ed07bcde"), looks := true }, kinds := [], alts := [], laidByText := true, laidKinds := [.handle, .sentinel, .sentinel, .sentinel, .sentinel], laidTests := true, laidLooks := .later }
def LabcodeListsUptoCardSaid : Prop := Claim7.holds Tryd.pinned (.plain (OpenSpec.upto labcodeListsSpec)) labcodeListsUptoCard

/-- THE SECOND FORM's CARD OF 'plimsolllaw04.LabcodeMany'. -/
def labcodeManyUptoCard : Claim7 := { stood := { row := labcodeManyUptoRow, standIns := [], harness := (true, "82d7388c699c1f59c478d7b5162bc7ad8aedc7a42c1ff6199c48f7e1ed07bcde"), looks := true }, kinds := [], alts := [], laidByText := true, laidKinds := [.handle, .sentinel, .sentinel, .sentinel, .sentinel], laidTests := true, laidLooks := .later }
def LabcodeManyUptoCardSaid : Prop := Claim7.holds Tryd.pinned (.plain (OpenSpec.upto labcodeManySpec)) labcodeManyUptoCard

/-- THE SECOND FORM's CARD OF 'plimsolllaw04.LabcodeJoins'. -/
def labcodeJoinsUptoCard : Claim7 := { stood := { row := labcodeJoinsUptoRow, standIns := [], harness := (true, "82d7388c699c1f59c478d7b5162bc7ad8aedc7a42c1ff6199c48f7e1ed07bcde"), looks := true }, kinds := [], alts := [], laidByText := true, laidKinds := [.handle, .sentinel, .sentinel, .sentinel, .sentinel], laidTests := true, laidLooks := .later }
def LabcodeJoinsUptoCardSaid : Prop := Claim7.holds Tryd.pinned (.plain (OpenSpec.upto labcodeJoinsSpec)) labcodeJoinsUptoCard

/-- THE SECOND FORM's CARD OF 'plimsolllaw04.LabcodeCodes'. -/
def labcodeCodesUptoCard : Claim7 := { stood := { row := labcodeCodesUptoRow, standIns := [], harness := (true, "82d7388c699c1f59c478d7b5162bc7ad8aedc7a42c1ff6199c48f7e1ed07bcde"), looks := true }, kinds := [], alts := [], laidByText := true, laidKinds := [.handle, .sentinel, .sentinel, .sentinel, .sentinel], laidTests := true, laidLooks := .later }
def LabcodeCodesUptoCardSaid : Prop := Claim7.holds Tryd.pinned (.plain (OpenSpec.upto labcodeCodesSpec)) labcodeCodesUptoCard

/-- THE SECOND FORM's CARD OF 'plimsolllaw04.LabcodeRanges'. -/
def labcodeRangesUptoCard : Claim7 := { stood := { row := labcodeRangesUptoRow, standIns := [], harness := (true, "82d7388c699c1f59c478d7b5162bc7ad8aedc7a42c1ff6199c48f7e1ed07bcde"), looks := true }, kinds := [], alts := [], laidByText := true, laidKinds := [.handle, .sentinel, .sentinel, .sentinel, .sentinel], laidTests := true, laidLooks := .later }
def LabcodeRangesUptoCardSaid : Prop := Claim7.holds Tryd.pinned (.plain (OpenSpec.upto labcodeRangesSpec)) labcodeRangesUptoCard
end Rows
end Go.Proofs.YthoefkpbijcdeaaDoor
