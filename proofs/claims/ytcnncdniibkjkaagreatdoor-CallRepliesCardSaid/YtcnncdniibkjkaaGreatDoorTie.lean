/-
  DERIVED. GIVEN WITH THE SEED: THE PROGRAM's TIES (one call each: nine closed facts by the kernel) AND EACH ROW's TIE, after the 31st guide's Derived/Test/Toyas{Tie, Card}.lean. No idea stands in it: it is a product of the set-up. Laid BY PROGRAM, IN A SANDBOX (cutbox-door.mjs). By AI agents, Wed Nov 11 2026. No macro, syntax, notation, axiom, sorry.
-/
import Derived.Test.YtcnncdniibkjkaaGreatDoorRows
import Derived.LaidByTextLater
import Derived.SevenTiedAt
import Derived.LaidSub
import Derived.LaidOnce
namespace Go.Proofs.YtcnncdniibkjkaaGreatDoor
open Go
set_option maxRecDepth 100000
theorem seatTie1 : Tryz.prog.laidByTextLater [("errors.errorType", Rows.laid_errors_errorType), ("plimsoll/field.errArg", Rows.laid_plimsoll_field_errArg), ("plimsoll/field.errMore", Rows.laid_plimsoll_field_errMore), ("plimsoll/field.errField", Rows.laid_plimsoll_field_errField), ("plimsoll/labcode.errLabel", Rows.laid_plimsoll_labcode_errLabel)] [.handle, .sentinel, .sentinel, .sentinel, .sentinel] true :=
  Program.laidByTextLater_by_one 92 8 2 (by kernel_rfl) (by kernel_rfl) (by kernel_rfl) (by kernel_rfl) (by kernel_rfl) (by kernel_rfl) (fun _ _ => by kernel_rfl)
theorem noOwnUnsafe : Tryz.pinned.checked.prog.headLifts.contains "ownunsafe" = false := by kernel_rfl
theorem tie : Tryz.prog.laidByTextLater [("errors.errorType", Rows.laid_errors_errorType), ("plimsoll/field.errArg", Rows.laid_plimsoll_field_errArg), ("plimsoll/field.errMore", Rows.laid_plimsoll_field_errMore), ("plimsoll/field.errField", Rows.laid_plimsoll_field_errField), ("plimsoll/labcode.errLabel", Rows.laid_plimsoll_labcode_errLabel)] [.handle, .sentinel, .sentinel, .sentinel, .sentinel] true :=
  Program.laidByTextLater.sub seatTie1 ["errors.errorType", "plimsoll/field.errArg", "plimsoll/field.errMore", "plimsoll/field.errField", "plimsoll/labcode.errLabel"] (by kernel_rfl) (by kernel_rfl)
theorem callCodes_row_tie : Rows.callCodesRow.laidByTextAt .later Tryz.pinned [.handle, .sentinel, .sentinel, .sentinel, .sentinel] true :=
  OpenClaim.laidByTextAt_later rfl rfl tie noOwnUnsafe
theorem callReplies_row_tie : Rows.callRepliesRow.laidByTextAt .later Tryz.pinned [.handle, .sentinel, .sentinel, .sentinel, .sentinel] true :=
  OpenClaim.laidByTextAt_later rfl rfl tie noOwnUnsafe
theorem callCodesUpto_row_tie : Rows.callCodesUptoRow.laidByTextAt .later Tryz.pinned [.handle, .sentinel, .sentinel, .sentinel, .sentinel] true :=
  OpenClaim.laidByTextAt_later rfl rfl tie noOwnUnsafe
theorem callRepliesUpto_row_tie : Rows.callRepliesUptoRow.laidByTextAt .later Tryz.pinned [.handle, .sentinel, .sentinel, .sentinel, .sentinel] true :=
  OpenClaim.laidByTextAt_later rfl rfl tie noOwnUnsafe
end Go.Proofs.YtcnncdniibkjkaaGreatDoor
