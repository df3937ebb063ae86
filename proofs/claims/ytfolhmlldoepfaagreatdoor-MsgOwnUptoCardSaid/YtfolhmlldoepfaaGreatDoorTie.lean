/-
  DERIVED. GIVEN WITH THE SEED: THE PROGRAM's TIES (one call each: nine closed facts by the kernel) AND EACH ROW's TIE, after the 31st guide's Derived/Test/Toyas{Tie, Card}.lean. No idea stands in it: it is a product of the set-up. Laid BY PROGRAM, IN A SANDBOX (cutbox-door.mjs). By AI agents, Wed Nov 11 2026. No macro, syntax, notation, axiom, sorry.
-/
import Derived.Test.YtfolhmlldoepfaaGreatDoorRows
import Derived.LaidByTextLater
import Derived.SevenTiedAt
import Derived.LaidSub
import Derived.LaidOnce
namespace Go.Proofs.YtfolhmlldoepfaaGreatDoor
open Go
set_option maxRecDepth 100000
theorem seatTie1 : Tryz.prog.laidByTextLater [("errors.errorType", Rows.laid_errors_errorType), ("annex/bits.errTrouble", Rows.laid_annex_bits_errTrouble), ("annex/msg.asked", Rows.laid_annex_msg_asked)] [.handle, .sentinel, .data] true :=
  Program.laidByTextLater_by_one 67 8 23 (by kernel_rfl) (by kernel_rfl) (by kernel_rfl) (by kernel_rfl) (by kernel_rfl) (by kernel_rfl) (fun _ _ => by kernel_rfl)
theorem noOwnUnsafe : Tryz.pinned.checked.prog.headLifts.contains "ownunsafe" = false := by kernel_rfl
theorem tie : Tryz.prog.laidByTextLater [("errors.errorType", Rows.laid_errors_errorType), ("annex/bits.errTrouble", Rows.laid_annex_bits_errTrouble), ("annex/msg.asked", Rows.laid_annex_msg_asked)] [.handle, .sentinel, .data] true :=
  Program.laidByTextLater.sub seatTie1 ["errors.errorType", "annex/bits.errTrouble", "annex/msg.asked"] (by kernel_rfl) (by kernel_rfl)
theorem msgChecks_row_tie : Rows.msgChecksRow.laidByTextAt .later Tryz.pinned [.handle, .sentinel, .data] true :=
  OpenClaim.laidByTextAt_later rfl rfl tie noOwnUnsafe
theorem msgEncodes_row_tie : Rows.msgEncodesRow.laidByTextAt .later Tryz.pinned [.handle, .sentinel, .data] true :=
  OpenClaim.laidByTextAt_later rfl rfl tie noOwnUnsafe
theorem msgOneByte_row_tie : Rows.msgOneByteRow.laidByTextAt .later Tryz.pinned [.handle, .sentinel, .data] true :=
  OpenClaim.laidByTextAt_later rfl rfl tie noOwnUnsafe
theorem msgSums_row_tie : Rows.msgSumsRow.laidByTextAt .later Tryz.pinned [.handle, .sentinel, .data] true :=
  OpenClaim.laidByTextAt_later rfl rfl tie noOwnUnsafe
theorem msgUnlike_row_tie : Rows.msgUnlikeRow.laidByTextAt .later Tryz.pinned [.handle, .sentinel, .data] true :=
  OpenClaim.laidByTextAt_later rfl rfl tie noOwnUnsafe
theorem msgOwn_row_tie : Rows.msgOwnRow.laidByTextAt .later Tryz.pinned [.handle, .sentinel, .data] true :=
  OpenClaim.laidByTextAt_later rfl rfl tie noOwnUnsafe
theorem msgDecodes_row_tie : Rows.msgDecodesRow.laidByTextAt .later Tryz.pinned [.handle, .sentinel, .data] true :=
  OpenClaim.laidByTextAt_later rfl rfl tie noOwnUnsafe
theorem msgBack_row_tie : Rows.msgBackRow.laidByTextAt .later Tryz.pinned [.handle, .sentinel, .data] true :=
  OpenClaim.laidByTextAt_later rfl rfl tie noOwnUnsafe
theorem msgOneForm_row_tie : Rows.msgOneFormRow.laidByTextAt .later Tryz.pinned [.handle, .sentinel, .data] true :=
  OpenClaim.laidByTextAt_later rfl rfl tie noOwnUnsafe
theorem msgChecksUpto_row_tie : Rows.msgChecksUptoRow.laidByTextAt .later Tryz.pinned [.handle, .sentinel, .data] true :=
  OpenClaim.laidByTextAt_later rfl rfl tie noOwnUnsafe
theorem msgEncodesUpto_row_tie : Rows.msgEncodesUptoRow.laidByTextAt .later Tryz.pinned [.handle, .sentinel, .data] true :=
  OpenClaim.laidByTextAt_later rfl rfl tie noOwnUnsafe
theorem msgOneByteUpto_row_tie : Rows.msgOneByteUptoRow.laidByTextAt .later Tryz.pinned [.handle, .sentinel, .data] true :=
  OpenClaim.laidByTextAt_later rfl rfl tie noOwnUnsafe
theorem msgSumsUpto_row_tie : Rows.msgSumsUptoRow.laidByTextAt .later Tryz.pinned [.handle, .sentinel, .data] true :=
  OpenClaim.laidByTextAt_later rfl rfl tie noOwnUnsafe
theorem msgUnlikeUpto_row_tie : Rows.msgUnlikeUptoRow.laidByTextAt .later Tryz.pinned [.handle, .sentinel, .data] true :=
  OpenClaim.laidByTextAt_later rfl rfl tie noOwnUnsafe
theorem msgOwnUpto_row_tie : Rows.msgOwnUptoRow.laidByTextAt .later Tryz.pinned [.handle, .sentinel, .data] true :=
  OpenClaim.laidByTextAt_later rfl rfl tie noOwnUnsafe
theorem msgDecodesUpto_row_tie : Rows.msgDecodesUptoRow.laidByTextAt .later Tryz.pinned [.handle, .sentinel, .data] true :=
  OpenClaim.laidByTextAt_later rfl rfl tie noOwnUnsafe
theorem msgBackUpto_row_tie : Rows.msgBackUptoRow.laidByTextAt .later Tryz.pinned [.handle, .sentinel, .data] true :=
  OpenClaim.laidByTextAt_later rfl rfl tie noOwnUnsafe
theorem msgOneFormUpto_row_tie : Rows.msgOneFormUptoRow.laidByTextAt .later Tryz.pinned [.handle, .sentinel, .data] true :=
  OpenClaim.laidByTextAt_later rfl rfl tie noOwnUnsafe
end Go.Proofs.YtfolhmlldoepfaaGreatDoor
