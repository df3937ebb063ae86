/-
  DERIVED. GIVEN WITH THE SEED: THE PROGRAM's TIES (one call each: nine closed facts by the kernel) AND EACH ROW's TIE, after the 31st guide's Derived/Test/Toyas{Tie, Card}.lean. No idea stands in it: it is a product of the set-up. Laid BY PROGRAM, IN A SANDBOX (cutbox-door.mjs). By AI agents, Wed Nov 11 2026. No macro, syntax, notation, axiom, sorry.
-/
import Derived.Test.YtmdkboojafbpcaaDoorRows
import Derived.LaidByTextLater
import Derived.SevenTiedAt
import Derived.LaidSub
import Derived.LaidOnce
namespace Go.Proofs.YtmdkboojafbpcaaDoor
open Go
set_option maxRecDepth 100000
theorem seatTie1 : Tryd.prog.laidByTextLater [("errors.errorType", Rows.laid_errors_errorType), ("annex/bits.errTrouble", Rows.laid_annex_bits_errTrouble), ("annex/plan.bounds", Rows.laid_annex_plan_bounds)] [.handle, .sentinel, .data] true :=
  Program.laidByTextLater_by_one 48 8 17 (by kernel_rfl) (by kernel_rfl) (by kernel_rfl) (by kernel_rfl) (by kernel_rfl) (by kernel_rfl) (fun _ _ => by kernel_rfl)
theorem noOwnUnsafe : Tryd.pinned.checked.prog.headLifts.contains "ownunsafe" = false := by kernel_rfl
theorem tie : Tryd.prog.laidByTextLater [("errors.errorType", Rows.laid_errors_errorType), ("annex/bits.errTrouble", Rows.laid_annex_bits_errTrouble), ("annex/plan.bounds", Rows.laid_annex_plan_bounds)] [.handle, .sentinel, .data] true :=
  Program.laidByTextLater.sub seatTie1 ["errors.errorType", "annex/bits.errTrouble", "annex/plan.bounds"] (by kernel_rfl) (by kernel_rfl)
theorem planPlans_row_tie : Rows.planPlansRow.laidByTextAt .later Tryd.pinned [.handle, .sentinel, .data] true :=
  OpenClaim.laidByTextAt_later rfl rfl tie noOwnUnsafe
theorem planSupers_row_tie : Rows.planSupersRow.laidByTextAt .later Tryd.pinned [.handle, .sentinel, .data] true :=
  OpenClaim.laidByTextAt_later rfl rfl tie noOwnUnsafe
theorem planReads_row_tie : Rows.planReadsRow.laidByTextAt .later Tryd.pinned [.handle, .sentinel, .data] true :=
  OpenClaim.laidByTextAt_later rfl rfl tie noOwnUnsafe
theorem planWheres_row_tie : Rows.planWheresRow.laidByTextAt .later Tryd.pinned [.handle, .sentinel, .data] true :=
  OpenClaim.laidByTextAt_later rfl rfl tie noOwnUnsafe
theorem planReturns_row_tie : Rows.planReturnsRow.laidByTextAt .later Tryd.pinned [.handle, .sentinel, .data] true :=
  OpenClaim.laidByTextAt_later rfl rfl tie noOwnUnsafe
theorem planOneForm_row_tie : Rows.planOneFormRow.laidByTextAt .later Tryd.pinned [.handle, .sentinel, .data] true :=
  OpenClaim.laidByTextAt_later rfl rfl tie noOwnUnsafe
theorem planRots_row_tie : Rows.planRotsRow.laidByTextAt .later Tryd.pinned [.handle, .sentinel, .data] true :=
  OpenClaim.laidByTextAt_later rfl rfl tie noOwnUnsafe
theorem planCovers_row_tie : Rows.planCoversRow.laidByTextAt .later Tryd.pinned [.handle, .sentinel, .data] true :=
  OpenClaim.laidByTextAt_later rfl rfl tie noOwnUnsafe
theorem planRoom_row_tie : Rows.planRoomRow.laidByTextAt .later Tryd.pinned [.handle, .sentinel, .data] true :=
  OpenClaim.laidByTextAt_later rfl rfl tie noOwnUnsafe
theorem planNewMemory_row_tie : Rows.planNewMemoryRow.laidByTextAt .later Tryd.pinned [.handle, .sentinel, .data] true :=
  OpenClaim.laidByTextAt_later rfl rfl tie noOwnUnsafe
theorem planPlansUpto_row_tie : Rows.planPlansUptoRow.laidByTextAt .later Tryd.pinned [.handle, .sentinel, .data] true :=
  OpenClaim.laidByTextAt_later rfl rfl tie noOwnUnsafe
theorem planSupersUpto_row_tie : Rows.planSupersUptoRow.laidByTextAt .later Tryd.pinned [.handle, .sentinel, .data] true :=
  OpenClaim.laidByTextAt_later rfl rfl tie noOwnUnsafe
theorem planReadsUpto_row_tie : Rows.planReadsUptoRow.laidByTextAt .later Tryd.pinned [.handle, .sentinel, .data] true :=
  OpenClaim.laidByTextAt_later rfl rfl tie noOwnUnsafe
theorem planWheresUpto_row_tie : Rows.planWheresUptoRow.laidByTextAt .later Tryd.pinned [.handle, .sentinel, .data] true :=
  OpenClaim.laidByTextAt_later rfl rfl tie noOwnUnsafe
theorem planReturnsUpto_row_tie : Rows.planReturnsUptoRow.laidByTextAt .later Tryd.pinned [.handle, .sentinel, .data] true :=
  OpenClaim.laidByTextAt_later rfl rfl tie noOwnUnsafe
theorem planOneFormUpto_row_tie : Rows.planOneFormUptoRow.laidByTextAt .later Tryd.pinned [.handle, .sentinel, .data] true :=
  OpenClaim.laidByTextAt_later rfl rfl tie noOwnUnsafe
theorem planRotsUpto_row_tie : Rows.planRotsUptoRow.laidByTextAt .later Tryd.pinned [.handle, .sentinel, .data] true :=
  OpenClaim.laidByTextAt_later rfl rfl tie noOwnUnsafe
theorem planCoversUpto_row_tie : Rows.planCoversUptoRow.laidByTextAt .later Tryd.pinned [.handle, .sentinel, .data] true :=
  OpenClaim.laidByTextAt_later rfl rfl tie noOwnUnsafe
theorem planRoomUpto_row_tie : Rows.planRoomUptoRow.laidByTextAt .later Tryd.pinned [.handle, .sentinel, .data] true :=
  OpenClaim.laidByTextAt_later rfl rfl tie noOwnUnsafe
theorem planNewMemoryUpto_row_tie : Rows.planNewMemoryUptoRow.laidByTextAt .later Tryd.pinned [.handle, .sentinel, .data] true :=
  OpenClaim.laidByTextAt_later rfl rfl tie noOwnUnsafe
end Go.Proofs.YtmdkboojafbpcaaDoor
