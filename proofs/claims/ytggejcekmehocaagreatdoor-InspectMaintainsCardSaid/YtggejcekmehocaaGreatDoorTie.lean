/-
  DERIVED. GIVEN WITH THE SEED: THE PROGRAM's TIES (one call each: nine closed facts by the kernel) AND EACH ROW's TIE, after the 31st guide's Derived/Test/Toyas{Tie, Card}.lean. No idea stands in it: it is a product of the set-up. Laid BY PROGRAM, IN A SANDBOX (cutbox-door.mjs). By AI agents, Wed Nov 11 2026. No macro, syntax, notation, axiom, sorry.
-/
import Derived.Test.YtggejcekmehocaaGreatDoorRows
import Derived.LaidByTextLater
import Derived.SevenTiedAt
import Derived.LaidSub
import Derived.LaidOnce
namespace Go.Proofs.YtggejcekmehocaaGreatDoor
open Go
set_option maxRecDepth 100000
theorem seatTie1 : Tryz.prog.laidByTextLater [("warehouse/token.words", Rows.laid_warehouse_token_words)] [.widerDeep] true :=
  Program.laidByTextLater_by_one 14 8 9 (by kernel_rfl) (by kernel_rfl) (by kernel_rfl) (by kernel_rfl) (by kernel_rfl) (by kernel_rfl) (fun _ _ => by kernel_rfl)
theorem noOwnUnsafe : Tryz.pinned.checked.prog.headLifts.contains "ownunsafe" = false := by kernel_rfl
theorem tie : Tryz.prog.laidByTextLater [("warehouse/token.words", Rows.laid_warehouse_token_words)] [.widerDeep] true :=
  Program.laidByTextLater.sub seatTie1 ["warehouse/token.words"] (by kernel_rfl) (by kernel_rfl)
theorem inspectBuild_row_tie : Rows.inspectBuildRow.laidByTextAt .later Tryz.pinned [.widerDeep] true :=
  OpenClaim.laidByTextAt_later rfl rfl tie noOwnUnsafe
theorem inspectApply_row_tie : Rows.inspectApplyRow.laidByTextAt .later Tryz.pinned [.widerDeep] true :=
  OpenClaim.laidByTextAt_later rfl rfl tie noOwnUnsafe
theorem inspectMaintains_row_tie : Rows.inspectMaintainsRow.laidByTextAt .later Tryz.pinned [.widerDeep] true :=
  OpenClaim.laidByTextAt_later rfl rfl tie noOwnUnsafe
theorem inspectLeaves_row_tie : Rows.inspectLeavesRow.laidByTextAt .later Tryz.pinned [.widerDeep] true :=
  OpenClaim.laidByTextAt_later rfl rfl tie noOwnUnsafe
theorem inspectBack_row_tie : Rows.inspectBackRow.laidByTextAt .later Tryz.pinned [.widerDeep] true :=
  OpenClaim.laidByTextAt_later rfl rfl tie noOwnUnsafe
theorem checkViolations_row_tie : Rows.checkViolationsRow.laidByTextAt .later Tryz.pinned [.widerDeep] true :=
  OpenClaim.laidByTextAt_later rfl rfl tie noOwnUnsafe
theorem checkReferences_row_tie : Rows.checkReferencesRow.laidByTextAt .later Tryz.pinned [.widerDeep] true :=
  OpenClaim.laidByTextAt_later rfl rfl tie noOwnUnsafe
theorem checkShares_row_tie : Rows.checkSharesRow.laidByTextAt .later Tryz.pinned [.widerDeep] true :=
  OpenClaim.laidByTextAt_later rfl rfl tie noOwnUnsafe
theorem inspectBuildUpto_row_tie : Rows.inspectBuildUptoRow.laidByTextAt .later Tryz.pinned [.widerDeep] true :=
  OpenClaim.laidByTextAt_later rfl rfl tie noOwnUnsafe
theorem inspectApplyUpto_row_tie : Rows.inspectApplyUptoRow.laidByTextAt .later Tryz.pinned [.widerDeep] true :=
  OpenClaim.laidByTextAt_later rfl rfl tie noOwnUnsafe
theorem inspectMaintainsUpto_row_tie : Rows.inspectMaintainsUptoRow.laidByTextAt .later Tryz.pinned [.widerDeep] true :=
  OpenClaim.laidByTextAt_later rfl rfl tie noOwnUnsafe
theorem inspectLeavesUpto_row_tie : Rows.inspectLeavesUptoRow.laidByTextAt .later Tryz.pinned [.widerDeep] true :=
  OpenClaim.laidByTextAt_later rfl rfl tie noOwnUnsafe
theorem inspectBackUpto_row_tie : Rows.inspectBackUptoRow.laidByTextAt .later Tryz.pinned [.widerDeep] true :=
  OpenClaim.laidByTextAt_later rfl rfl tie noOwnUnsafe
theorem checkViolationsUpto_row_tie : Rows.checkViolationsUptoRow.laidByTextAt .later Tryz.pinned [.widerDeep] true :=
  OpenClaim.laidByTextAt_later rfl rfl tie noOwnUnsafe
theorem checkReferencesUpto_row_tie : Rows.checkReferencesUptoRow.laidByTextAt .later Tryz.pinned [.widerDeep] true :=
  OpenClaim.laidByTextAt_later rfl rfl tie noOwnUnsafe
theorem checkSharesUpto_row_tie : Rows.checkSharesUptoRow.laidByTextAt .later Tryz.pinned [.widerDeep] true :=
  OpenClaim.laidByTextAt_later rfl rfl tie noOwnUnsafe
end Go.Proofs.YtggejcekmehocaaGreatDoor
