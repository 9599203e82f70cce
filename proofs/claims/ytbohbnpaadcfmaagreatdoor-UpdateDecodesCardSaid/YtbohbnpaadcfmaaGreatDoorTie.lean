/-
  DERIVED. GIVEN WITH THE SEED: THE PROGRAM's TIES (one call each: nine closed facts by the kernel) AND EACH ROW's TIE, after the 31st guide's Derived/Test/Toyas{Tie, Card}.lean. No idea stands in it: it is a product of the set-up. Laid BY PROGRAM, IN A SANDBOX (cutbox-door.mjs). By AI agents, Wed Nov 11 2026. No macro, syntax, notation, axiom, sorry.
-/
import Derived.Test.YtbohbnpaadcfmaaGreatDoorRows
import Derived.LaidByTextLater
import Derived.SevenTiedAt
import Derived.LaidSub
import Derived.LaidOnce
namespace Go.Proofs.YtbohbnpaadcfmaaGreatDoor
open Go
set_option maxRecDepth 100000
theorem seatTie1 : Tryz.prog.laidByTextLater [("exchangepoint/attribute.flags", Rows.laid_exchangepoint_attribute_flags), ("exchangepoint/attribute.readers", Rows.laid_exchangepoint_attribute_readers)] [.mapped, .funcs] true :=
  Program.laidByTextLater_by_one 99 8 2 (by kernel_rfl) (by kernel_rfl) (by kernel_rfl) (by kernel_rfl) (by kernel_rfl) (by kernel_rfl) (fun _ _ => by kernel_rfl)
theorem noOwnUnsafe : Tryz.pinned.checked.prog.headLifts.contains "ownunsafe" = false := by kernel_rfl
theorem tie : Tryz.prog.laidByTextLater [("exchangepoint/attribute.flags", Rows.laid_exchangepoint_attribute_flags), ("exchangepoint/attribute.readers", Rows.laid_exchangepoint_attribute_readers)] [.mapped, .funcs] true :=
  Program.laidByTextLater.sub seatTie1 ["exchangepoint/attribute.flags", "exchangepoint/attribute.readers"] (by kernel_rfl) (by kernel_rfl)
theorem updateEncodes_row_tie : Rows.updateEncodesRow.laidByTextAt .later Tryz.pinned [.mapped, .funcs] true :=
  OpenClaim.laidByTextAt_later rfl rfl tie noOwnUnsafe
theorem updateSizes_row_tie : Rows.updateSizesRow.laidByTextAt .later Tryz.pinned [.mapped, .funcs] true :=
  OpenClaim.laidByTextAt_later rfl rfl tie noOwnUnsafe
theorem updateDecodes_row_tie : Rows.updateDecodesRow.laidByTextAt .later Tryz.pinned [.mapped, .funcs] true :=
  OpenClaim.laidByTextAt_later rfl rfl tie noOwnUnsafe
theorem updateAny_row_tie : Rows.updateAnyRow.laidByTextAt .later Tryz.pinned [.mapped, .funcs] true :=
  OpenClaim.laidByTextAt_later rfl rfl tie noOwnUnsafe
theorem updateBroken_row_tie : Rows.updateBrokenRow.laidByTextAt .later Tryz.pinned [.mapped, .funcs] true :=
  OpenClaim.laidByTextAt_later rfl rfl tie noOwnUnsafe
theorem updateBack_row_tie : Rows.updateBackRow.laidByTextAt .later Tryz.pinned [.mapped, .funcs] true :=
  OpenClaim.laidByTextAt_later rfl rfl tie noOwnUnsafe
theorem updateStream_row_tie : Rows.updateStreamRow.laidByTextAt .later Tryz.pinned [.mapped, .funcs] true :=
  OpenClaim.laidByTextAt_later rfl rfl tie noOwnUnsafe
theorem updateFrames_row_tie : Rows.updateFramesRow.laidByTextAt .later Tryz.pinned [.mapped, .funcs] true :=
  OpenClaim.laidByTextAt_later rfl rfl tie noOwnUnsafe
theorem updateCut_row_tie : Rows.updateCutRow.laidByTextAt .later Tryz.pinned [.mapped, .funcs] true :=
  OpenClaim.laidByTextAt_later rfl rfl tie noOwnUnsafe
theorem updateEncodesUpto_row_tie : Rows.updateEncodesUptoRow.laidByTextAt .later Tryz.pinned [.mapped, .funcs] true :=
  OpenClaim.laidByTextAt_later rfl rfl tie noOwnUnsafe
theorem updateSizesUpto_row_tie : Rows.updateSizesUptoRow.laidByTextAt .later Tryz.pinned [.mapped, .funcs] true :=
  OpenClaim.laidByTextAt_later rfl rfl tie noOwnUnsafe
theorem updateDecodesUpto_row_tie : Rows.updateDecodesUptoRow.laidByTextAt .later Tryz.pinned [.mapped, .funcs] true :=
  OpenClaim.laidByTextAt_later rfl rfl tie noOwnUnsafe
theorem updateAnyUpto_row_tie : Rows.updateAnyUptoRow.laidByTextAt .later Tryz.pinned [.mapped, .funcs] true :=
  OpenClaim.laidByTextAt_later rfl rfl tie noOwnUnsafe
theorem updateBrokenUpto_row_tie : Rows.updateBrokenUptoRow.laidByTextAt .later Tryz.pinned [.mapped, .funcs] true :=
  OpenClaim.laidByTextAt_later rfl rfl tie noOwnUnsafe
theorem updateBackUpto_row_tie : Rows.updateBackUptoRow.laidByTextAt .later Tryz.pinned [.mapped, .funcs] true :=
  OpenClaim.laidByTextAt_later rfl rfl tie noOwnUnsafe
theorem updateStreamUpto_row_tie : Rows.updateStreamUptoRow.laidByTextAt .later Tryz.pinned [.mapped, .funcs] true :=
  OpenClaim.laidByTextAt_later rfl rfl tie noOwnUnsafe
theorem updateFramesUpto_row_tie : Rows.updateFramesUptoRow.laidByTextAt .later Tryz.pinned [.mapped, .funcs] true :=
  OpenClaim.laidByTextAt_later rfl rfl tie noOwnUnsafe
theorem updateCutUpto_row_tie : Rows.updateCutUptoRow.laidByTextAt .later Tryz.pinned [.mapped, .funcs] true :=
  OpenClaim.laidByTextAt_later rfl rfl tie noOwnUnsafe
end Go.Proofs.YtbohbnpaadcfmaaGreatDoor
