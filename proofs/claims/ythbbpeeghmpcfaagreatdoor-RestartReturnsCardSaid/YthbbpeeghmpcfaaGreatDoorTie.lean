/-
  DERIVED. GIVEN WITH THE SEED: THE PROGRAM's TIES (one call each: nine closed facts by the kernel) AND EACH ROW's TIE, after the 31st guide's Derived/Test/Toyas{Tie, Card}.lean. No idea stands in it: it is a product of the set-up. Laid BY PROGRAM, IN A SANDBOX (cutbox-door.mjs). By AI agents, Wed Nov 11 2026. No macro, syntax, notation, axiom, sorry.
-/
import Derived.Test.YthbbpeeghmpcfaaGreatDoorRows
import Derived.LaidByTextLater
import Derived.SevenTiedAt
import Derived.LaidSub
import Derived.LaidOnce
namespace Go.Proofs.YthbbpeeghmpcfaaGreatDoor
open Go
set_option maxRecDepth 100000
theorem seatTie1 : Tryz.prog.laidByTextLater [("exchangepoint/attribute.flags", Rows.laid_exchangepoint_attribute_flags), ("exchangepoint/attribute.readers", Rows.laid_exchangepoint_attribute_readers)] [.mapped, .funcs] true :=
  Program.laidByTextLater_by_one 99 8 2 (by kernel_rfl) (by kernel_rfl) (by kernel_rfl) (by kernel_rfl) (by kernel_rfl) (by kernel_rfl) (fun _ _ => by kernel_rfl)
theorem noOwnUnsafe : Tryz.pinned.checked.prog.headLifts.contains "ownunsafe" = false := by kernel_rfl
theorem tie : Tryz.prog.laidByTextLater [("exchangepoint/attribute.flags", Rows.laid_exchangepoint_attribute_flags), ("exchangepoint/attribute.readers", Rows.laid_exchangepoint_attribute_readers)] [.mapped, .funcs] true :=
  Program.laidByTextLater.sub seatTie1 ["exchangepoint/attribute.flags", "exchangepoint/attribute.readers"] (by kernel_rfl) (by kernel_rfl)
theorem restartReturns_row_tie : Rows.restartReturnsRow.laidByTextAt .later Tryz.pinned [.mapped, .funcs] true :=
  OpenClaim.laidByTextAt_later rfl rfl tie noOwnUnsafe
theorem restartReturnsUpto_row_tie : Rows.restartReturnsUptoRow.laidByTextAt .later Tryz.pinned [.mapped, .funcs] true :=
  OpenClaim.laidByTextAt_later rfl rfl tie noOwnUnsafe
end Go.Proofs.YthbbpeeghmpcfaaGreatDoor
