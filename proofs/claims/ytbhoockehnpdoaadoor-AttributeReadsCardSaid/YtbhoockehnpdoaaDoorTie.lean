/-
  DERIVED. GIVEN WITH THE SEED: THE PROGRAM's TIES (one call each: nine closed facts by the kernel) AND EACH ROW's TIE, after the 31st guide's Derived/Test/Toyas{Tie, Card}.lean. No idea stands in it: it is a product of the set-up. Laid BY PROGRAM, IN A SANDBOX (cutbox-door.mjs). By AI agents, Wed Nov 11 2026. No macro, syntax, notation, axiom, sorry.
-/
import Derived.Test.YtbhoockehnpdoaaDoorRows
import Derived.LaidByTextLater
import Derived.SevenTiedAt
import Derived.LaidSub
import Derived.LaidOnce
namespace Go.Proofs.YtbhoockehnpdoaaDoor
open Go
set_option maxRecDepth 100000
theorem seatTie1 : Tryd.prog.laidByTextLater [("exchangepoint/attribute.flags", Rows.laid_exchangepoint_attribute_flags), ("exchangepoint/attribute.readers", Rows.laid_exchangepoint_attribute_readers)] [.mapped, .funcs] true :=
  Program.laidByTextLater_by_one 99 8 2 (by kernel_rfl) (by kernel_rfl) (by kernel_rfl) (by kernel_rfl) (by kernel_rfl) (by kernel_rfl) (fun _ _ => by kernel_rfl)
theorem noOwnUnsafe : Tryd.pinned.checked.prog.headLifts.contains "ownunsafe" = false := by kernel_rfl
theorem tie : Tryd.prog.laidByTextLater [("exchangepoint/attribute.flags", Rows.laid_exchangepoint_attribute_flags), ("exchangepoint/attribute.readers", Rows.laid_exchangepoint_attribute_readers)] [.mapped, .funcs] true :=
  Program.laidByTextLater.sub seatTie1 ["exchangepoint/attribute.flags", "exchangepoint/attribute.readers"] (by kernel_rfl) (by kernel_rfl)
theorem attributeReads_row_tie : Rows.attributeReadsRow.laidByTextAt .later Tryd.pinned [.mapped, .funcs] true :=
  OpenClaim.laidByTextAt_later rfl rfl tie noOwnUnsafe
theorem attributeAny_row_tie : Rows.attributeAnyRow.laidByTextAt .later Tryd.pinned [.mapped, .funcs] true :=
  OpenClaim.laidByTextAt_later rfl rfl tie noOwnUnsafe
theorem attributeSplits_row_tie : Rows.attributeSplitsRow.laidByTextAt .later Tryd.pinned [.mapped, .funcs] true :=
  OpenClaim.laidByTextAt_later rfl rfl tie noOwnUnsafe
theorem attributeOrder_row_tie : Rows.attributeOrderRow.laidByTextAt .later Tryd.pinned [.mapped, .funcs] true :=
  OpenClaim.laidByTextAt_later rfl rfl tie noOwnUnsafe
theorem attributeFaults_row_tie : Rows.attributeFaultsRow.laidByTextAt .later Tryd.pinned [.mapped, .funcs] true :=
  OpenClaim.laidByTextAt_later rfl rfl tie noOwnUnsafe
theorem attributeBack_row_tie : Rows.attributeBackRow.laidByTextAt .later Tryd.pinned [.mapped, .funcs] true :=
  OpenClaim.laidByTextAt_later rfl rfl tie noOwnUnsafe
theorem attributeReadsUpto_row_tie : Rows.attributeReadsUptoRow.laidByTextAt .later Tryd.pinned [.mapped, .funcs] true :=
  OpenClaim.laidByTextAt_later rfl rfl tie noOwnUnsafe
theorem attributeAnyUpto_row_tie : Rows.attributeAnyUptoRow.laidByTextAt .later Tryd.pinned [.mapped, .funcs] true :=
  OpenClaim.laidByTextAt_later rfl rfl tie noOwnUnsafe
theorem attributeSplitsUpto_row_tie : Rows.attributeSplitsUptoRow.laidByTextAt .later Tryd.pinned [.mapped, .funcs] true :=
  OpenClaim.laidByTextAt_later rfl rfl tie noOwnUnsafe
theorem attributeOrderUpto_row_tie : Rows.attributeOrderUptoRow.laidByTextAt .later Tryd.pinned [.mapped, .funcs] true :=
  OpenClaim.laidByTextAt_later rfl rfl tie noOwnUnsafe
theorem attributeFaultsUpto_row_tie : Rows.attributeFaultsUptoRow.laidByTextAt .later Tryd.pinned [.mapped, .funcs] true :=
  OpenClaim.laidByTextAt_later rfl rfl tie noOwnUnsafe
theorem attributeBackUpto_row_tie : Rows.attributeBackUptoRow.laidByTextAt .later Tryd.pinned [.mapped, .funcs] true :=
  OpenClaim.laidByTextAt_later rfl rfl tie noOwnUnsafe
end Go.Proofs.YtbhoockehnpdoaaDoor
