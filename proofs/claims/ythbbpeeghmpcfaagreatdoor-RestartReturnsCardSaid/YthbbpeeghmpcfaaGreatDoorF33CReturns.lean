/-
  Texts of one proof, packed.
-/
import Derived.Below
import Derived.ChangeOld
import Derived.LaidMore
import Derived.Lay
import Derived.MakeChecks
import Derived.OpenShut
import Derived.ProofKit
import Derived.SevenTiedAt
import Derived.ShutString
import Derived.Test.YthbbpeeghmpcfaaGreatDoorCards
import Derived.Test.YthbbpeeghmpcfaaGreatDoorRows
import Derived.Test.YthbbpeeghmpcfaaGreatDoorTie
import Derived.WalkKit
set_option linter.all false
set_option maxRecDepth 100000
set_option maxHeartbeats 4000000
open List renaming length_map→X1,length_append→X2,length_drop→X14,length_take→X15,length_replicate→X17,length_set→X18
section
namespace Go.Proofs.YthbbpeeghmpcfaaGreatDoor.restartReturns
open Go
theorem card1 : Tryz.prog.mainIs = some ((true, "6c64bb26f73ff5080383af58d1610174bdcc4685aa5dcc12bf0b0e805d4b8733").1, (true, "6c64bb26f73ff5080383af58d1610174bdcc4685aa5dcc12bf0b0e805d4b8733").2.toList) := by kernel_rfl
theorem card2:false=Tryz.prog.looks []:=by kernel_rfl
theorem card3:false=Rows.restartReturnsRow.goesBy Tryz.prog:=by kernel_rfl
end Go.Proofs.YthbbpeeghmpcfaaGreatDoor.restartReturns
end
