/-
  Texts of one proof, packed.
-/
import Derived.Below
import Derived.ChangeOld
import Derived.LaidMore
import Derived.Lay
import Derived.MakeChecks
import Derived.OpenShut
import Derived.ProofKit
import Derived.SevenTiedAt
import Derived.ShutString
import Derived.Test.YtgbncopbacigiaaGreatDoorCards
import Derived.Test.YtgbncopbacigiaaGreatDoorRows
import Derived.Test.YtgbncopbacigiaaGreatDoorTie
import Derived.WalkKit
set_option linter.all false
set_option maxRecDepth 100000
set_option maxHeartbeats 4000000
open List renaming length_map→X10,length_append→X11,length_drop→X17,length_take→X18,length_replicate→X20,length_set→X21
section
namespace Go.Proofs.YtgbncopbacigiaaGreatDoor.deltaDiffs
open Go
theorem card1 : Tryz.prog.mainIs = some ((true, "ab68e5efeb99b8cd02b53df60c63752b950a72bee445f04a8d6c9f900b85107f").1, (true, "ab68e5efeb99b8cd02b53df60c63752b950a72bee445f04a8d6c9f900b85107f").2.toList) := by kernel_rfl
theorem card2:false=Tryz.prog.looks []:=by kernel_rfl
theorem card3:false=Rows.deltaDiffsRow.goesBy Tryz.prog:=by kernel_rfl
end Go.Proofs.YtgbncopbacigiaaGreatDoor.deltaDiffs
end
