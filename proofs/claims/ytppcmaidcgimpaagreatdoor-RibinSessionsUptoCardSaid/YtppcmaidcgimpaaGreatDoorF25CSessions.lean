/-
  Texts of one proof, packed.
-/
import Derived.Below
import Derived.ChangeOld
import Derived.Deep.DeepHandedRow
import Derived.Deep.DeepWitnessRowRef
import Derived.LaidMore
import Derived.Lay
import Derived.MakeChecks
import Derived.OpenShut
import Derived.ProofKit
import Derived.SevenTiedAt
import Derived.ShutString
import Derived.Test.YtppcmaidcgimpaaGreatDoorCards
import Derived.Test.YtppcmaidcgimpaaGreatDoorRows
import Derived.Test.YtppcmaidcgimpaaGreatDoorTie
import Derived.WalkKit
set_option linter.all false
set_option maxRecDepth 100000
set_option maxHeartbeats 4000000
open List renaming length_map→X6,length_append→X10,length_drop→X16,length_take→X17,length_replicate→X19,length_set→X20
section
namespace Go.Proofs.YtppcmaidcgimpaaGreatDoor.ribinSessions
open Go
theorem card1 : Tryz.prog.mainIs = some ((true, "2a7c648d695288c2a2089ea855bf01ad73ba385e4901d298dd13b77bb45bcca1").1, (true, "2a7c648d695288c2a2089ea855bf01ad73ba385e4901d298dd13b77bb45bcca1").2.toList) := by kernel_rfl
theorem card2:false=Tryz.prog.looks []:=by kernel_rfl
theorem card3:false=Rows.ribinSessionsUptoRow.goesBy Tryz.prog:=by kernel_rfl
end Go.Proofs.YtppcmaidcgimpaaGreatDoor.ribinSessions
end
