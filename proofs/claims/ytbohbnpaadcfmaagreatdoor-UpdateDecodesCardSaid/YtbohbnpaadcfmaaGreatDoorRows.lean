/-
  NARROWER THAN 'FOR EVERY INPUT', by the rows' own cells (each row's printed sentence says how): UpdateEncodes: laid · UpdateSizes: laid · UpdateDecodes: laid · UpdateAny: laid · UpdateBroken: laid · UpdateBack: laid · UpdateStream: laid · UpdateFrames: laid · UpdateCut: laid.
  DERIVED. THE GIVEN ROWS OF THIS SEAT. 9 by the template 'for every input the law returns true; each argument reads behind the call as it read before'; 0 by the template 'total and deterministic' (their statements: YtbohbnpaadcfmaaGreatDoorTotals.lean).
  GIVEN WITH THE SEED: the statements are not yours to turn. If you find one false, say at which input.
  Laid BY PROGRAM, IN A SANDBOX (cutbox-rows.mjs): the forced cells as the released guide's own fill.sh prints them over the translation 6b1c70df8c7a0536… (all of the seat's roots in one cut). By AI agents, Wed Nov 11 2026. No macro, syntax, notation, axiom, sorry.
-/
import Derived.Test.YtbohbnpaadcfmaaGreatDoorChecked
import GoSem.Claim
import GoSem.ClaimJoined
import GoSem.ClaimMapViews
import Derived.JoinedTies
import Derived.KernelRfl
namespace Go.Proofs.YtbohbnpaadcfmaaGreatDoor
/- THE CELL 'sum', in the pinned program and in every row, IS THE sha256 OF THE DUMP (.gsa) THAT YtbohbnpaadcfmaaGreatDoorProg.lean LOADS. Nothing in Lean hashes anything: it is a label: what it is worth is what the hold of that sum in a sandbox is worth. -/
noncomputable def Tryz.pinned : Pinned := { name := "ytbohbnpaadcfmaagreatdoor", sum := "6b1c70df8c7a0536a2a26b02990d224fc361db0a1ca5efd7d1d2271e53981006", checked := Tryz.checked }
namespace Rows
def none {H : Type} : Left H := { results := [], args := [] }

/- WHAT THE LISTED PACKAGE-LEVEL VARIABLES READ AS WHEN THE CALL BEGINS. Each datum BY PROGRAM (the guide's laid-datum.mjs) off the statement by which the dump's own 'gosem.cut.vars' lays the variable. In a bare row this is a premise. The card (YtbohbnpaadcfmaaGreatDoorCards.lean) ties it to the program's text. -/
def laid_exchangepoint_attribute_flags {H : Type} : DataW H := .map [(.int .i64 1, .lit (.int .i64 64)), (.int .i64 2, .lit (.int .i64 64)), (.int .i64 3, .lit (.int .i64 64)), (.int .i64 4, .lit (.int .i64 128)), (.int .i64 5, .lit (.int .i64 64)), (.int .i64 8, .lit (.int .i64 192)), (.int .i64 32, .lit (.int .i64 192)), (.int .i64 35, .lit (.int .i64 192))]
def laid_exchangepoint_attribute_readers {H : Type} : DataW H := .iface "func table" (.map [(.int .i64 1, .iface "func" (.lit (.string [101, 120, 99, 104, 97, 110, 103, 101, 112, 111, 105, 110, 116, 47, 97, 116, 116, 114, 105, 98, 117, 116, 101, 46, 114, 101, 97, 100, 79, 114, 105, 103, 105, 110]))), (.int .i64 2, .iface "func" (.lit (.string [101, 120, 99, 104, 97, 110, 103, 101, 112, 111, 105, 110, 116, 47, 97, 116, 116, 114, 105, 98, 117, 116, 101, 46, 114, 101, 97, 100, 80, 97, 116, 104]))), (.int .i64 3, .iface "func" (.lit (.string [101, 120, 99, 104, 97, 110, 103, 101, 112, 111, 105, 110, 116, 47, 97, 116, 116, 114, 105, 98, 117, 116, 101, 46, 114, 101, 97, 100, 78, 101, 120, 116]))), (.int .i64 4, .iface "func" (.lit (.string [101, 120, 99, 104, 97, 110, 103, 101, 112, 111, 105, 110, 116, 47, 97, 116, 116, 114, 105, 98, 117, 116, 101, 46, 114, 101, 97, 100, 101, 114, 115, 36, 49]))), (.int .i64 5, .iface "func" (.lit (.string [101, 120, 99, 104, 97, 110, 103, 101, 112, 111, 105, 110, 116, 47, 97, 116, 116, 114, 105, 98, 117, 116, 101, 46, 114, 101, 97, 100, 101, 114, 115, 36, 50]))), (.int .i64 8, .iface "func" (.lit (.string [101, 120, 99, 104, 97, 110, 103, 101, 112, 111, 105, 110, 116, 47, 97, 116, 116, 114, 105, 98, 117, 116, 101, 46, 114, 101, 97, 100, 67, 111, 109, 109, 117, 110, 105, 116, 105, 101, 115]))), (.int .i64 32, .iface "func" (.lit (.string [101, 120, 99, 104, 97, 110, 103, 101, 112, 111, 105, 110, 116, 47, 97, 116, 116, 114, 105, 98, 117, 116, 101, 46, 114, 101, 97, 100, 76, 97, 114, 103, 101]))), (.int .i64 35, .iface "func" (.lit (.string [101, 120, 99, 104, 97, 110, 103, 101, 112, 111, 105, 110, 116, 47, 97, 116, 116, 114, 105, 98, 117, 116, 101, 46, 114, 101, 97, 100, 101, 114, 115, 36, 51])))])

/-- 'exchangepointlaw19.UpdateEncodes': WHATEVER THE INPUT: true; the input reads as it did. -/
def updateEncodesSpec : ChangeSpec := { name := "updateEncodes", fn := fun _ => fun
  | [d1, d2, d3] => { results := [.lit (.bool true)], args := [d1, d2, d3] }
  | _ => none }
def updateEncodesRow : OpenClaim := { program := "ytbohbnpaadcfmaagreatdoor", sum := "6b1c70df8c7a0536a2a26b02990d224fc361db0a1ca5efd7d1d2271e53981006", func := "exchangepoint/exchangepointlaw19.UpdateEncodes", spec := "updateEncodes", unfollowed := true, recurses := true, named := ["exchangepoint/attribute.flags", "exchangepoint/attribute.readers"], apart := false, laid := [("exchangepoint/attribute.flags", laid_exchangepoint_attribute_flags), ("exchangepoint/attribute.readers", laid_exchangepoint_attribute_readers)] }
def UpdateEncodesSaid : Prop := updateEncodesRow.holds Tryz.pinned (OpenSpec.ofChange updateEncodesSpec)

/-- ITS FALSE NEIGHBOUR: 'it returns false'. Refute it at one input. -/
def updateEncodesWrong : ChangeSpec := { name := "updateEncodes", fn := fun _ => fun
  | [d1, d2, d3] => { results := [.lit (.bool false)], args := [d1, d2, d3] }
  | _ => none }
def UpdateEncodesWrongFalsely : Prop := updateEncodesRow.holds Tryz.pinned (OpenSpec.ofChange updateEncodesWrong)

/-- 'exchangepointlaw19.UpdateSizes': WHATEVER THE INPUT: true; the input reads as it did. -/
def updateSizesSpec : ChangeSpec := { name := "updateSizes", fn := fun _ => fun
  | [d] => { results := [.lit (.bool true)], args := [d] }
  | _ => none }
def updateSizesRow : OpenClaim := { program := "ytbohbnpaadcfmaagreatdoor", sum := "6b1c70df8c7a0536a2a26b02990d224fc361db0a1ca5efd7d1d2271e53981006", func := "exchangepoint/exchangepointlaw19.UpdateSizes", spec := "updateSizes", unfollowed := true, recurses := true, named := ["exchangepoint/attribute.flags", "exchangepoint/attribute.readers"], apart := false, laid := [("exchangepoint/attribute.flags", laid_exchangepoint_attribute_flags), ("exchangepoint/attribute.readers", laid_exchangepoint_attribute_readers)] }
def UpdateSizesSaid : Prop := updateSizesRow.holds Tryz.pinned (OpenSpec.ofChange updateSizesSpec)

/-- ITS FALSE NEIGHBOUR: 'it returns false'. Refute it at one input. -/
def updateSizesWrong : ChangeSpec := { name := "updateSizes", fn := fun _ => fun
  | [d] => { results := [.lit (.bool false)], args := [d] }
  | _ => none }
def UpdateSizesWrongFalsely : Prop := updateSizesRow.holds Tryz.pinned (OpenSpec.ofChange updateSizesWrong)

/-- 'exchangepointlaw19.UpdateDecodes': WHATEVER THE INPUT: true; the input reads as it did. -/
def updateDecodesSpec : ChangeSpec := { name := "updateDecodes", fn := fun _ => fun
  | [d1, d2, d3, d4] => { results := [.lit (.bool true)], args := [d1, d2, d3, d4] }
  | _ => none }
def updateDecodesRow : OpenClaim := { program := "ytbohbnpaadcfmaagreatdoor", sum := "6b1c70df8c7a0536a2a26b02990d224fc361db0a1ca5efd7d1d2271e53981006", func := "exchangepoint/exchangepointlaw19.UpdateDecodes", spec := "updateDecodes", unfollowed := true, recurses := true, named := ["exchangepoint/attribute.flags", "exchangepoint/attribute.readers"], apart := false, laid := [("exchangepoint/attribute.flags", laid_exchangepoint_attribute_flags), ("exchangepoint/attribute.readers", laid_exchangepoint_attribute_readers)] }
def UpdateDecodesSaid : Prop := updateDecodesRow.holds Tryz.pinned (OpenSpec.ofChange updateDecodesSpec)

/-- ITS FALSE NEIGHBOUR: 'it returns false'. Refute it at one input. -/
def updateDecodesWrong : ChangeSpec := { name := "updateDecodes", fn := fun _ => fun
  | [d1, d2, d3, d4] => { results := [.lit (.bool false)], args := [d1, d2, d3, d4] }
  | _ => none }
def UpdateDecodesWrongFalsely : Prop := updateDecodesRow.holds Tryz.pinned (OpenSpec.ofChange updateDecodesWrong)

/-- 'exchangepointlaw19.UpdateAny': WHATEVER THE INPUT: true; the input reads as it did. -/
def updateAnySpec : ChangeSpec := { name := "updateAny", fn := fun _ => fun
  | [d1, d2, d3, d4] => { results := [.lit (.bool true)], args := [d1, d2, d3, d4] }
  | _ => none }
def updateAnyRow : OpenClaim := { program := "ytbohbnpaadcfmaagreatdoor", sum := "6b1c70df8c7a0536a2a26b02990d224fc361db0a1ca5efd7d1d2271e53981006", func := "exchangepoint/exchangepointlaw19.UpdateAny", spec := "updateAny", unfollowed := true, recurses := true, named := ["exchangepoint/attribute.flags", "exchangepoint/attribute.readers"], apart := false, laid := [("exchangepoint/attribute.flags", laid_exchangepoint_attribute_flags), ("exchangepoint/attribute.readers", laid_exchangepoint_attribute_readers)] }
def UpdateAnySaid : Prop := updateAnyRow.holds Tryz.pinned (OpenSpec.ofChange updateAnySpec)

/-- ITS FALSE NEIGHBOUR: 'it returns false'. Refute it at one input. -/
def updateAnyWrong : ChangeSpec := { name := "updateAny", fn := fun _ => fun
  | [d1, d2, d3, d4] => { results := [.lit (.bool false)], args := [d1, d2, d3, d4] }
  | _ => none }
def UpdateAnyWrongFalsely : Prop := updateAnyRow.holds Tryz.pinned (OpenSpec.ofChange updateAnyWrong)

/-- 'exchangepointlaw19.UpdateBroken': WHATEVER THE INPUT: true; the input reads as it did. -/
def updateBrokenSpec : ChangeSpec := { name := "updateBroken", fn := fun _ => fun
  | [d] => { results := [.lit (.bool true)], args := [d] }
  | _ => none }
def updateBrokenRow : OpenClaim := { program := "ytbohbnpaadcfmaagreatdoor", sum := "6b1c70df8c7a0536a2a26b02990d224fc361db0a1ca5efd7d1d2271e53981006", func := "exchangepoint/exchangepointlaw19.UpdateBroken", spec := "updateBroken", unfollowed := true, recurses := true, named := ["exchangepoint/attribute.flags", "exchangepoint/attribute.readers"], apart := false, laid := [("exchangepoint/attribute.flags", laid_exchangepoint_attribute_flags), ("exchangepoint/attribute.readers", laid_exchangepoint_attribute_readers)] }
def UpdateBrokenSaid : Prop := updateBrokenRow.holds Tryz.pinned (OpenSpec.ofChange updateBrokenSpec)

/-- ITS FALSE NEIGHBOUR: 'it returns false'. Refute it at one input. -/
def updateBrokenWrong : ChangeSpec := { name := "updateBroken", fn := fun _ => fun
  | [d] => { results := [.lit (.bool false)], args := [d] }
  | _ => none }
def UpdateBrokenWrongFalsely : Prop := updateBrokenRow.holds Tryz.pinned (OpenSpec.ofChange updateBrokenWrong)

/-- 'exchangepointlaw19.UpdateBack': WHATEVER THE INPUT: true; the input reads as it did. -/
def updateBackSpec : ChangeSpec := { name := "updateBack", fn := fun _ => fun
  | [d] => { results := [.lit (.bool true)], args := [d] }
  | _ => none }
def updateBackRow : OpenClaim := { program := "ytbohbnpaadcfmaagreatdoor", sum := "6b1c70df8c7a0536a2a26b02990d224fc361db0a1ca5efd7d1d2271e53981006", func := "exchangepoint/exchangepointlaw19.UpdateBack", spec := "updateBack", unfollowed := true, recurses := true, named := ["exchangepoint/attribute.flags", "exchangepoint/attribute.readers"], apart := false, laid := [("exchangepoint/attribute.flags", laid_exchangepoint_attribute_flags), ("exchangepoint/attribute.readers", laid_exchangepoint_attribute_readers)] }
def UpdateBackSaid : Prop := updateBackRow.holds Tryz.pinned (OpenSpec.ofChange updateBackSpec)

/-- ITS FALSE NEIGHBOUR: 'it returns false'. Refute it at one input. -/
def updateBackWrong : ChangeSpec := { name := "updateBack", fn := fun _ => fun
  | [d] => { results := [.lit (.bool false)], args := [d] }
  | _ => none }
def UpdateBackWrongFalsely : Prop := updateBackRow.holds Tryz.pinned (OpenSpec.ofChange updateBackWrong)

/-- 'exchangepointlaw19.UpdateStream': WHATEVER THE INPUT: true; the input reads as it did. -/
def updateStreamSpec : ChangeSpec := { name := "updateStream", fn := fun _ => fun
  | [d1, d2, d3] => { results := [.lit (.bool true)], args := [d1, d2, d3] }
  | _ => none }
def updateStreamRow : OpenClaim := { program := "ytbohbnpaadcfmaagreatdoor", sum := "6b1c70df8c7a0536a2a26b02990d224fc361db0a1ca5efd7d1d2271e53981006", func := "exchangepoint/exchangepointlaw19.UpdateStream", spec := "updateStream", inPlace := ["internal/bytealg.MakeNoZero"], unfollowed := true, recurses := true, named := ["exchangepoint/attribute.flags", "exchangepoint/attribute.readers"], apart := false, laid := [("exchangepoint/attribute.flags", laid_exchangepoint_attribute_flags), ("exchangepoint/attribute.readers", laid_exchangepoint_attribute_readers)] }
def UpdateStreamSaid : Prop := updateStreamRow.holds Tryz.pinned (OpenSpec.ofChange updateStreamSpec)

/-- ITS FALSE NEIGHBOUR: 'it returns false'. Refute it at one input. -/
def updateStreamWrong : ChangeSpec := { name := "updateStream", fn := fun _ => fun
  | [d1, d2, d3] => { results := [.lit (.bool false)], args := [d1, d2, d3] }
  | _ => none }
def UpdateStreamWrongFalsely : Prop := updateStreamRow.holds Tryz.pinned (OpenSpec.ofChange updateStreamWrong)

/-- 'exchangepointlaw19.UpdateFrames': WHATEVER THE INPUT: true; the input reads as it did. -/
def updateFramesSpec : ChangeSpec := { name := "updateFrames", fn := fun _ => fun
  | [d1, d2, d3, d4, d5] => { results := [.lit (.bool true)], args := [d1, d2, d3, d4, d5] }
  | _ => none }
def updateFramesRow : OpenClaim := { program := "ytbohbnpaadcfmaagreatdoor", sum := "6b1c70df8c7a0536a2a26b02990d224fc361db0a1ca5efd7d1d2271e53981006", func := "exchangepoint/exchangepointlaw19.UpdateFrames", spec := "updateFrames", inPlace := ["internal/bytealg.MakeNoZero"], unfollowed := true, recurses := true, named := ["exchangepoint/attribute.flags", "exchangepoint/attribute.readers"], apart := false, laid := [("exchangepoint/attribute.flags", laid_exchangepoint_attribute_flags), ("exchangepoint/attribute.readers", laid_exchangepoint_attribute_readers)] }
def UpdateFramesSaid : Prop := updateFramesRow.holds Tryz.pinned (OpenSpec.ofChange updateFramesSpec)

/-- ITS FALSE NEIGHBOUR: 'it returns false'. Refute it at one input. -/
def updateFramesWrong : ChangeSpec := { name := "updateFrames", fn := fun _ => fun
  | [d1, d2, d3, d4, d5] => { results := [.lit (.bool false)], args := [d1, d2, d3, d4, d5] }
  | _ => none }
def UpdateFramesWrongFalsely : Prop := updateFramesRow.holds Tryz.pinned (OpenSpec.ofChange updateFramesWrong)

/-- 'exchangepointlaw19.UpdateCut': WHATEVER THE INPUT: true; the input reads as it did. -/
def updateCutSpec : ChangeSpec := { name := "updateCut", fn := fun _ => fun
  | [d1, d2, d3, d4, d5] => { results := [.lit (.bool true)], args := [d1, d2, d3, d4, d5] }
  | _ => none }
def updateCutRow : OpenClaim := { program := "ytbohbnpaadcfmaagreatdoor", sum := "6b1c70df8c7a0536a2a26b02990d224fc361db0a1ca5efd7d1d2271e53981006", func := "exchangepoint/exchangepointlaw19.UpdateCut", spec := "updateCut", inPlace := ["internal/bytealg.MakeNoZero"], unfollowed := true, recurses := true, named := ["exchangepoint/attribute.flags", "exchangepoint/attribute.readers"], apart := false, laid := [("exchangepoint/attribute.flags", laid_exchangepoint_attribute_flags), ("exchangepoint/attribute.readers", laid_exchangepoint_attribute_readers)] }
def UpdateCutSaid : Prop := updateCutRow.holds Tryz.pinned (OpenSpec.ofChange updateCutSpec)

/-- ITS FALSE NEIGHBOUR: 'it returns false'. Refute it at one input. -/
def updateCutWrong : ChangeSpec := { name := "updateCut", fn := fun _ => fun
  | [d1, d2, d3, d4, d5] => { results := [.lit (.bool false)], args := [d1, d2, d3, d4, d5] }
  | _ => none }
def UpdateCutWrongFalsely : Prop := updateCutRow.holds Tryz.pinned (OpenSpec.ofChange updateCutWrong)

/- THE SECOND FORM. 'bulk': how many values and letters a reading holds, each counted each time it is reached (what is shared counts as often as it is met; a slice's spare places count too). A statement '..UptoSaid' is the law's where the arguments, and the package variables that the reading takes, are together of bulk at most 1048576: NARROWER than '..Said'. Prove '..Said' where nothing that the law and all that it calls make is longer than what came in: it says more and counts as full. Else prove '..UptoSaid'. A law counts once. -/
mutual
def uptoBulk {H : Type} : DataW H → Nat
  | .lit (.string bytes) => bytes.length + 1
  | .lit _ => 1
  | .nil => 1
  | .ptr d => uptoBulk d + 1
  | .slice elems spare => uptoBulkAll elems + uptoBulkAll spare + 1
  | .agg parts => uptoBulkAll parts + 1
  | .iface _ d => uptoBulk d + 1
  | .map entries => uptoBulkEntries entries + 1
  | .held _ => 1
def uptoBulkAll {H : Type} : List (DataW H) → Nat
  | [] => 0
  | d :: r => uptoBulk d + uptoBulkAll r
def uptoBulkEntries {H : Type} : List (Lit × DataW H) → Nat
  | [] => 0
  | x :: r => uptoBulkEntry x + uptoBulkEntries r
def uptoBulkEntry {H : Type} : Lit × DataW H → Nat
  | (.string bytes, d) => bytes.length + uptoBulk d + 1
  | (_, d) => uptoBulk d + 1
 end
def uptoSmall : (H : Type) → List (DataW H) → Bool := fun _ ds => decide (uptoBulkAll ds ≤ 1048576)
def OpenSpec.upto (s : _root_.Go.ChangeSpec) : _root_.Go.OpenSpec := { _root_.Go.OpenSpec.ofChange s with cond := some uptoSmall }

/-- 'exchangepointlaw19.UpdateEncodes', WHERE WHAT IT READS IS OF BULK AT MOST 1048576: true; the input reads as it did. -/
def updateEncodesUptoRow : OpenClaim := { program := "ytbohbnpaadcfmaagreatdoor", sum := "6b1c70df8c7a0536a2a26b02990d224fc361db0a1ca5efd7d1d2271e53981006", func := "exchangepoint/exchangepointlaw19.UpdateEncodes", spec := "updateEncodes", unfollowed := true, recurses := true, named := ["exchangepoint/attribute.flags", "exchangepoint/attribute.readers"], apart := false, laid := [("exchangepoint/attribute.flags", laid_exchangepoint_attribute_flags), ("exchangepoint/attribute.readers", laid_exchangepoint_attribute_readers)], narrowed := true }
def UpdateEncodesUptoSaid : Prop := updateEncodesUptoRow.holds Tryz.pinned (OpenSpec.upto updateEncodesSpec)

/-- 'exchangepointlaw19.UpdateSizes', WHERE WHAT IT READS IS OF BULK AT MOST 1048576: true; the input reads as it did. -/
def updateSizesUptoRow : OpenClaim := { program := "ytbohbnpaadcfmaagreatdoor", sum := "6b1c70df8c7a0536a2a26b02990d224fc361db0a1ca5efd7d1d2271e53981006", func := "exchangepoint/exchangepointlaw19.UpdateSizes", spec := "updateSizes", unfollowed := true, recurses := true, named := ["exchangepoint/attribute.flags", "exchangepoint/attribute.readers"], apart := false, laid := [("exchangepoint/attribute.flags", laid_exchangepoint_attribute_flags), ("exchangepoint/attribute.readers", laid_exchangepoint_attribute_readers)], narrowed := true }
def UpdateSizesUptoSaid : Prop := updateSizesUptoRow.holds Tryz.pinned (OpenSpec.upto updateSizesSpec)

/-- 'exchangepointlaw19.UpdateDecodes', WHERE WHAT IT READS IS OF BULK AT MOST 1048576: true; the input reads as it did. -/
def updateDecodesUptoRow : OpenClaim := { program := "ytbohbnpaadcfmaagreatdoor", sum := "6b1c70df8c7a0536a2a26b02990d224fc361db0a1ca5efd7d1d2271e53981006", func := "exchangepoint/exchangepointlaw19.UpdateDecodes", spec := "updateDecodes", unfollowed := true, recurses := true, named := ["exchangepoint/attribute.flags", "exchangepoint/attribute.readers"], apart := false, laid := [("exchangepoint/attribute.flags", laid_exchangepoint_attribute_flags), ("exchangepoint/attribute.readers", laid_exchangepoint_attribute_readers)], narrowed := true }
def UpdateDecodesUptoSaid : Prop := updateDecodesUptoRow.holds Tryz.pinned (OpenSpec.upto updateDecodesSpec)

/-- 'exchangepointlaw19.UpdateAny', WHERE WHAT IT READS IS OF BULK AT MOST 1048576: true; the input reads as it did. -/
def updateAnyUptoRow : OpenClaim := { program := "ytbohbnpaadcfmaagreatdoor", sum := "6b1c70df8c7a0536a2a26b02990d224fc361db0a1ca5efd7d1d2271e53981006", func := "exchangepoint/exchangepointlaw19.UpdateAny", spec := "updateAny", unfollowed := true, recurses := true, named := ["exchangepoint/attribute.flags", "exchangepoint/attribute.readers"], apart := false, laid := [("exchangepoint/attribute.flags", laid_exchangepoint_attribute_flags), ("exchangepoint/attribute.readers", laid_exchangepoint_attribute_readers)], narrowed := true }
def UpdateAnyUptoSaid : Prop := updateAnyUptoRow.holds Tryz.pinned (OpenSpec.upto updateAnySpec)

/-- 'exchangepointlaw19.UpdateBroken', WHERE WHAT IT READS IS OF BULK AT MOST 1048576: true; the input reads as it did. -/
def updateBrokenUptoRow : OpenClaim := { program := "ytbohbnpaadcfmaagreatdoor", sum := "6b1c70df8c7a0536a2a26b02990d224fc361db0a1ca5efd7d1d2271e53981006", func := "exchangepoint/exchangepointlaw19.UpdateBroken", spec := "updateBroken", unfollowed := true, recurses := true, named := ["exchangepoint/attribute.flags", "exchangepoint/attribute.readers"], apart := false, laid := [("exchangepoint/attribute.flags", laid_exchangepoint_attribute_flags), ("exchangepoint/attribute.readers", laid_exchangepoint_attribute_readers)], narrowed := true }
def UpdateBrokenUptoSaid : Prop := updateBrokenUptoRow.holds Tryz.pinned (OpenSpec.upto updateBrokenSpec)

/-- 'exchangepointlaw19.UpdateBack', WHERE WHAT IT READS IS OF BULK AT MOST 1048576: true; the input reads as it did. -/
def updateBackUptoRow : OpenClaim := { program := "ytbohbnpaadcfmaagreatdoor", sum := "6b1c70df8c7a0536a2a26b02990d224fc361db0a1ca5efd7d1d2271e53981006", func := "exchangepoint/exchangepointlaw19.UpdateBack", spec := "updateBack", unfollowed := true, recurses := true, named := ["exchangepoint/attribute.flags", "exchangepoint/attribute.readers"], apart := false, laid := [("exchangepoint/attribute.flags", laid_exchangepoint_attribute_flags), ("exchangepoint/attribute.readers", laid_exchangepoint_attribute_readers)], narrowed := true }
def UpdateBackUptoSaid : Prop := updateBackUptoRow.holds Tryz.pinned (OpenSpec.upto updateBackSpec)

/-- 'exchangepointlaw19.UpdateStream', WHERE WHAT IT READS IS OF BULK AT MOST 1048576: true; the input reads as it did. -/
def updateStreamUptoRow : OpenClaim := { program := "ytbohbnpaadcfmaagreatdoor", sum := "6b1c70df8c7a0536a2a26b02990d224fc361db0a1ca5efd7d1d2271e53981006", func := "exchangepoint/exchangepointlaw19.UpdateStream", spec := "updateStream", inPlace := ["internal/bytealg.MakeNoZero"], unfollowed := true, recurses := true, named := ["exchangepoint/attribute.flags", "exchangepoint/attribute.readers"], apart := false, laid := [("exchangepoint/attribute.flags", laid_exchangepoint_attribute_flags), ("exchangepoint/attribute.readers", laid_exchangepoint_attribute_readers)], narrowed := true }
def UpdateStreamUptoSaid : Prop := updateStreamUptoRow.holds Tryz.pinned (OpenSpec.upto updateStreamSpec)

/-- 'exchangepointlaw19.UpdateFrames', WHERE WHAT IT READS IS OF BULK AT MOST 1048576: true; the input reads as it did. -/
def updateFramesUptoRow : OpenClaim := { program := "ytbohbnpaadcfmaagreatdoor", sum := "6b1c70df8c7a0536a2a26b02990d224fc361db0a1ca5efd7d1d2271e53981006", func := "exchangepoint/exchangepointlaw19.UpdateFrames", spec := "updateFrames", inPlace := ["internal/bytealg.MakeNoZero"], unfollowed := true, recurses := true, named := ["exchangepoint/attribute.flags", "exchangepoint/attribute.readers"], apart := false, laid := [("exchangepoint/attribute.flags", laid_exchangepoint_attribute_flags), ("exchangepoint/attribute.readers", laid_exchangepoint_attribute_readers)], narrowed := true }
def UpdateFramesUptoSaid : Prop := updateFramesUptoRow.holds Tryz.pinned (OpenSpec.upto updateFramesSpec)

/-- 'exchangepointlaw19.UpdateCut', WHERE WHAT IT READS IS OF BULK AT MOST 1048576: true; the input reads as it did. -/
def updateCutUptoRow : OpenClaim := { program := "ytbohbnpaadcfmaagreatdoor", sum := "6b1c70df8c7a0536a2a26b02990d224fc361db0a1ca5efd7d1d2271e53981006", func := "exchangepoint/exchangepointlaw19.UpdateCut", spec := "updateCut", inPlace := ["internal/bytealg.MakeNoZero"], unfollowed := true, recurses := true, named := ["exchangepoint/attribute.flags", "exchangepoint/attribute.readers"], apart := false, laid := [("exchangepoint/attribute.flags", laid_exchangepoint_attribute_flags), ("exchangepoint/attribute.readers", laid_exchangepoint_attribute_readers)], narrowed := true }
def UpdateCutUptoSaid : Prop := updateCutUptoRow.holds Tryz.pinned (OpenSpec.upto updateCutSpec)

end Rows
end Go.Proofs.YtbohbnpaadcfmaaGreatDoor
