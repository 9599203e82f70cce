/-
  DERIVED. GIVEN WITH THE SEED: THE CARDS: each row of YtbohbnpaadcfmaaGreatDoorRows.lean that lists a variable, with what it lists TIED to the program's text (the seventh form; the later family's looks); each row that meets fmt, with fmt's text TOLD by the authors' own Lean function (tested against real Go, not proved from fmt's source: count such statements apart). THE CARD IS WHAT COUNTS. Prove the row's statement (the work); the ties are given (YtbohbnpaadcfmaaGreatDoorTie.lean); close each card by the builder's one call (the guide's Derived/Test/ToyasCard.lean, 'card_holds'). Laid BY PROGRAM, IN A SANDBOX (cutbox-door.mjs). By AI agents, Wed Nov 11 2026. No macro, syntax, notation, axiom, sorry.
-/
import Derived.Test.YtbohbnpaadcfmaaGreatDoorRows
import GoSem.ClaimSeven
namespace Go.Proofs.YtbohbnpaadcfmaaGreatDoor
namespace Rows

/-- THE TIED CARD OF 'exchangepointlaw19.UpdateEncodes'. -/
def updateEncodesCard : Claim7 := { stood := { row := updateEncodesRow, standIns := [], harness := (true, "4d14b10b716c4aff8c8928ee5b61c1fa8e9c3f2440ff595c943cb71bf99dc993"), looks := false }, kinds := [], alts := [], laidByText := true, laidKinds := [.mapped, .funcs], laidTests := true, laidLooks := .later }
def UpdateEncodesCardSaid : Prop := Claim7.holds Tryz.pinned (.plain (OpenSpec.ofChange updateEncodesSpec)) updateEncodesCard

/-- THE TIED CARD OF 'exchangepointlaw19.UpdateSizes'. -/
def updateSizesCard : Claim7 := { stood := { row := updateSizesRow, standIns := [], harness := (true, "4d14b10b716c4aff8c8928ee5b61c1fa8e9c3f2440ff595c943cb71bf99dc993"), looks := false }, kinds := [], alts := [], laidByText := true, laidKinds := [.mapped, .funcs], laidTests := true, laidLooks := .later }
def UpdateSizesCardSaid : Prop := Claim7.holds Tryz.pinned (.plain (OpenSpec.ofChange updateSizesSpec)) updateSizesCard

/-- THE TIED CARD OF 'exchangepointlaw19.UpdateDecodes'. -/
def updateDecodesCard : Claim7 := { stood := { row := updateDecodesRow, standIns := [], harness := (true, "4d14b10b716c4aff8c8928ee5b61c1fa8e9c3f2440ff595c943cb71bf99dc993"), looks := false }, kinds := [], alts := [], laidByText := true, laidKinds := [.mapped, .funcs], laidTests := true, laidLooks := .later }
def UpdateDecodesCardSaid : Prop := Claim7.holds Tryz.pinned (.plain (OpenSpec.ofChange updateDecodesSpec)) updateDecodesCard

/-- THE TIED CARD OF 'exchangepointlaw19.UpdateAny'. -/
def updateAnyCard : Claim7 := { stood := { row := updateAnyRow, standIns := [], harness := (true, "4d14b10b716c4aff8c8928ee5b61c1fa8e9c3f2440ff595c943cb71bf99dc993"), looks := false }, kinds := [], alts := [], laidByText := true, laidKinds := [.mapped, .funcs], laidTests := true, laidLooks := .later }
def UpdateAnyCardSaid : Prop := Claim7.holds Tryz.pinned (.plain (OpenSpec.ofChange updateAnySpec)) updateAnyCard

/-- THE TIED CARD OF 'exchangepointlaw19.UpdateBroken'. -/
def updateBrokenCard : Claim7 := { stood := { row := updateBrokenRow, standIns := [], harness := (true, "4d14b10b716c4aff8c8928ee5b61c1fa8e9c3f2440ff595c943cb71bf99dc993"), looks := false }, kinds := [], alts := [], laidByText := true, laidKinds := [.mapped, .funcs], laidTests := true, laidLooks := .later }
def UpdateBrokenCardSaid : Prop := Claim7.holds Tryz.pinned (.plain (OpenSpec.ofChange updateBrokenSpec)) updateBrokenCard

/-- THE TIED CARD OF 'exchangepointlaw19.UpdateBack'. -/
def updateBackCard : Claim7 := { stood := { row := updateBackRow, standIns := [], harness := (true, "4d14b10b716c4aff8c8928ee5b61c1fa8e9c3f2440ff595c943cb71bf99dc993"), looks := false }, kinds := [], alts := [], laidByText := true, laidKinds := [.mapped, .funcs], laidTests := true, laidLooks := .later }
def UpdateBackCardSaid : Prop := Claim7.holds Tryz.pinned (.plain (OpenSpec.ofChange updateBackSpec)) updateBackCard

/-- THE TIED CARD OF 'exchangepointlaw19.UpdateStream'. -/
def updateStreamCard : Claim7 := { stood := { row := updateStreamRow, standIns := [], harness := (true, "4d14b10b716c4aff8c8928ee5b61c1fa8e9c3f2440ff595c943cb71bf99dc993"), looks := false }, kinds := [], alts := [], laidByText := true, laidKinds := [.mapped, .funcs], laidTests := true, laidLooks := .later }
def UpdateStreamCardSaid : Prop := Claim7.holds Tryz.pinned (.plain (OpenSpec.ofChange updateStreamSpec)) updateStreamCard

/-- THE TIED CARD OF 'exchangepointlaw19.UpdateFrames'. -/
def updateFramesCard : Claim7 := { stood := { row := updateFramesRow, standIns := [], harness := (true, "4d14b10b716c4aff8c8928ee5b61c1fa8e9c3f2440ff595c943cb71bf99dc993"), looks := false }, kinds := [], alts := [], laidByText := true, laidKinds := [.mapped, .funcs], laidTests := true, laidLooks := .later }
def UpdateFramesCardSaid : Prop := Claim7.holds Tryz.pinned (.plain (OpenSpec.ofChange updateFramesSpec)) updateFramesCard

/-- THE TIED CARD OF 'exchangepointlaw19.UpdateCut'. -/
def updateCutCard : Claim7 := { stood := { row := updateCutRow, standIns := [], harness := (true, "4d14b10b716c4aff8c8928ee5b61c1fa8e9c3f2440ff595c943cb71bf99dc993"), looks := false }, kinds := [], alts := [], laidByText := true, laidKinds := [.mapped, .funcs], laidTests := true, laidLooks := .later }
def UpdateCutCardSaid : Prop := Claim7.holds Tryz.pinned (.plain (OpenSpec.ofChange updateCutSpec)) updateCutCard

/-- THE SECOND FORM's CARD OF 'exchangepointlaw19.UpdateEncodes'. -/
def updateEncodesUptoCard : Claim7 := { stood := { row := updateEncodesUptoRow, standIns := [], harness := (true, "4d14b10b716c4aff8c8928ee5b61c1fa8e9c3f2440ff595c943cb71bf99dc993"), looks := false }, kinds := [], alts := [], laidByText := true, laidKinds := [.mapped, .funcs], laidTests := true, laidLooks := .later }
def UpdateEncodesUptoCardSaid : Prop := Claim7.holds Tryz.pinned (.plain (OpenSpec.upto updateEncodesSpec)) updateEncodesUptoCard

/-- THE SECOND FORM's CARD OF 'exchangepointlaw19.UpdateSizes'. -/
def updateSizesUptoCard : Claim7 := { stood := { row := updateSizesUptoRow, standIns := [], harness := (true, "4d14b10b716c4aff8c8928ee5b61c1fa8e9c3f2440ff595c943cb71bf99dc993"), looks := false }, kinds := [], alts := [], laidByText := true, laidKinds := [.mapped, .funcs], laidTests := true, laidLooks := .later }
def UpdateSizesUptoCardSaid : Prop := Claim7.holds Tryz.pinned (.plain (OpenSpec.upto updateSizesSpec)) updateSizesUptoCard

/-- THE SECOND FORM's CARD OF 'exchangepointlaw19.UpdateDecodes'. -/
def updateDecodesUptoCard : Claim7 := { stood := { row := updateDecodesUptoRow, standIns := [], harness := (true, "4d14b10b716c4aff8c8928ee5b61c1fa8e9c3f2440ff595c943cb71bf99dc993"), looks := false }, kinds := [], alts := [], laidByText := true, laidKinds := [.mapped, .funcs], laidTests := true, laidLooks := .later }
def UpdateDecodesUptoCardSaid : Prop := Claim7.holds Tryz.pinned (.plain (OpenSpec.upto updateDecodesSpec)) updateDecodesUptoCard

/-- THE SECOND FORM's CARD OF 'exchangepointlaw19.UpdateAny'. -/
def updateAnyUptoCard : Claim7 := { stood := { row := updateAnyUptoRow, standIns := [], harness := (true, "4d14b10b716c4aff8c8928ee5b61c1fa8e9c3f2440ff595c943cb71bf99dc993"), looks := false }, kinds := [], alts := [], laidByText := true, laidKinds := [.mapped, .funcs], laidTests := true, laidLooks := .later }
def UpdateAnyUptoCardSaid : Prop := Claim7.holds Tryz.pinned (.plain (OpenSpec.upto updateAnySpec)) updateAnyUptoCard

/-- THE SECOND FORM's CARD OF 'exchangepointlaw19.UpdateBroken'. -/
def updateBrokenUptoCard : Claim7 := { stood := { row := updateBrokenUptoRow, standIns := [], harness := (true, "4d14b10b716c4aff8c8928ee5b61c1fa8e9c3f2440ff595c943cb71bf99dc993"), looks := false }, kinds := [], alts := [], laidByText := true, laidKinds := [.mapped, .funcs], laidTests := true, laidLooks := .later }
def UpdateBrokenUptoCardSaid : Prop := Claim7.holds Tryz.pinned (.plain (OpenSpec.upto updateBrokenSpec)) updateBrokenUptoCard

/-- THE SECOND FORM's CARD OF 'exchangepointlaw19.UpdateBack'. -/
def updateBackUptoCard : Claim7 := { stood := { row := updateBackUptoRow, standIns := [], harness := (true, "4d14b10b716c4aff8c8928ee5b61c1fa8e9c3f2440ff595c943cb71bf99dc993"), looks := false }, kinds := [], alts := [], laidByText := true, laidKinds := [.mapped, .funcs], laidTests := true, laidLooks := .later }
def UpdateBackUptoCardSaid : Prop := Claim7.holds Tryz.pinned (.plain (OpenSpec.upto updateBackSpec)) updateBackUptoCard

/-- THE SECOND FORM's CARD OF 'exchangepointlaw19.UpdateStream'. -/
def updateStreamUptoCard : Claim7 := { stood := { row := updateStreamUptoRow, standIns := [], harness := (true, "4d14b10b716c4aff8c8928ee5b61c1fa8e9c3f2440ff595c943cb71bf99dc993"), looks := false }, kinds := [], alts := [], laidByText := true, laidKinds := [.mapped, .funcs], laidTests := true, laidLooks := .later }
def UpdateStreamUptoCardSaid : Prop := Claim7.holds Tryz.pinned (.plain (OpenSpec.upto updateStreamSpec)) updateStreamUptoCard

/-- THE SECOND FORM's CARD OF 'exchangepointlaw19.UpdateFrames'. -/
def updateFramesUptoCard : Claim7 := { stood := { row := updateFramesUptoRow, standIns := [], harness := (true, "4d14b10b716c4aff8c8928ee5b61c1fa8e9c3f2440ff595c943cb71bf99dc993"), looks := false }, kinds := [], alts := [], laidByText := true, laidKinds := [.mapped, .funcs], laidTests := true, laidLooks := .later }
def UpdateFramesUptoCardSaid : Prop := Claim7.holds Tryz.pinned (.plain (OpenSpec.upto updateFramesSpec)) updateFramesUptoCard

/-- THE SECOND FORM's CARD OF 'exchangepointlaw19.UpdateCut'. -/
def updateCutUptoCard : Claim7 := { stood := { row := updateCutUptoRow, standIns := [], harness := (true, "4d14b10b716c4aff8c8928ee5b61c1fa8e9c3f2440ff595c943cb71bf99dc993"), looks := false }, kinds := [], alts := [], laidByText := true, laidKinds := [.mapped, .funcs], laidTests := true, laidLooks := .later }
def UpdateCutUptoCardSaid : Prop := Claim7.holds Tryz.pinned (.plain (OpenSpec.upto updateCutSpec)) updateCutUptoCard
end Rows
end Go.Proofs.YtbohbnpaadcfmaaGreatDoor
