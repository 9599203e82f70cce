/-
  DERIVED. GIVEN WITH THE SEED: THE CARDS: each row of YtbhoockehnpdoaaGreatDoorRows.lean that lists a variable, with what it lists TIED to the program's text (the seventh form; the later family's looks); each row that meets fmt, with fmt's text TOLD by the authors' own Lean function (tested against real Go, not proved from fmt's source: count such statements apart). THE CARD IS WHAT COUNTS. Prove the row's statement (the work); the ties are given (YtbhoockehnpdoaaGreatDoorTie.lean); close each card by the builder's one call (the guide's Derived/Test/ToyasCard.lean, 'card_holds'). Laid BY PROGRAM, IN A SANDBOX (cutbox-door.mjs). By AI agents, Wed Nov 11 2026. No macro, syntax, notation, axiom, sorry.
-/
import Derived.Test.YtbhoockehnpdoaaGreatDoorRows
import GoSem.ClaimSeven
namespace Go.Proofs.YtbhoockehnpdoaaGreatDoor
namespace Rows

/-- THE TIED CARD OF 'exchangepointlaw18.AttributeWrites'. -/
def attributeWritesCard : Claim7 := { stood := { row := attributeWritesRow, standIns := [], harness := (true, "8f39fcddfb2f592b6c1165b92ec6277a211a0a7be8c01544efb59666e91650d4"), looks := false }, kinds := [], alts := [], laidByText := true, laidKinds := [.mapped, .funcs], laidTests := true, laidLooks := .later }
def AttributeWritesCardSaid : Prop := Claim7.holds Tryz.pinned (.plain (OpenSpec.ofChange attributeWritesSpec)) attributeWritesCard

/-- THE SECOND FORM's CARD OF 'exchangepointlaw18.AttributeWrites'. -/
def attributeWritesUptoCard : Claim7 := { stood := { row := attributeWritesUptoRow, standIns := [], harness := (true, "8f39fcddfb2f592b6c1165b92ec6277a211a0a7be8c01544efb59666e91650d4"), looks := false }, kinds := [], alts := [], laidByText := true, laidKinds := [.mapped, .funcs], laidTests := true, laidLooks := .later }
def AttributeWritesUptoCardSaid : Prop := Claim7.holds Tryz.pinned (.plain (OpenSpec.upto attributeWritesSpec)) attributeWritesUptoCard
end Rows
end Go.Proofs.YtbhoockehnpdoaaGreatDoor
