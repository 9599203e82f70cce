/-
  DERIVED. GIVEN WITH THE SEED: THE CARDS: each row of YtbhoockehnpdoaaDoorRows.lean that lists a variable, with what it lists TIED to the program's text (the seventh form; the later family's looks); each row that meets fmt, with fmt's text TOLD by the authors' own Lean function (tested against real Go, not proved from fmt's source: count such statements apart). THE CARD IS WHAT COUNTS. Prove the row's statement (the work); the ties are given (YtbhoockehnpdoaaDoorTie.lean); close each card by the builder's one call (the guide's Derived/Test/ToyasCard.lean, 'card_holds'). Laid BY PROGRAM, IN A SANDBOX (cutbox-door.mjs). By AI agents, Wed Nov 11 2026. No macro, syntax, notation, axiom, sorry.
-/
import Derived.Test.YtbhoockehnpdoaaDoorRows
import GoSem.ClaimSeven
namespace Go.Proofs.YtbhoockehnpdoaaDoor
namespace Rows

/-- THE TIED CARD OF 'exchangepointlaw18.AttributeReads'. -/
def attributeReadsCard : Claim7 := { stood := { row := attributeReadsRow, standIns := [], harness := (true, "19099bcb5ea83a3d5602baa23cba1e551e1aaa5920a6c9614d704af1fac1fd51"), looks := false }, kinds := [], alts := [], laidByText := true, laidKinds := [.mapped, .funcs], laidTests := true, laidLooks := .later }
def AttributeReadsCardSaid : Prop := Claim7.holds Tryd.pinned (.plain (OpenSpec.ofChange attributeReadsSpec)) attributeReadsCard

/-- THE TIED CARD OF 'exchangepointlaw18.AttributeAny'. -/
def attributeAnyCard : Claim7 := { stood := { row := attributeAnyRow, standIns := [], harness := (true, "19099bcb5ea83a3d5602baa23cba1e551e1aaa5920a6c9614d704af1fac1fd51"), looks := false }, kinds := [], alts := [], laidByText := true, laidKinds := [.mapped, .funcs], laidTests := true, laidLooks := .later }
def AttributeAnyCardSaid : Prop := Claim7.holds Tryd.pinned (.plain (OpenSpec.ofChange attributeAnySpec)) attributeAnyCard

/-- THE TIED CARD OF 'exchangepointlaw18.AttributeSplits'. -/
def attributeSplitsCard : Claim7 := { stood := { row := attributeSplitsRow, standIns := [], harness := (true, "19099bcb5ea83a3d5602baa23cba1e551e1aaa5920a6c9614d704af1fac1fd51"), looks := false }, kinds := [], alts := [], laidByText := true, laidKinds := [.mapped, .funcs], laidTests := true, laidLooks := .later }
def AttributeSplitsCardSaid : Prop := Claim7.holds Tryd.pinned (.plain (OpenSpec.ofChange attributeSplitsSpec)) attributeSplitsCard

/-- THE TIED CARD OF 'exchangepointlaw18.AttributeOrder'. -/
def attributeOrderCard : Claim7 := { stood := { row := attributeOrderRow, standIns := [], harness := (true, "19099bcb5ea83a3d5602baa23cba1e551e1aaa5920a6c9614d704af1fac1fd51"), looks := false }, kinds := [], alts := [], laidByText := true, laidKinds := [.mapped, .funcs], laidTests := true, laidLooks := .later }
def AttributeOrderCardSaid : Prop := Claim7.holds Tryd.pinned (.plain (OpenSpec.ofChange attributeOrderSpec)) attributeOrderCard

/-- THE TIED CARD OF 'exchangepointlaw18.AttributeFaults'. -/
def attributeFaultsCard : Claim7 := { stood := { row := attributeFaultsRow, standIns := [], harness := (true, "19099bcb5ea83a3d5602baa23cba1e551e1aaa5920a6c9614d704af1fac1fd51"), looks := false }, kinds := [], alts := [], laidByText := true, laidKinds := [.mapped, .funcs], laidTests := true, laidLooks := .later }
def AttributeFaultsCardSaid : Prop := Claim7.holds Tryd.pinned (.plain (OpenSpec.ofChange attributeFaultsSpec)) attributeFaultsCard

/-- THE TIED CARD OF 'exchangepointlaw18.AttributeBack'. -/
def attributeBackCard : Claim7 := { stood := { row := attributeBackRow, standIns := [], harness := (true, "19099bcb5ea83a3d5602baa23cba1e551e1aaa5920a6c9614d704af1fac1fd51"), looks := false }, kinds := [], alts := [], laidByText := true, laidKinds := [.mapped, .funcs], laidTests := true, laidLooks := .later }
def AttributeBackCardSaid : Prop := Claim7.holds Tryd.pinned (.plain (OpenSpec.ofChange attributeBackSpec)) attributeBackCard

/-- THE SECOND FORM's CARD OF 'exchangepointlaw18.AttributeReads'. -/
def attributeReadsUptoCard : Claim7 := { stood := { row := attributeReadsUptoRow, standIns := [], harness := (true, "19099bcb5ea83a3d5602baa23cba1e551e1aaa5920a6c9614d704af1fac1fd51"), looks := false }, kinds := [], alts := [], laidByText := true, laidKinds := [.mapped, .funcs], laidTests := true, laidLooks := .later }
def AttributeReadsUptoCardSaid : Prop := Claim7.holds Tryd.pinned (.plain (OpenSpec.upto attributeReadsSpec)) attributeReadsUptoCard

/-- THE SECOND FORM's CARD OF 'exchangepointlaw18.AttributeAny'. -/
def attributeAnyUptoCard : Claim7 := { stood := { row := attributeAnyUptoRow, standIns := [], harness := (true, "19099bcb5ea83a3d5602baa23cba1e551e1aaa5920a6c9614d704af1fac1fd51"), looks := false }, kinds := [], alts := [], laidByText := true, laidKinds := [.mapped, .funcs], laidTests := true, laidLooks := .later }
def AttributeAnyUptoCardSaid : Prop := Claim7.holds Tryd.pinned (.plain (OpenSpec.upto attributeAnySpec)) attributeAnyUptoCard

/-- THE SECOND FORM's CARD OF 'exchangepointlaw18.AttributeSplits'. -/
def attributeSplitsUptoCard : Claim7 := { stood := { row := attributeSplitsUptoRow, standIns := [], harness := (true, "19099bcb5ea83a3d5602baa23cba1e551e1aaa5920a6c9614d704af1fac1fd51"), looks := false }, kinds := [], alts := [], laidByText := true, laidKinds := [.mapped, .funcs], laidTests := true, laidLooks := .later }
def AttributeSplitsUptoCardSaid : Prop := Claim7.holds Tryd.pinned (.plain (OpenSpec.upto attributeSplitsSpec)) attributeSplitsUptoCard

/-- THE SECOND FORM's CARD OF 'exchangepointlaw18.AttributeOrder'. -/
def attributeOrderUptoCard : Claim7 := { stood := { row := attributeOrderUptoRow, standIns := [], harness := (true, "19099bcb5ea83a3d5602baa23cba1e551e1aaa5920a6c9614d704af1fac1fd51"), looks := false }, kinds := [], alts := [], laidByText := true, laidKinds := [.mapped, .funcs], laidTests := true, laidLooks := .later }
def AttributeOrderUptoCardSaid : Prop := Claim7.holds Tryd.pinned (.plain (OpenSpec.upto attributeOrderSpec)) attributeOrderUptoCard

/-- THE SECOND FORM's CARD OF 'exchangepointlaw18.AttributeFaults'. -/
def attributeFaultsUptoCard : Claim7 := { stood := { row := attributeFaultsUptoRow, standIns := [], harness := (true, "19099bcb5ea83a3d5602baa23cba1e551e1aaa5920a6c9614d704af1fac1fd51"), looks := false }, kinds := [], alts := [], laidByText := true, laidKinds := [.mapped, .funcs], laidTests := true, laidLooks := .later }
def AttributeFaultsUptoCardSaid : Prop := Claim7.holds Tryd.pinned (.plain (OpenSpec.upto attributeFaultsSpec)) attributeFaultsUptoCard

/-- THE SECOND FORM's CARD OF 'exchangepointlaw18.AttributeBack'. -/
def attributeBackUptoCard : Claim7 := { stood := { row := attributeBackUptoRow, standIns := [], harness := (true, "19099bcb5ea83a3d5602baa23cba1e551e1aaa5920a6c9614d704af1fac1fd51"), looks := false }, kinds := [], alts := [], laidByText := true, laidKinds := [.mapped, .funcs], laidTests := true, laidLooks := .later }
def AttributeBackUptoCardSaid : Prop := Claim7.holds Tryd.pinned (.plain (OpenSpec.upto attributeBackSpec)) attributeBackUptoCard
end Rows
end Go.Proofs.YtbhoockehnpdoaaDoor
