/-
  DERIVED. GIVEN WITH THE SEED: THE CARDS: each row of YtmklgpchdphohaaGreatDoorRows.lean that lists a variable, with what it lists TIED to the program's text (the seventh form; the later family's looks); each row that meets fmt, with fmt's text TOLD by the authors' own Lean function (tested against real Go, not proved from fmt's source: count such statements apart). THE CARD IS WHAT COUNTS. Prove the row's statement (the work); the ties are given (YtmklgpchdphohaaGreatDoorTie.lean); close each card by the builder's one call (the guide's Derived/Test/ToyasCard.lean, 'card_holds'). Laid BY PROGRAM, IN A SANDBOX (cutbox-door.mjs). By AI agents, Wed Nov 11 2026. No macro, syntax, notation, axiom, sorry.
-/
import Derived.Test.YtmklgpchdphohaaGreatDoorRows
import GoSem.ClaimSeven
namespace Go.Proofs.YtmklgpchdphohaaGreatDoor
namespace Rows

/-- THE TIED CARD OF 'exchangepointlaw20.IrrExpands'. -/
def irrExpandsCard : Claim7 := { stood := { row := irrExpandsRow, standIns := [], harness := (true, "8d8ce9588eb5678697da9d33c18d172fa62e2bbbc002ffa9c30e7236d331ba6d"), looks := false }, kinds := [], alts := [], laidByText := true, laidKinds := [.data, .pinned], laidTests := true, laidLooks := .later }
def IrrExpandsCardSaid : Prop := Claim7.holds Tryz.pinned (.plain (OpenSpec.ofChange irrExpandsSpec)) irrExpandsCard

/-- THE TIED CARD OF 'exchangepointlaw20.IrrOrder'. -/
def irrOrderCard : Claim7 := { stood := { row := irrOrderRow, standIns := [], harness := (true, "8d8ce9588eb5678697da9d33c18d172fa62e2bbbc002ffa9c30e7236d331ba6d"), looks := false }, kinds := [], alts := [], laidByText := true, laidKinds := [.data, .pinned], laidTests := true, laidLooks := .later }
def IrrOrderCardSaid : Prop := Claim7.holds Tryz.pinned (.plain (OpenSpec.ofChange irrOrderSpec)) irrOrderCard

/-- THE TIED CARD OF 'exchangepointlaw20.IrrNormal'. -/
def irrNormalCard : Claim7 := { stood := { row := irrNormalRow, standIns := [], harness := (true, "8d8ce9588eb5678697da9d33c18d172fa62e2bbbc002ffa9c30e7236d331ba6d"), looks := false }, kinds := [], alts := [], laidByText := true, laidKinds := [.data, .pinned], laidTests := true, laidLooks := .later }
def IrrNormalCardSaid : Prop := Claim7.holds Tryz.pinned (.plain (OpenSpec.ofChange irrNormalSpec)) irrNormalCard

/-- THE TIED CARD OF 'exchangepointlaw20.IrrMore'. -/
def irrMoreCard : Claim7 := { stood := { row := irrMoreRow, standIns := [], harness := (true, "8d8ce9588eb5678697da9d33c18d172fa62e2bbbc002ffa9c30e7236d331ba6d"), looks := false }, kinds := [], alts := [], laidByText := true, laidKinds := [.data, .pinned], laidTests := true, laidLooks := .later }
def IrrMoreCardSaid : Prop := Claim7.holds Tryz.pinned (.plain (OpenSpec.ofChange irrMoreSpec)) irrMoreCard

/-- THE TIED CARD OF 'exchangepointlaw20.IrrObjects'. -/
def irrObjectsCard : Claim7 := { stood := { row := irrObjectsRow, standIns := [], harness := (true, "8d8ce9588eb5678697da9d33c18d172fa62e2bbbc002ffa9c30e7236d331ba6d"), looks := false }, kinds := [], alts := [], laidByText := true, laidKinds := [.data, .pinned], laidTests := true, laidLooks := .later }
def IrrObjectsCardSaid : Prop := Claim7.holds Tryz.pinned (.plain (OpenSpec.ofChange irrObjectsSpec)) irrObjectsCard

/-- THE TIED CARD OF 'exchangepointlaw20.IrrPermitted'. -/
def irrPermittedCard : Claim7 := { stood := { row := irrPermittedRow, standIns := [], harness := (true, "8d8ce9588eb5678697da9d33c18d172fa62e2bbbc002ffa9c30e7236d331ba6d"), looks := false }, kinds := [], alts := [], laidByText := true, laidKinds := [.data, .pinned], laidTests := true, laidLooks := .later }
def IrrPermittedCardSaid : Prop := Claim7.holds Tryz.pinned (.plain (OpenSpec.ofChange irrPermittedSpec)) irrPermittedCard

/-- THE SECOND FORM's CARD OF 'exchangepointlaw20.IrrExpands'. -/
def irrExpandsUptoCard : Claim7 := { stood := { row := irrExpandsUptoRow, standIns := [], harness := (true, "8d8ce9588eb5678697da9d33c18d172fa62e2bbbc002ffa9c30e7236d331ba6d"), looks := false }, kinds := [], alts := [], laidByText := true, laidKinds := [.data, .pinned], laidTests := true, laidLooks := .later }
def IrrExpandsUptoCardSaid : Prop := Claim7.holds Tryz.pinned (.plain (OpenSpec.upto irrExpandsSpec)) irrExpandsUptoCard

/-- THE SECOND FORM's CARD OF 'exchangepointlaw20.IrrOrder'. -/
def irrOrderUptoCard : Claim7 := { stood := { row := irrOrderUptoRow, standIns := [], harness := (true, "8d8ce9588eb5678697da9d33c18d172fa62e2bbbc002ffa9c30e7236d331ba6d"), looks := false }, kinds := [], alts := [], laidByText := true, laidKinds := [.data, .pinned], laidTests := true, laidLooks := .later }
def IrrOrderUptoCardSaid : Prop := Claim7.holds Tryz.pinned (.plain (OpenSpec.upto irrOrderSpec)) irrOrderUptoCard

/-- THE SECOND FORM's CARD OF 'exchangepointlaw20.IrrNormal'. -/
def irrNormalUptoCard : Claim7 := { stood := { row := irrNormalUptoRow, standIns := [], harness := (true, "8d8ce9588eb5678697da9d33c18d172fa62e2bbbc002ffa9c30e7236d331ba6d"), looks := false }, kinds := [], alts := [], laidByText := true, laidKinds := [.data, .pinned], laidTests := true, laidLooks := .later }
def IrrNormalUptoCardSaid : Prop := Claim7.holds Tryz.pinned (.plain (OpenSpec.upto irrNormalSpec)) irrNormalUptoCard

/-- THE SECOND FORM's CARD OF 'exchangepointlaw20.IrrMore'. -/
def irrMoreUptoCard : Claim7 := { stood := { row := irrMoreUptoRow, standIns := [], harness := (true, "8d8ce9588eb5678697da9d33c18d172fa62e2bbbc002ffa9c30e7236d331ba6d"), looks := false }, kinds := [], alts := [], laidByText := true, laidKinds := [.data, .pinned], laidTests := true, laidLooks := .later }
def IrrMoreUptoCardSaid : Prop := Claim7.holds Tryz.pinned (.plain (OpenSpec.upto irrMoreSpec)) irrMoreUptoCard

/-- THE SECOND FORM's CARD OF 'exchangepointlaw20.IrrObjects'. -/
def irrObjectsUptoCard : Claim7 := { stood := { row := irrObjectsUptoRow, standIns := [], harness := (true, "8d8ce9588eb5678697da9d33c18d172fa62e2bbbc002ffa9c30e7236d331ba6d"), looks := false }, kinds := [], alts := [], laidByText := true, laidKinds := [.data, .pinned], laidTests := true, laidLooks := .later }
def IrrObjectsUptoCardSaid : Prop := Claim7.holds Tryz.pinned (.plain (OpenSpec.upto irrObjectsSpec)) irrObjectsUptoCard

/-- THE SECOND FORM's CARD OF 'exchangepointlaw20.IrrPermitted'. -/
def irrPermittedUptoCard : Claim7 := { stood := { row := irrPermittedUptoRow, standIns := [], harness := (true, "8d8ce9588eb5678697da9d33c18d172fa62e2bbbc002ffa9c30e7236d331ba6d"), looks := false }, kinds := [], alts := [], laidByText := true, laidKinds := [.data, .pinned], laidTests := true, laidLooks := .later }
def IrrPermittedUptoCardSaid : Prop := Claim7.holds Tryz.pinned (.plain (OpenSpec.upto irrPermittedSpec)) irrPermittedUptoCard
end Rows
end Go.Proofs.YtmklgpchdphohaaGreatDoor
