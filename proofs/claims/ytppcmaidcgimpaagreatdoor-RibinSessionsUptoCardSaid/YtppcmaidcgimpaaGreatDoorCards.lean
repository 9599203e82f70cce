/-
  DERIVED. GIVEN WITH THE SEED: THE CARDS: each row of YtppcmaidcgimpaaGreatDoorRows.lean that lists a variable, with what it lists TIED to the program's text (the seventh form; the later family's looks); each row that meets fmt, with fmt's text TOLD by the authors' own Lean function (tested against real Go, not proved from fmt's source: count such statements apart). THE CARD IS WHAT COUNTS. Prove the row's statement (the work); the ties are given (YtppcmaidcgimpaaGreatDoorTie.lean); close each card by the builder's one call (the guide's Derived/Test/ToyasCard.lean, 'card_holds'). Laid BY PROGRAM, IN A SANDBOX (cutbox-door.mjs). By AI agents, Wed Nov 11 2026. No macro, syntax, notation, axiom, sorry.
-/
import Derived.Test.YtppcmaidcgimpaaGreatDoorRows
import GoSem.ClaimSeven
namespace Go.Proofs.YtppcmaidcgimpaaGreatDoor
namespace Rows

/-- THE TIED CARD OF 'exchangepointlaw25.RibinApplies'. -/
def ribinAppliesCard : Claim7 := { stood := { row := ribinAppliesRow, standIns := [], harness := (true, "2a7c648d695288c2a2089ea855bf01ad73ba385e4901d298dd13b77bb45bcca1"), looks := false }, kinds := [], alts := [], laidByText := true, laidKinds := [.data, .mapped, .pinned], laidTests := true, laidLooks := .later }
def RibinAppliesCardSaid : Prop := Claim7.holds Tryz.pinned (.plain (OpenSpec.ofChange ribinAppliesSpec)) ribinAppliesCard

/-- THE TIED CARD OF 'exchangepointlaw25.RibinKeeps'. -/
def ribinKeepsCard : Claim7 := { stood := { row := ribinKeepsRow, standIns := [], harness := (true, "2a7c648d695288c2a2089ea855bf01ad73ba385e4901d298dd13b77bb45bcca1"), looks := false }, kinds := [], alts := [], laidByText := true, laidKinds := [.data, .mapped, .pinned], laidTests := true, laidLooks := .later }
def RibinKeepsCardSaid : Prop := Claim7.holds Tryz.pinned (.plain (OpenSpec.ofChange ribinKeepsSpec)) ribinKeepsCard

/-- THE TIED CARD OF 'exchangepointlaw25.RibinValid'. -/
def ribinValidCard : Claim7 := { stood := { row := ribinValidRow, standIns := [], harness := (true, "2a7c648d695288c2a2089ea855bf01ad73ba385e4901d298dd13b77bb45bcca1"), looks := false }, kinds := [], alts := [], laidByText := true, laidKinds := [.data, .mapped, .pinned], laidTests := true, laidLooks := .later }
def RibinValidCardSaid : Prop := Claim7.holds Tryz.pinned (.plain (OpenSpec.ofChange ribinValidSpec)) ribinValidCard

/-- THE TIED CARD OF 'exchangepointlaw25.RibinReturns'. -/
def ribinReturnsCard : Claim7 := { stood := { row := ribinReturnsRow, standIns := [], harness := (true, "2a7c648d695288c2a2089ea855bf01ad73ba385e4901d298dd13b77bb45bcca1"), looks := false }, kinds := [], alts := [], laidByText := true, laidKinds := [.data, .mapped, .pinned], laidTests := true, laidLooks := .later }
def RibinReturnsCardSaid : Prop := Claim7.holds Tryz.pinned (.plain (OpenSpec.ofChange ribinReturnsSpec)) ribinReturnsCard

/-- THE TIED CARD OF 'exchangepointlaw25.RibinSessions'. -/
def ribinSessionsCard : Claim7 := { stood := { row := ribinSessionsRow, standIns := [], harness := (true, "2a7c648d695288c2a2089ea855bf01ad73ba385e4901d298dd13b77bb45bcca1"), looks := false }, kinds := [], alts := [], laidByText := true, laidKinds := [.data, .mapped, .pinned], laidTests := true, laidLooks := .later }
def RibinSessionsCardSaid : Prop := Claim7.holds Tryz.pinned (.plain (OpenSpec.ofChange ribinSessionsSpec)) ribinSessionsCard

/-- THE SECOND FORM's CARD OF 'exchangepointlaw25.RibinApplies'. -/
def ribinAppliesUptoCard : Claim7 := { stood := { row := ribinAppliesUptoRow, standIns := [], harness := (true, "2a7c648d695288c2a2089ea855bf01ad73ba385e4901d298dd13b77bb45bcca1"), looks := false }, kinds := [], alts := [], laidByText := true, laidKinds := [.data, .mapped, .pinned], laidTests := true, laidLooks := .later }
def RibinAppliesUptoCardSaid : Prop := Claim7.holds Tryz.pinned (.plain (OpenSpec.upto ribinAppliesSpec)) ribinAppliesUptoCard

/-- THE SECOND FORM's CARD OF 'exchangepointlaw25.RibinKeeps'. -/
def ribinKeepsUptoCard : Claim7 := { stood := { row := ribinKeepsUptoRow, standIns := [], harness := (true, "2a7c648d695288c2a2089ea855bf01ad73ba385e4901d298dd13b77bb45bcca1"), looks := false }, kinds := [], alts := [], laidByText := true, laidKinds := [.data, .mapped, .pinned], laidTests := true, laidLooks := .later }
def RibinKeepsUptoCardSaid : Prop := Claim7.holds Tryz.pinned (.plain (OpenSpec.upto ribinKeepsSpec)) ribinKeepsUptoCard

/-- THE SECOND FORM's CARD OF 'exchangepointlaw25.RibinValid'. -/
def ribinValidUptoCard : Claim7 := { stood := { row := ribinValidUptoRow, standIns := [], harness := (true, "2a7c648d695288c2a2089ea855bf01ad73ba385e4901d298dd13b77bb45bcca1"), looks := false }, kinds := [], alts := [], laidByText := true, laidKinds := [.data, .mapped, .pinned], laidTests := true, laidLooks := .later }
def RibinValidUptoCardSaid : Prop := Claim7.holds Tryz.pinned (.plain (OpenSpec.upto ribinValidSpec)) ribinValidUptoCard

/-- THE SECOND FORM's CARD OF 'exchangepointlaw25.RibinReturns'. -/
def ribinReturnsUptoCard : Claim7 := { stood := { row := ribinReturnsUptoRow, standIns := [], harness := (true, "2a7c648d695288c2a2089ea855bf01ad73ba385e4901d298dd13b77bb45bcca1"), looks := false }, kinds := [], alts := [], laidByText := true, laidKinds := [.data, .mapped, .pinned], laidTests := true, laidLooks := .later }
def RibinReturnsUptoCardSaid : Prop := Claim7.holds Tryz.pinned (.plain (OpenSpec.upto ribinReturnsSpec)) ribinReturnsUptoCard

/-- THE SECOND FORM's CARD OF 'exchangepointlaw25.RibinSessions'. -/
def ribinSessionsUptoCard : Claim7 := { stood := { row := ribinSessionsUptoRow, standIns := [], harness := (true, "2a7c648d695288c2a2089ea855bf01ad73ba385e4901d298dd13b77bb45bcca1"), looks := false }, kinds := [], alts := [], laidByText := true, laidKinds := [.data, .mapped, .pinned], laidTests := true, laidLooks := .later }
def RibinSessionsUptoCardSaid : Prop := Claim7.holds Tryz.pinned (.plain (OpenSpec.upto ribinSessionsSpec)) ribinSessionsUptoCard
end Rows
end Go.Proofs.YtppcmaidcgimpaaGreatDoor
