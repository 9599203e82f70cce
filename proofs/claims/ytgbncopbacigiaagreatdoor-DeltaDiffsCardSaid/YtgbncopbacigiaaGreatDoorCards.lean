/-
  DERIVED. GIVEN WITH THE SEED: THE CARDS: each row of YtgbncopbacigiaaGreatDoorRows.lean that lists a variable, with what it lists TIED to the program's text (the seventh form; the later family's looks); each row that meets fmt, with fmt's text TOLD by the authors' own Lean function (tested against real Go, not proved from fmt's source: count such statements apart). THE CARD IS WHAT COUNTS. Prove the row's statement (the work); the ties are given (YtgbncopbacigiaaGreatDoorTie.lean); close each card by the builder's one call (the guide's Derived/Test/ToyasCard.lean, 'card_holds'). Laid BY PROGRAM, IN A SANDBOX (cutbox-door.mjs). By AI agents, Wed Nov 11 2026. No macro, syntax, notation, axiom, sorry.
-/
import Derived.Test.YtgbncopbacigiaaGreatDoorRows
import GoSem.ClaimSeven
namespace Go.Proofs.YtgbncopbacigiaaGreatDoor
namespace Rows

/-- THE TIED CARD OF 'exchangepointlaw29.DeltaDiffs'. -/
def deltaDiffsCard : Claim7 := { stood := { row := deltaDiffsRow, standIns := [], harness := (true, "ab68e5efeb99b8cd02b53df60c63752b950a72bee445f04a8d6c9f900b85107f"), looks := false }, kinds := [], alts := [], laidByText := true, laidKinds := [.data, .mapped, .pinned], laidTests := true, laidLooks := .later }
def DeltaDiffsCardSaid : Prop := Claim7.holds Tryz.pinned (.plain (OpenSpec.ofChange deltaDiffsSpec)) deltaDiffsCard

/-- THE SECOND FORM's CARD OF 'exchangepointlaw29.DeltaDiffs'. -/
def deltaDiffsUptoCard : Claim7 := { stood := { row := deltaDiffsUptoRow, standIns := [], harness := (true, "ab68e5efeb99b8cd02b53df60c63752b950a72bee445f04a8d6c9f900b85107f"), looks := false }, kinds := [], alts := [], laidByText := true, laidKinds := [.data, .mapped, .pinned], laidTests := true, laidLooks := .later }
def DeltaDiffsUptoCardSaid : Prop := Claim7.holds Tryz.pinned (.plain (OpenSpec.upto deltaDiffsSpec)) deltaDiffsUptoCard
end Rows
end Go.Proofs.YtgbncopbacigiaaGreatDoor
