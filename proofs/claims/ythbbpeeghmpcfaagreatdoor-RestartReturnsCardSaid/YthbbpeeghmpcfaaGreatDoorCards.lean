/-
  DERIVED. GIVEN WITH THE SEED: THE CARDS: each row of YthbbpeeghmpcfaaGreatDoorRows.lean that lists a variable, with what it lists TIED to the program's text (the seventh form; the later family's looks); each row that meets fmt, with fmt's text TOLD by the authors' own Lean function (tested against real Go, not proved from fmt's source: count such statements apart). THE CARD IS WHAT COUNTS. Prove the row's statement (the work); the ties are given (YthbbpeeghmpcfaaGreatDoorTie.lean); close each card by the builder's one call (the guide's Derived/Test/ToyasCard.lean, 'card_holds'). Laid BY PROGRAM, IN A SANDBOX (cutbox-door.mjs). By AI agents, Wed Nov 11 2026. No macro, syntax, notation, axiom, sorry.
-/
import Derived.Test.YthbbpeeghmpcfaaGreatDoorRows
import GoSem.ClaimSeven
namespace Go.Proofs.YthbbpeeghmpcfaaGreatDoor
namespace Rows

/-- THE TIED CARD OF 'exchangepointlaw33.RestartReturns'. -/
def restartReturnsCard : Claim7 := { stood := { row := restartReturnsRow, standIns := [], harness := (true, "6c64bb26f73ff5080383af58d1610174bdcc4685aa5dcc12bf0b0e805d4b8733"), looks := false }, kinds := [], alts := [], laidByText := true, laidKinds := [.mapped, .funcs], laidTests := true, laidLooks := .later }
def RestartReturnsCardSaid : Prop := Claim7.holds Tryz.pinned (.plain (OpenSpec.ofChange restartReturnsSpec)) restartReturnsCard

/-- THE SECOND FORM's CARD OF 'exchangepointlaw33.RestartReturns'. -/
def restartReturnsUptoCard : Claim7 := { stood := { row := restartReturnsUptoRow, standIns := [], harness := (true, "6c64bb26f73ff5080383af58d1610174bdcc4685aa5dcc12bf0b0e805d4b8733"), looks := false }, kinds := [], alts := [], laidByText := true, laidKinds := [.mapped, .funcs], laidTests := true, laidLooks := .later }
def RestartReturnsUptoCardSaid : Prop := Claim7.holds Tryz.pinned (.plain (OpenSpec.upto restartReturnsSpec)) restartReturnsUptoCard
end Rows
end Go.Proofs.YthbbpeeghmpcfaaGreatDoor
