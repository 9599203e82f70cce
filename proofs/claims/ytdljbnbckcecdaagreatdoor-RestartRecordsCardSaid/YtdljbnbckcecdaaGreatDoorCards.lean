/-
  DERIVED. GIVEN WITH THE SEED: THE CARDS: each row of YtdljbnbckcecdaaGreatDoorRows.lean that lists a variable, with what it lists TIED to the program's text (the seventh form; the later family's looks); each row that meets fmt, with fmt's text TOLD by the authors' own Lean function (tested against real Go, not proved from fmt's source: count such statements apart). THE CARD IS WHAT COUNTS. Prove the row's statement (the work); the ties are given (YtdljbnbckcecdaaGreatDoorTie.lean); close each card by the builder's one call (the guide's Derived/Test/ToyasCard.lean, 'card_holds'). Laid BY PROGRAM, IN A SANDBOX (cutbox-door.mjs). By AI agents, Wed Nov 11 2026. No macro, syntax, notation, axiom, sorry.
-/
import Derived.Test.YtdljbnbckcecdaaGreatDoorRows
import GoSem.ClaimSeven
namespace Go.Proofs.YtdljbnbckcecdaaGreatDoor
namespace Rows

/-- THE TIED CARD OF 'exchangepointlaw33.RestartRecords'. -/
def restartRecordsCard : Claim7 := { stood := { row := restartRecordsRow, standIns := [], harness := (true, "7ba527fe62679be1b3b54af6ddbe7ec0b656edfcf6c65002a665bbb09a13e7b1"), looks := false }, kinds := [], alts := [], laidByText := true, laidKinds := [.mapped, .funcs], laidTests := true, laidLooks := .later }
def RestartRecordsCardSaid : Prop := Claim7.holds Tryz.pinned (.plain (OpenSpec.ofChange restartRecordsSpec)) restartRecordsCard

/-- THE TIED CARD OF 'exchangepointlaw33.RestartReturns'. -/
def restartReturnsCard : Claim7 := { stood := { row := restartReturnsRow, standIns := [], harness := (true, "7ba527fe62679be1b3b54af6ddbe7ec0b656edfcf6c65002a665bbb09a13e7b1"), looks := false }, kinds := [], alts := [], laidByText := true, laidKinds := [.mapped, .funcs], laidTests := true, laidLooks := .later }
def RestartReturnsCardSaid : Prop := Claim7.holds Tryz.pinned (.plain (OpenSpec.ofChange restartReturnsSpec)) restartReturnsCard

/-- THE TIED CARD OF 'exchangepointlaw33.RestartOnce'. -/
def restartOnceCard : Claim7 := { stood := { row := restartOnceRow, standIns := [], harness := (true, "7ba527fe62679be1b3b54af6ddbe7ec0b656edfcf6c65002a665bbb09a13e7b1"), looks := false }, kinds := [], alts := [], laidByText := true, laidKinds := [.mapped, .funcs], laidTests := true, laidLooks := .later }
def RestartOnceCardSaid : Prop := Claim7.holds Tryz.pinned (.plain (OpenSpec.ofChange restartOnceSpec)) restartOnceCard

/-- THE SECOND FORM's CARD OF 'exchangepointlaw33.RestartRecords'. -/
def restartRecordsUptoCard : Claim7 := { stood := { row := restartRecordsUptoRow, standIns := [], harness := (true, "7ba527fe62679be1b3b54af6ddbe7ec0b656edfcf6c65002a665bbb09a13e7b1"), looks := false }, kinds := [], alts := [], laidByText := true, laidKinds := [.mapped, .funcs], laidTests := true, laidLooks := .later }
def RestartRecordsUptoCardSaid : Prop := Claim7.holds Tryz.pinned (.plain (OpenSpec.upto restartRecordsSpec)) restartRecordsUptoCard

/-- THE SECOND FORM's CARD OF 'exchangepointlaw33.RestartReturns'. -/
def restartReturnsUptoCard : Claim7 := { stood := { row := restartReturnsUptoRow, standIns := [], harness := (true, "7ba527fe62679be1b3b54af6ddbe7ec0b656edfcf6c65002a665bbb09a13e7b1"), looks := false }, kinds := [], alts := [], laidByText := true, laidKinds := [.mapped, .funcs], laidTests := true, laidLooks := .later }
def RestartReturnsUptoCardSaid : Prop := Claim7.holds Tryz.pinned (.plain (OpenSpec.upto restartReturnsSpec)) restartReturnsUptoCard

/-- THE SECOND FORM's CARD OF 'exchangepointlaw33.RestartOnce'. -/
def restartOnceUptoCard : Claim7 := { stood := { row := restartOnceUptoRow, standIns := [], harness := (true, "7ba527fe62679be1b3b54af6ddbe7ec0b656edfcf6c65002a665bbb09a13e7b1"), looks := false }, kinds := [], alts := [], laidByText := true, laidKinds := [.mapped, .funcs], laidTests := true, laidLooks := .later }
def RestartOnceUptoCardSaid : Prop := Claim7.holds Tryz.pinned (.plain (OpenSpec.upto restartOnceSpec)) restartOnceUptoCard
end Rows
end Go.Proofs.YtdljbnbckcecdaaGreatDoor
