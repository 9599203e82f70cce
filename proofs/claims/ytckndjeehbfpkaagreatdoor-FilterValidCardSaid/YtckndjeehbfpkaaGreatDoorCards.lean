/-
  DERIVED. GIVEN WITH THE SEED: THE CARDS: each row of YtckndjeehbfpkaaGreatDoorRows.lean that lists a variable, with what it lists TIED to the program's text (the seventh form; the later family's looks); each row that meets fmt, with fmt's text TOLD by the authors' own Lean function (tested against real Go, not proved from fmt's source: count such statements apart). THE CARD IS WHAT COUNTS. Prove the row's statement (the work); the ties are given (YtckndjeehbfpkaaGreatDoorTie.lean); close each card by the builder's one call (the guide's Derived/Test/ToyasCard.lean, 'card_holds'). Laid BY PROGRAM, IN A SANDBOX (cutbox-door.mjs). By AI agents, Wed Nov 11 2026. No macro, syntax, notation, axiom, sorry.
-/
import Derived.Test.YtckndjeehbfpkaaGreatDoorRows
import GoSem.ClaimSeven
namespace Go.Proofs.YtckndjeehbfpkaaGreatDoor
namespace Rows

/-- THE TIED CARD OF 'exchangepointlaw24.FilterCovered'. -/
def filterCoveredCard : Claim7 := { stood := { row := filterCoveredRow, standIns := [], harness := (true, "bd37f3eb1d165f40e7c083baf7a0a4a28f9a0c5951331e09bf0ecf6536612cd9"), looks := false }, kinds := [], alts := [], laidByText := true, laidKinds := [.data, .mapped, .pinned], laidTests := true, laidLooks := .later }
def FilterCoveredCardSaid : Prop := Claim7.holds Tryz.pinned (.plain (OpenSpec.ofChange filterCoveredSpec)) filterCoveredCard

/-- THE TIED CARD OF 'exchangepointlaw24.FilterChecks'. -/
def filterChecksCard : Claim7 := { stood := { row := filterChecksRow, standIns := [], harness := (true, "bd37f3eb1d165f40e7c083baf7a0a4a28f9a0c5951331e09bf0ecf6536612cd9"), looks := false }, kinds := [], alts := [], laidByText := true, laidKinds := [.data, .mapped, .pinned], laidTests := true, laidLooks := .later }
def FilterChecksCardSaid : Prop := Claim7.holds Tryz.pinned (.plain (OpenSpec.ofChange filterChecksSpec)) filterChecksCard

/-- THE TIED CARD OF 'exchangepointlaw24.FilterFirst'. -/
def filterFirstCard : Claim7 := { stood := { row := filterFirstRow, standIns := [], harness := (true, "bd37f3eb1d165f40e7c083baf7a0a4a28f9a0c5951331e09bf0ecf6536612cd9"), looks := false }, kinds := [], alts := [], laidByText := true, laidKinds := [.data, .mapped, .pinned], laidTests := true, laidLooks := .later }
def FilterFirstCardSaid : Prop := Claim7.holds Tryz.pinned (.plain (OpenSpec.ofChange filterFirstSpec)) filterFirstCard

/-- THE TIED CARD OF 'exchangepointlaw24.FilterMore'. -/
def filterMoreCard : Claim7 := { stood := { row := filterMoreRow, standIns := [], harness := (true, "bd37f3eb1d165f40e7c083baf7a0a4a28f9a0c5951331e09bf0ecf6536612cd9"), looks := false }, kinds := [], alts := [], laidByText := true, laidKinds := [.data, .mapped, .pinned], laidTests := true, laidLooks := .later }
def FilterMoreCardSaid : Prop := Claim7.holds Tryz.pinned (.plain (OpenSpec.ofChange filterMoreSpec)) filterMoreCard

/-- THE TIED CARD OF 'exchangepointlaw24.FilterValid'. -/
def filterValidCard : Claim7 := { stood := { row := filterValidRow, standIns := [], harness := (true, "bd37f3eb1d165f40e7c083baf7a0a4a28f9a0c5951331e09bf0ecf6536612cd9"), looks := false }, kinds := [], alts := [], laidByText := true, laidKinds := [.data, .mapped, .pinned], laidTests := true, laidLooks := .later }
def FilterValidCardSaid : Prop := Claim7.holds Tryz.pinned (.plain (OpenSpec.ofChange filterValidSpec)) filterValidCard

/-- THE SECOND FORM's CARD OF 'exchangepointlaw24.FilterCovered'. -/
def filterCoveredUptoCard : Claim7 := { stood := { row := filterCoveredUptoRow, standIns := [], harness := (true, "bd37f3eb1d165f40e7c083baf7a0a4a28f9a0c5951331e09bf0ecf6536612cd9"), looks := false }, kinds := [], alts := [], laidByText := true, laidKinds := [.data, .mapped, .pinned], laidTests := true, laidLooks := .later }
def FilterCoveredUptoCardSaid : Prop := Claim7.holds Tryz.pinned (.plain (OpenSpec.upto filterCoveredSpec)) filterCoveredUptoCard

/-- THE SECOND FORM's CARD OF 'exchangepointlaw24.FilterChecks'. -/
def filterChecksUptoCard : Claim7 := { stood := { row := filterChecksUptoRow, standIns := [], harness := (true, "bd37f3eb1d165f40e7c083baf7a0a4a28f9a0c5951331e09bf0ecf6536612cd9"), looks := false }, kinds := [], alts := [], laidByText := true, laidKinds := [.data, .mapped, .pinned], laidTests := true, laidLooks := .later }
def FilterChecksUptoCardSaid : Prop := Claim7.holds Tryz.pinned (.plain (OpenSpec.upto filterChecksSpec)) filterChecksUptoCard

/-- THE SECOND FORM's CARD OF 'exchangepointlaw24.FilterFirst'. -/
def filterFirstUptoCard : Claim7 := { stood := { row := filterFirstUptoRow, standIns := [], harness := (true, "bd37f3eb1d165f40e7c083baf7a0a4a28f9a0c5951331e09bf0ecf6536612cd9"), looks := false }, kinds := [], alts := [], laidByText := true, laidKinds := [.data, .mapped, .pinned], laidTests := true, laidLooks := .later }
def FilterFirstUptoCardSaid : Prop := Claim7.holds Tryz.pinned (.plain (OpenSpec.upto filterFirstSpec)) filterFirstUptoCard

/-- THE SECOND FORM's CARD OF 'exchangepointlaw24.FilterMore'. -/
def filterMoreUptoCard : Claim7 := { stood := { row := filterMoreUptoRow, standIns := [], harness := (true, "bd37f3eb1d165f40e7c083baf7a0a4a28f9a0c5951331e09bf0ecf6536612cd9"), looks := false }, kinds := [], alts := [], laidByText := true, laidKinds := [.data, .mapped, .pinned], laidTests := true, laidLooks := .later }
def FilterMoreUptoCardSaid : Prop := Claim7.holds Tryz.pinned (.plain (OpenSpec.upto filterMoreSpec)) filterMoreUptoCard

/-- THE SECOND FORM's CARD OF 'exchangepointlaw24.FilterValid'. -/
def filterValidUptoCard : Claim7 := { stood := { row := filterValidUptoRow, standIns := [], harness := (true, "bd37f3eb1d165f40e7c083baf7a0a4a28f9a0c5951331e09bf0ecf6536612cd9"), looks := false }, kinds := [], alts := [], laidByText := true, laidKinds := [.data, .mapped, .pinned], laidTests := true, laidLooks := .later }
def FilterValidUptoCardSaid : Prop := Claim7.holds Tryz.pinned (.plain (OpenSpec.upto filterValidSpec)) filterValidUptoCard
end Rows
end Go.Proofs.YtckndjeehbfpkaaGreatDoor
