/-
  NARROWER THAN 'FOR EVERY INPUT', by the rows' own cells (each row's printed sentence says how): FilterCovered: laid · FilterChecks: laid · FilterFirst: laid · FilterMore: laid · FilterValid: laid.
  DERIVED. THE GIVEN ROWS OF THIS SEAT. 5 by the template 'for every input the law returns true; each argument reads behind the call as it read before'; 0 by the template 'total and deterministic' (their statements: YtckndjeehbfpkaaGreatDoorTotals.lean).
  GIVEN WITH THE SEED: the statements are not yours to turn. If you find one false, say at which input.
  Laid BY PROGRAM, IN A SANDBOX (cutbox-rows.mjs): the forced cells as the released guide's own fill.sh prints them over the translation 7e54981657715e7d… (all of the seat's roots in one cut). By AI agents, Wed Nov 11 2026. No macro, syntax, notation, axiom, sorry.
-/
import Derived.Test.YtckndjeehbfpkaaGreatDoorChecked
import GoSem.PinnedTables
import GoSem.Claim
import GoSem.ClaimJoined
import GoSem.ClaimMapViews
import Derived.JoinedTies
import Derived.KernelRfl
namespace Go.Proofs.YtckndjeehbfpkaaGreatDoor
/- THE CELL 'sum', in the pinned program and in every row, IS THE sha256 OF THE DUMP (.gsa) THAT YtckndjeehbfpkaaGreatDoorProg.lean LOADS. Nothing in Lean hashes anything: it is a label: what it is worth is what the hold of that sum in a sandbox is worth. -/
noncomputable def Tryz.pinned : Pinned := { name := "ytckndjeehbfpkaagreatdoor", sum := "7e54981657715e7d3dad753c1b237e6b4e5b537e2d1617d612b808b0470f52c6", checked := Tryz.checked }
namespace Rows
def none {H : Type} : Left H := { results := [], args := [] }

/- WHAT THE LISTED PACKAGE-LEVEL VARIABLES READ AS WHEN THE CALL BEGINS. Each datum BY PROGRAM (the guide's laid-datum.mjs) off the statement by which the dump's own 'gosem.cut.vars' lays the variable. In a bare row this is a premise. The card (YtckndjeehbfpkaaGreatDoorCards.lean) ties it to the program's text. -/
def laid_unicode_utf8_acceptRanges {H : Type} : DataW H := .agg [.agg [.lit (.int .u8 128), .lit (.int .u8 191)], .agg [.lit (.int .u8 160), .lit (.int .u8 191)], .agg [.lit (.int .u8 128), .lit (.int .u8 159)], .agg [.lit (.int .u8 144), .lit (.int .u8 191)], .agg [.lit (.int .u8 128), .lit (.int .u8 143)], .agg [.lit (.int .u8 0), .lit (.int .u8 0)], .agg [.lit (.int .u8 0), .lit (.int .u8 0)], .agg [.lit (.int .u8 0), .lit (.int .u8 0)], .agg [.lit (.int .u8 0), .lit (.int .u8 0)], .agg [.lit (.int .u8 0), .lit (.int .u8 0)], .agg [.lit (.int .u8 0), .lit (.int .u8 0)], .agg [.lit (.int .u8 0), .lit (.int .u8 0)], .agg [.lit (.int .u8 0), .lit (.int .u8 0)], .agg [.lit (.int .u8 0), .lit (.int .u8 0)], .agg [.lit (.int .u8 0), .lit (.int .u8 0)], .agg [.lit (.int .u8 0), .lit (.int .u8 0)]]
def laid_exchangepoint_attribute_flags {H : Type} : DataW H := .map [(.int .i64 1, .lit (.int .i64 64)), (.int .i64 2, .lit (.int .i64 64)), (.int .i64 3, .lit (.int .i64 64)), (.int .i64 4, .lit (.int .i64 128)), (.int .i64 5, .lit (.int .i64 64)), (.int .i64 8, .lit (.int .i64 192)), (.int .i64 32, .lit (.int .i64 192)), (.int .i64 35, .lit (.int .i64 192))]
/-- One of Go's own tables, pinned by name: the form's constant. -/
def laid_unicode_utf8_first : DataW Unit := Go.Pinned.utf8First

/-- 'exchangepointlaw24.FilterCovered': WHATEVER THE INPUT: true; the input reads as it did. -/
def filterCoveredSpec : ChangeSpec := { name := "filterCovered", fn := fun _ => fun
  | [d] => { results := [.lit (.bool true)], args := [d] }
  | _ => none }
def filterCoveredRow : OpenClaim := { program := "ytckndjeehbfpkaagreatdoor", sum := "7e54981657715e7d3dad753c1b237e6b4e5b537e2d1617d612b808b0470f52c6", func := "exchangepoint/exchangepointlaw24.FilterCovered", spec := "filterCovered", inPlace := ["internal/bytealg.IndexByteString", "internal/bytealg.IndexString"], unfollowed := true, recurses := true, named := ["exchangepoint/attribute.flags", "unicode/utf8.first", "unicode/utf8.acceptRanges", "internal/bytealg.MaxLen"], apart := false, laid := [("unicode/utf8.acceptRanges", laid_unicode_utf8_acceptRanges), ("exchangepoint/attribute.flags", laid_exchangepoint_attribute_flags), ("unicode/utf8.first", laid_unicode_utf8_first)] }
def FilterCoveredSaid : Prop := filterCoveredRow.holds Tryz.pinned (OpenSpec.ofChange filterCoveredSpec)

/-- ITS FALSE NEIGHBOUR: 'it returns false'. Refute it at one input. -/
def filterCoveredWrong : ChangeSpec := { name := "filterCovered", fn := fun _ => fun
  | [d] => { results := [.lit (.bool false)], args := [d] }
  | _ => none }
def FilterCoveredWrongFalsely : Prop := filterCoveredRow.holds Tryz.pinned (OpenSpec.ofChange filterCoveredWrong)

/-- 'exchangepointlaw24.FilterChecks': WHATEVER THE INPUT: true; the input reads as it did. -/
def filterChecksSpec : ChangeSpec := { name := "filterChecks", fn := fun _ => fun
  | [d1, d2] => { results := [.lit (.bool true)], args := [d1, d2] }
  | _ => none }
def filterChecksRow : OpenClaim := { program := "ytckndjeehbfpkaagreatdoor", sum := "7e54981657715e7d3dad753c1b237e6b4e5b537e2d1617d612b808b0470f52c6", func := "exchangepoint/exchangepointlaw24.FilterChecks", spec := "filterChecks", inPlace := ["internal/bytealg.IndexByteString", "internal/bytealg.IndexString"], unfollowed := true, recurses := true, named := ["unicode/utf8.first", "unicode/utf8.acceptRanges", "exchangepoint/attribute.flags", "internal/bytealg.MaxLen"], apart := false, laid := [("unicode/utf8.acceptRanges", laid_unicode_utf8_acceptRanges), ("exchangepoint/attribute.flags", laid_exchangepoint_attribute_flags), ("unicode/utf8.first", laid_unicode_utf8_first)] }
def FilterChecksSaid : Prop := filterChecksRow.holds Tryz.pinned (OpenSpec.ofChange filterChecksSpec)

/-- ITS FALSE NEIGHBOUR: 'it returns false'. Refute it at one input. -/
def filterChecksWrong : ChangeSpec := { name := "filterChecks", fn := fun _ => fun
  | [d1, d2] => { results := [.lit (.bool false)], args := [d1, d2] }
  | _ => none }
def FilterChecksWrongFalsely : Prop := filterChecksRow.holds Tryz.pinned (OpenSpec.ofChange filterChecksWrong)

/-- 'exchangepointlaw24.FilterFirst': WHATEVER THE INPUT: true; the input reads as it did. -/
def filterFirstSpec : ChangeSpec := { name := "filterFirst", fn := fun _ => fun
  | [d1, d2] => { results := [.lit (.bool true)], args := [d1, d2] }
  | _ => none }
def filterFirstRow : OpenClaim := { program := "ytckndjeehbfpkaagreatdoor", sum := "7e54981657715e7d3dad753c1b237e6b4e5b537e2d1617d612b808b0470f52c6", func := "exchangepoint/exchangepointlaw24.FilterFirst", spec := "filterFirst", inPlace := ["internal/bytealg.IndexByteString", "internal/bytealg.IndexString"], unfollowed := true, recurses := true, named := ["unicode/utf8.first", "unicode/utf8.acceptRanges", "exchangepoint/attribute.flags", "internal/bytealg.MaxLen"], apart := false, laid := [("unicode/utf8.acceptRanges", laid_unicode_utf8_acceptRanges), ("exchangepoint/attribute.flags", laid_exchangepoint_attribute_flags), ("unicode/utf8.first", laid_unicode_utf8_first)] }
def FilterFirstSaid : Prop := filterFirstRow.holds Tryz.pinned (OpenSpec.ofChange filterFirstSpec)

/-- ITS FALSE NEIGHBOUR: 'it returns false'. Refute it at one input. -/
def filterFirstWrong : ChangeSpec := { name := "filterFirst", fn := fun _ => fun
  | [d1, d2] => { results := [.lit (.bool false)], args := [d1, d2] }
  | _ => none }
def FilterFirstWrongFalsely : Prop := filterFirstRow.holds Tryz.pinned (OpenSpec.ofChange filterFirstWrong)

/-- 'exchangepointlaw24.FilterMore': WHATEVER THE INPUT: true; the input reads as it did. -/
def filterMoreSpec : ChangeSpec := { name := "filterMore", fn := fun _ => fun
  | [d1, d2] => { results := [.lit (.bool true)], args := [d1, d2] }
  | _ => none }
def filterMoreRow : OpenClaim := { program := "ytckndjeehbfpkaagreatdoor", sum := "7e54981657715e7d3dad753c1b237e6b4e5b537e2d1617d612b808b0470f52c6", func := "exchangepoint/exchangepointlaw24.FilterMore", spec := "filterMore", inPlace := ["internal/bytealg.IndexByteString", "internal/bytealg.IndexString"], unfollowed := true, recurses := true, named := ["exchangepoint/attribute.flags", "unicode/utf8.first", "unicode/utf8.acceptRanges", "internal/bytealg.MaxLen"], apart := false, laid := [("unicode/utf8.acceptRanges", laid_unicode_utf8_acceptRanges), ("exchangepoint/attribute.flags", laid_exchangepoint_attribute_flags), ("unicode/utf8.first", laid_unicode_utf8_first)] }
def FilterMoreSaid : Prop := filterMoreRow.holds Tryz.pinned (OpenSpec.ofChange filterMoreSpec)

/-- ITS FALSE NEIGHBOUR: 'it returns false'. Refute it at one input. -/
def filterMoreWrong : ChangeSpec := { name := "filterMore", fn := fun _ => fun
  | [d1, d2] => { results := [.lit (.bool false)], args := [d1, d2] }
  | _ => none }
def FilterMoreWrongFalsely : Prop := filterMoreRow.holds Tryz.pinned (OpenSpec.ofChange filterMoreWrong)

/-- 'exchangepointlaw24.FilterValid': WHATEVER THE INPUT: true; the input reads as it did. -/
def filterValidSpec : ChangeSpec := { name := "filterValid", fn := fun _ => fun
  | [d1, d2, d3, d4, d5, d6] => { results := [.lit (.bool true)], args := [d1, d2, d3, d4, d5, d6] }
  | _ => none }
def filterValidRow : OpenClaim := { program := "ytckndjeehbfpkaagreatdoor", sum := "7e54981657715e7d3dad753c1b237e6b4e5b537e2d1617d612b808b0470f52c6", func := "exchangepoint/exchangepointlaw24.FilterValid", spec := "filterValid", inPlace := ["internal/bytealg.IndexByteString", "internal/bytealg.IndexString"], unfollowed := true, recurses := true, named := ["unicode/utf8.first", "unicode/utf8.acceptRanges", "exchangepoint/attribute.flags", "internal/bytealg.MaxLen"], apart := false, laid := [("unicode/utf8.acceptRanges", laid_unicode_utf8_acceptRanges), ("exchangepoint/attribute.flags", laid_exchangepoint_attribute_flags), ("unicode/utf8.first", laid_unicode_utf8_first)] }
def FilterValidSaid : Prop := filterValidRow.holds Tryz.pinned (OpenSpec.ofChange filterValidSpec)

/-- ITS FALSE NEIGHBOUR: 'it returns false'. Refute it at one input. -/
def filterValidWrong : ChangeSpec := { name := "filterValid", fn := fun _ => fun
  | [d1, d2, d3, d4, d5, d6] => { results := [.lit (.bool false)], args := [d1, d2, d3, d4, d5, d6] }
  | _ => none }
def FilterValidWrongFalsely : Prop := filterValidRow.holds Tryz.pinned (OpenSpec.ofChange filterValidWrong)

/- THE SECOND FORM. 'bulk': how many values and letters a reading holds, each counted each time it is reached (what is shared counts as often as it is met; a slice's spare places count too). A statement '..UptoSaid' is the law's where the arguments, and the package variables that the reading takes, are together of bulk at most 1048576: NARROWER than '..Said'. Prove '..Said' where nothing that the law and all that it calls make is longer than what came in: it says more and counts as full. Else prove '..UptoSaid'. A law counts once. -/
mutual
def uptoBulk {H : Type} : DataW H → Nat
  | .lit (.string bytes) => bytes.length + 1
  | .lit _ => 1
  | .nil => 1
  | .ptr d => uptoBulk d + 1
  | .slice elems spare => uptoBulkAll elems + uptoBulkAll spare + 1
  | .agg parts => uptoBulkAll parts + 1
  | .iface _ d => uptoBulk d + 1
  | .map entries => uptoBulkEntries entries + 1
  | .held _ => 1
def uptoBulkAll {H : Type} : List (DataW H) → Nat
  | [] => 0
  | d :: r => uptoBulk d + uptoBulkAll r
def uptoBulkEntries {H : Type} : List (Lit × DataW H) → Nat
  | [] => 0
  | x :: r => uptoBulkEntry x + uptoBulkEntries r
def uptoBulkEntry {H : Type} : Lit × DataW H → Nat
  | (.string bytes, d) => bytes.length + uptoBulk d + 1
  | (_, d) => uptoBulk d + 1
 end
def uptoSmall : (H : Type) → List (DataW H) → Bool := fun _ ds => decide (uptoBulkAll ds ≤ 1048576)
def OpenSpec.upto (s : _root_.Go.ChangeSpec) : _root_.Go.OpenSpec := { _root_.Go.OpenSpec.ofChange s with cond := some uptoSmall }

/-- 'exchangepointlaw24.FilterCovered', WHERE WHAT IT READS IS OF BULK AT MOST 1048576: true; the input reads as it did. -/
def filterCoveredUptoRow : OpenClaim := { program := "ytckndjeehbfpkaagreatdoor", sum := "7e54981657715e7d3dad753c1b237e6b4e5b537e2d1617d612b808b0470f52c6", func := "exchangepoint/exchangepointlaw24.FilterCovered", spec := "filterCovered", inPlace := ["internal/bytealg.IndexByteString", "internal/bytealg.IndexString"], unfollowed := true, recurses := true, named := ["exchangepoint/attribute.flags", "unicode/utf8.first", "unicode/utf8.acceptRanges", "internal/bytealg.MaxLen"], apart := false, laid := [("unicode/utf8.acceptRanges", laid_unicode_utf8_acceptRanges), ("exchangepoint/attribute.flags", laid_exchangepoint_attribute_flags), ("unicode/utf8.first", laid_unicode_utf8_first)], narrowed := true }
def FilterCoveredUptoSaid : Prop := filterCoveredUptoRow.holds Tryz.pinned (OpenSpec.upto filterCoveredSpec)

/-- 'exchangepointlaw24.FilterChecks', WHERE WHAT IT READS IS OF BULK AT MOST 1048576: true; the input reads as it did. -/
def filterChecksUptoRow : OpenClaim := { program := "ytckndjeehbfpkaagreatdoor", sum := "7e54981657715e7d3dad753c1b237e6b4e5b537e2d1617d612b808b0470f52c6", func := "exchangepoint/exchangepointlaw24.FilterChecks", spec := "filterChecks", inPlace := ["internal/bytealg.IndexByteString", "internal/bytealg.IndexString"], unfollowed := true, recurses := true, named := ["unicode/utf8.first", "unicode/utf8.acceptRanges", "exchangepoint/attribute.flags", "internal/bytealg.MaxLen"], apart := false, laid := [("unicode/utf8.acceptRanges", laid_unicode_utf8_acceptRanges), ("exchangepoint/attribute.flags", laid_exchangepoint_attribute_flags), ("unicode/utf8.first", laid_unicode_utf8_first)], narrowed := true }
def FilterChecksUptoSaid : Prop := filterChecksUptoRow.holds Tryz.pinned (OpenSpec.upto filterChecksSpec)

/-- 'exchangepointlaw24.FilterFirst', WHERE WHAT IT READS IS OF BULK AT MOST 1048576: true; the input reads as it did. -/
def filterFirstUptoRow : OpenClaim := { program := "ytckndjeehbfpkaagreatdoor", sum := "7e54981657715e7d3dad753c1b237e6b4e5b537e2d1617d612b808b0470f52c6", func := "exchangepoint/exchangepointlaw24.FilterFirst", spec := "filterFirst", inPlace := ["internal/bytealg.IndexByteString", "internal/bytealg.IndexString"], unfollowed := true, recurses := true, named := ["unicode/utf8.first", "unicode/utf8.acceptRanges", "exchangepoint/attribute.flags", "internal/bytealg.MaxLen"], apart := false, laid := [("unicode/utf8.acceptRanges", laid_unicode_utf8_acceptRanges), ("exchangepoint/attribute.flags", laid_exchangepoint_attribute_flags), ("unicode/utf8.first", laid_unicode_utf8_first)], narrowed := true }
def FilterFirstUptoSaid : Prop := filterFirstUptoRow.holds Tryz.pinned (OpenSpec.upto filterFirstSpec)

/-- 'exchangepointlaw24.FilterMore', WHERE WHAT IT READS IS OF BULK AT MOST 1048576: true; the input reads as it did. -/
def filterMoreUptoRow : OpenClaim := { program := "ytckndjeehbfpkaagreatdoor", sum := "7e54981657715e7d3dad753c1b237e6b4e5b537e2d1617d612b808b0470f52c6", func := "exchangepoint/exchangepointlaw24.FilterMore", spec := "filterMore", inPlace := ["internal/bytealg.IndexByteString", "internal/bytealg.IndexString"], unfollowed := true, recurses := true, named := ["exchangepoint/attribute.flags", "unicode/utf8.first", "unicode/utf8.acceptRanges", "internal/bytealg.MaxLen"], apart := false, laid := [("unicode/utf8.acceptRanges", laid_unicode_utf8_acceptRanges), ("exchangepoint/attribute.flags", laid_exchangepoint_attribute_flags), ("unicode/utf8.first", laid_unicode_utf8_first)], narrowed := true }
def FilterMoreUptoSaid : Prop := filterMoreUptoRow.holds Tryz.pinned (OpenSpec.upto filterMoreSpec)

/-- 'exchangepointlaw24.FilterValid', WHERE WHAT IT READS IS OF BULK AT MOST 1048576: true; the input reads as it did. -/
def filterValidUptoRow : OpenClaim := { program := "ytckndjeehbfpkaagreatdoor", sum := "7e54981657715e7d3dad753c1b237e6b4e5b537e2d1617d612b808b0470f52c6", func := "exchangepoint/exchangepointlaw24.FilterValid", spec := "filterValid", inPlace := ["internal/bytealg.IndexByteString", "internal/bytealg.IndexString"], unfollowed := true, recurses := true, named := ["unicode/utf8.first", "unicode/utf8.acceptRanges", "exchangepoint/attribute.flags", "internal/bytealg.MaxLen"], apart := false, laid := [("unicode/utf8.acceptRanges", laid_unicode_utf8_acceptRanges), ("exchangepoint/attribute.flags", laid_exchangepoint_attribute_flags), ("unicode/utf8.first", laid_unicode_utf8_first)], narrowed := true }
def FilterValidUptoSaid : Prop := filterValidUptoRow.holds Tryz.pinned (OpenSpec.upto filterValidSpec)

end Rows
end Go.Proofs.YtckndjeehbfpkaaGreatDoor
