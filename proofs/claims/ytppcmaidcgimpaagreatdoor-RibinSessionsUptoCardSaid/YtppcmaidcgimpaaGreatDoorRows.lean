/-
  NARROWER THAN 'FOR EVERY INPUT', by the rows' own cells (each row's printed sentence says how): RibinApplies: laid · RibinKeeps: laid · RibinValid: laid · RibinReturns: laid · RibinSessions: laid.
  DERIVED. THE GIVEN ROWS OF THIS SEAT. 5 by the template 'for every input the law returns true; each argument reads behind the call as it read before'; 0 by the template 'total and deterministic' (their statements: YtppcmaidcgimpaaGreatDoorTotals.lean).
  GIVEN WITH THE SEED: the statements are not yours to turn. If you find one false, say at which input.
  Laid BY PROGRAM, IN A SANDBOX (cutbox-rows.mjs): the forced cells as the released guide's own fill.sh prints them over the translation c5149aaa0477c049… (all of the seat's roots in one cut). By AI agents, Wed Nov 11 2026. No macro, syntax, notation, axiom, sorry.
-/
import Derived.Test.YtppcmaidcgimpaaGreatDoorChecked
import GoSem.PinnedTables
import GoSem.Claim
import GoSem.ClaimJoined
import GoSem.ClaimMapViews
import Derived.JoinedTies
import Derived.KernelRfl
namespace Go.Proofs.YtppcmaidcgimpaaGreatDoor
/- THE CELL 'sum', in the pinned program and in every row, IS THE sha256 OF THE DUMP (.gsa) THAT YtppcmaidcgimpaaGreatDoorProg.lean LOADS. Nothing in Lean hashes anything: it is a label: what it is worth is what the hold of that sum in a sandbox is worth. -/
noncomputable def Tryz.pinned : Pinned := { name := "ytppcmaidcgimpaagreatdoor", sum := "c5149aaa0477c049b4ee06d4ad72b886515bc5067f3e52c69abe6cd9aa78a8dc", checked := Tryz.checked }
namespace Rows
def none {H : Type} : Left H := { results := [], args := [] }

/- WHAT THE LISTED PACKAGE-LEVEL VARIABLES READ AS WHEN THE CALL BEGINS. Each datum BY PROGRAM (the guide's laid-datum.mjs) off the statement by which the dump's own 'gosem.cut.vars' lays the variable. In a bare row this is a premise. The card (YtppcmaidcgimpaaGreatDoorCards.lean) ties it to the program's text. -/
def laid_unicode_utf8_acceptRanges {H : Type} : DataW H := .agg [.agg [.lit (.int .u8 128), .lit (.int .u8 191)], .agg [.lit (.int .u8 160), .lit (.int .u8 191)], .agg [.lit (.int .u8 128), .lit (.int .u8 159)], .agg [.lit (.int .u8 144), .lit (.int .u8 191)], .agg [.lit (.int .u8 128), .lit (.int .u8 143)], .agg [.lit (.int .u8 0), .lit (.int .u8 0)], .agg [.lit (.int .u8 0), .lit (.int .u8 0)], .agg [.lit (.int .u8 0), .lit (.int .u8 0)], .agg [.lit (.int .u8 0), .lit (.int .u8 0)], .agg [.lit (.int .u8 0), .lit (.int .u8 0)], .agg [.lit (.int .u8 0), .lit (.int .u8 0)], .agg [.lit (.int .u8 0), .lit (.int .u8 0)], .agg [.lit (.int .u8 0), .lit (.int .u8 0)], .agg [.lit (.int .u8 0), .lit (.int .u8 0)], .agg [.lit (.int .u8 0), .lit (.int .u8 0)], .agg [.lit (.int .u8 0), .lit (.int .u8 0)]]
def laid_exchangepoint_attribute_flags {H : Type} : DataW H := .map [(.int .i64 1, .lit (.int .i64 64)), (.int .i64 2, .lit (.int .i64 64)), (.int .i64 3, .lit (.int .i64 64)), (.int .i64 4, .lit (.int .i64 128)), (.int .i64 5, .lit (.int .i64 64)), (.int .i64 8, .lit (.int .i64 192)), (.int .i64 32, .lit (.int .i64 192)), (.int .i64 35, .lit (.int .i64 192))]
/-- One of Go's own tables, pinned by name: the form's constant. -/
def laid_unicode_utf8_first : DataW Unit := Go.Pinned.utf8First

/-- 'exchangepointlaw25.RibinApplies': WHATEVER THE INPUT: true; the input reads as it did. -/
def ribinAppliesSpec : ChangeSpec := { name := "ribinApplies", fn := fun _ => fun
  | [d1, d2, d3, d4, d5, d6] => { results := [.lit (.bool true)], args := [d1, d2, d3, d4, d5, d6] }
  | _ => none }
def ribinAppliesRow : OpenClaim := { program := "ytppcmaidcgimpaagreatdoor", sum := "c5149aaa0477c049b4ee06d4ad72b886515bc5067f3e52c69abe6cd9aa78a8dc", func := "exchangepoint/exchangepointlaw25.RibinApplies", spec := "ribinApplies", inPlace := ["internal/bytealg.IndexByteString", "internal/bytealg.IndexString", "slices.overlaps[exchangepoint/api.Held]"], unfollowed := true, recurses := true, named := ["exchangepoint/attribute.flags", "unicode/utf8.first", "unicode/utf8.acceptRanges", "internal/bytealg.MaxLen"], apart := false, laid := [("unicode/utf8.acceptRanges", laid_unicode_utf8_acceptRanges), ("exchangepoint/attribute.flags", laid_exchangepoint_attribute_flags), ("unicode/utf8.first", laid_unicode_utf8_first)] }
def RibinAppliesSaid : Prop := ribinAppliesRow.holds Tryz.pinned (OpenSpec.ofChange ribinAppliesSpec)

/-- ITS FALSE NEIGHBOUR: 'it returns false'. Refute it at one input. -/
def ribinAppliesWrong : ChangeSpec := { name := "ribinApplies", fn := fun _ => fun
  | [d1, d2, d3, d4, d5, d6] => { results := [.lit (.bool false)], args := [d1, d2, d3, d4, d5, d6] }
  | _ => none }
def RibinAppliesWrongFalsely : Prop := ribinAppliesRow.holds Tryz.pinned (OpenSpec.ofChange ribinAppliesWrong)

/-- 'exchangepointlaw25.RibinKeeps': WHATEVER THE INPUT: true; the input reads as it did. -/
def ribinKeepsSpec : ChangeSpec := { name := "ribinKeeps", fn := fun _ => fun
  | [d] => { results := [.lit (.bool true)], args := [d] }
  | _ => none }
def ribinKeepsRow : OpenClaim := { program := "ytppcmaidcgimpaagreatdoor", sum := "c5149aaa0477c049b4ee06d4ad72b886515bc5067f3e52c69abe6cd9aa78a8dc", func := "exchangepoint/exchangepointlaw25.RibinKeeps", spec := "ribinKeeps", inPlace := ["internal/bytealg.IndexByteString", "internal/bytealg.IndexString", "slices.overlaps[exchangepoint/api.Held]"], unfollowed := true, recurses := true, named := ["unicode/utf8.first", "unicode/utf8.acceptRanges", "exchangepoint/attribute.flags", "internal/bytealg.MaxLen"], apart := false, laid := [("unicode/utf8.acceptRanges", laid_unicode_utf8_acceptRanges), ("exchangepoint/attribute.flags", laid_exchangepoint_attribute_flags), ("unicode/utf8.first", laid_unicode_utf8_first)] }
def RibinKeepsSaid : Prop := ribinKeepsRow.holds Tryz.pinned (OpenSpec.ofChange ribinKeepsSpec)

/-- ITS FALSE NEIGHBOUR: 'it returns false'. Refute it at one input. -/
def ribinKeepsWrong : ChangeSpec := { name := "ribinKeeps", fn := fun _ => fun
  | [d] => { results := [.lit (.bool false)], args := [d] }
  | _ => none }
def RibinKeepsWrongFalsely : Prop := ribinKeepsRow.holds Tryz.pinned (OpenSpec.ofChange ribinKeepsWrong)

/-- 'exchangepointlaw25.RibinValid': WHATEVER THE INPUT: true; the input reads as it did. -/
def ribinValidSpec : ChangeSpec := { name := "ribinValid", fn := fun _ => fun
  | [d1, d2, d3, d4, d5, d6] => { results := [.lit (.bool true)], args := [d1, d2, d3, d4, d5, d6] }
  | _ => none }
def ribinValidRow : OpenClaim := { program := "ytppcmaidcgimpaagreatdoor", sum := "c5149aaa0477c049b4ee06d4ad72b886515bc5067f3e52c69abe6cd9aa78a8dc", func := "exchangepoint/exchangepointlaw25.RibinValid", spec := "ribinValid", inPlace := ["internal/bytealg.IndexByteString", "internal/bytealg.IndexString", "slices.overlaps[exchangepoint/api.Held]"], unfollowed := true, recurses := true, named := ["exchangepoint/attribute.flags", "unicode/utf8.first", "unicode/utf8.acceptRanges", "internal/bytealg.MaxLen"], apart := false, laid := [("unicode/utf8.acceptRanges", laid_unicode_utf8_acceptRanges), ("exchangepoint/attribute.flags", laid_exchangepoint_attribute_flags), ("unicode/utf8.first", laid_unicode_utf8_first)] }
def RibinValidSaid : Prop := ribinValidRow.holds Tryz.pinned (OpenSpec.ofChange ribinValidSpec)

/-- ITS FALSE NEIGHBOUR: 'it returns false'. Refute it at one input. -/
def ribinValidWrong : ChangeSpec := { name := "ribinValid", fn := fun _ => fun
  | [d1, d2, d3, d4, d5, d6] => { results := [.lit (.bool false)], args := [d1, d2, d3, d4, d5, d6] }
  | _ => none }
def RibinValidWrongFalsely : Prop := ribinValidRow.holds Tryz.pinned (OpenSpec.ofChange ribinValidWrong)

/-- 'exchangepointlaw25.RibinReturns': WHATEVER THE INPUT: true; the input reads as it did. -/
def ribinReturnsSpec : ChangeSpec := { name := "ribinReturns", fn := fun _ => fun
  | [d1, d2] => { results := [.lit (.bool true)], args := [d1, d2] }
  | _ => none }
def ribinReturnsRow : OpenClaim := { program := "ytppcmaidcgimpaagreatdoor", sum := "c5149aaa0477c049b4ee06d4ad72b886515bc5067f3e52c69abe6cd9aa78a8dc", func := "exchangepoint/exchangepointlaw25.RibinReturns", spec := "ribinReturns", inPlace := ["internal/bytealg.IndexByteString", "internal/bytealg.IndexString", "slices.overlaps[exchangepoint/api.Held]"], unfollowed := true, recurses := true, named := ["exchangepoint/attribute.flags", "unicode/utf8.first", "unicode/utf8.acceptRanges", "internal/bytealg.MaxLen"], apart := false, laid := [("unicode/utf8.acceptRanges", laid_unicode_utf8_acceptRanges), ("exchangepoint/attribute.flags", laid_exchangepoint_attribute_flags), ("unicode/utf8.first", laid_unicode_utf8_first)] }
def RibinReturnsSaid : Prop := ribinReturnsRow.holds Tryz.pinned (OpenSpec.ofChange ribinReturnsSpec)

/-- ITS FALSE NEIGHBOUR: 'it returns false'. Refute it at one input. -/
def ribinReturnsWrong : ChangeSpec := { name := "ribinReturns", fn := fun _ => fun
  | [d1, d2] => { results := [.lit (.bool false)], args := [d1, d2] }
  | _ => none }
def RibinReturnsWrongFalsely : Prop := ribinReturnsRow.holds Tryz.pinned (OpenSpec.ofChange ribinReturnsWrong)

/-- 'exchangepointlaw25.RibinSessions': WHATEVER THE INPUT: true; the input reads as it did. -/
def ribinSessionsSpec : ChangeSpec := { name := "ribinSessions", fn := fun _ => fun
  | [d1, d2, d3, d4, d5] => { results := [.lit (.bool true)], args := [d1, d2, d3, d4, d5] }
  | _ => none }
def ribinSessionsRow : OpenClaim := { program := "ytppcmaidcgimpaagreatdoor", sum := "c5149aaa0477c049b4ee06d4ad72b886515bc5067f3e52c69abe6cd9aa78a8dc", func := "exchangepoint/exchangepointlaw25.RibinSessions", spec := "ribinSessions", inPlace := ["internal/bytealg.IndexByteString", "internal/bytealg.IndexString", "slices.overlaps[exchangepoint/api.Held]"], unfollowed := true, recurses := true, named := ["exchangepoint/attribute.flags", "unicode/utf8.first", "unicode/utf8.acceptRanges", "internal/bytealg.MaxLen"], apart := false, laid := [("unicode/utf8.acceptRanges", laid_unicode_utf8_acceptRanges), ("exchangepoint/attribute.flags", laid_exchangepoint_attribute_flags), ("unicode/utf8.first", laid_unicode_utf8_first)] }
def RibinSessionsSaid : Prop := ribinSessionsRow.holds Tryz.pinned (OpenSpec.ofChange ribinSessionsSpec)

/-- ITS FALSE NEIGHBOUR: 'it returns false'. Refute it at one input. -/
def ribinSessionsWrong : ChangeSpec := { name := "ribinSessions", fn := fun _ => fun
  | [d1, d2, d3, d4, d5] => { results := [.lit (.bool false)], args := [d1, d2, d3, d4, d5] }
  | _ => none }
def RibinSessionsWrongFalsely : Prop := ribinSessionsRow.holds Tryz.pinned (OpenSpec.ofChange ribinSessionsWrong)

/- THE SECOND FORM. 'bulk': how many values and letters a reading holds, each counted each time it is reached (what is shared counts as often as it is met; a slice's spare places count too). A statement '..UptoSaid' is the law's where the arguments, and the package variables that the reading takes, are together of bulk at most 1048576: NARROWER than '..Said'. Prove '..Said' where nothing that the law and all that it calls make is longer than what came in: it says more and counts as full. Else prove '..UptoSaid'. A law counts once. -/
mutual
def uptoBulk {H : Type} : DataW H → Nat
  | .lit (.string bytes) => bytes.length + 1
  | .lit _ => 1
  | .nil => 1
  | .ptr d => uptoBulk d + 1
  | .slice elems spare => uptoBulkAll elems + uptoBulkAll spare + 1
  | .agg parts => uptoBulkAll parts + 1
  | .iface _ d => uptoBulk d + 1
  | .map entries => uptoBulkEntries entries + 1
  | .held _ => 1
def uptoBulkAll {H : Type} : List (DataW H) → Nat
  | [] => 0
  | d :: r => uptoBulk d + uptoBulkAll r
def uptoBulkEntries {H : Type} : List (Lit × DataW H) → Nat
  | [] => 0
  | x :: r => uptoBulkEntry x + uptoBulkEntries r
def uptoBulkEntry {H : Type} : Lit × DataW H → Nat
  | (.string bytes, d) => bytes.length + uptoBulk d + 1
  | (_, d) => uptoBulk d + 1
 end
def uptoSmall : (H : Type) → List (DataW H) → Bool := fun _ ds => decide (uptoBulkAll ds ≤ 1048576)
def OpenSpec.upto (s : _root_.Go.ChangeSpec) : _root_.Go.OpenSpec := { _root_.Go.OpenSpec.ofChange s with cond := some uptoSmall }

/-- 'exchangepointlaw25.RibinApplies', WHERE WHAT IT READS IS OF BULK AT MOST 1048576: true; the input reads as it did. -/
def ribinAppliesUptoRow : OpenClaim := { program := "ytppcmaidcgimpaagreatdoor", sum := "c5149aaa0477c049b4ee06d4ad72b886515bc5067f3e52c69abe6cd9aa78a8dc", func := "exchangepoint/exchangepointlaw25.RibinApplies", spec := "ribinApplies", inPlace := ["internal/bytealg.IndexByteString", "internal/bytealg.IndexString", "slices.overlaps[exchangepoint/api.Held]"], unfollowed := true, recurses := true, named := ["exchangepoint/attribute.flags", "unicode/utf8.first", "unicode/utf8.acceptRanges", "internal/bytealg.MaxLen"], apart := false, laid := [("unicode/utf8.acceptRanges", laid_unicode_utf8_acceptRanges), ("exchangepoint/attribute.flags", laid_exchangepoint_attribute_flags), ("unicode/utf8.first", laid_unicode_utf8_first)], narrowed := true }
def RibinAppliesUptoSaid : Prop := ribinAppliesUptoRow.holds Tryz.pinned (OpenSpec.upto ribinAppliesSpec)

/-- 'exchangepointlaw25.RibinKeeps', WHERE WHAT IT READS IS OF BULK AT MOST 1048576: true; the input reads as it did. -/
def ribinKeepsUptoRow : OpenClaim := { program := "ytppcmaidcgimpaagreatdoor", sum := "c5149aaa0477c049b4ee06d4ad72b886515bc5067f3e52c69abe6cd9aa78a8dc", func := "exchangepoint/exchangepointlaw25.RibinKeeps", spec := "ribinKeeps", inPlace := ["internal/bytealg.IndexByteString", "internal/bytealg.IndexString", "slices.overlaps[exchangepoint/api.Held]"], unfollowed := true, recurses := true, named := ["unicode/utf8.first", "unicode/utf8.acceptRanges", "exchangepoint/attribute.flags", "internal/bytealg.MaxLen"], apart := false, laid := [("unicode/utf8.acceptRanges", laid_unicode_utf8_acceptRanges), ("exchangepoint/attribute.flags", laid_exchangepoint_attribute_flags), ("unicode/utf8.first", laid_unicode_utf8_first)], narrowed := true }
def RibinKeepsUptoSaid : Prop := ribinKeepsUptoRow.holds Tryz.pinned (OpenSpec.upto ribinKeepsSpec)

/-- 'exchangepointlaw25.RibinValid', WHERE WHAT IT READS IS OF BULK AT MOST 1048576: true; the input reads as it did. -/
def ribinValidUptoRow : OpenClaim := { program := "ytppcmaidcgimpaagreatdoor", sum := "c5149aaa0477c049b4ee06d4ad72b886515bc5067f3e52c69abe6cd9aa78a8dc", func := "exchangepoint/exchangepointlaw25.RibinValid", spec := "ribinValid", inPlace := ["internal/bytealg.IndexByteString", "internal/bytealg.IndexString", "slices.overlaps[exchangepoint/api.Held]"], unfollowed := true, recurses := true, named := ["exchangepoint/attribute.flags", "unicode/utf8.first", "unicode/utf8.acceptRanges", "internal/bytealg.MaxLen"], apart := false, laid := [("unicode/utf8.acceptRanges", laid_unicode_utf8_acceptRanges), ("exchangepoint/attribute.flags", laid_exchangepoint_attribute_flags), ("unicode/utf8.first", laid_unicode_utf8_first)], narrowed := true }
def RibinValidUptoSaid : Prop := ribinValidUptoRow.holds Tryz.pinned (OpenSpec.upto ribinValidSpec)

/-- 'exchangepointlaw25.RibinReturns', WHERE WHAT IT READS IS OF BULK AT MOST 1048576: true; the input reads as it did. -/
def ribinReturnsUptoRow : OpenClaim := { program := "ytppcmaidcgimpaagreatdoor", sum := "c5149aaa0477c049b4ee06d4ad72b886515bc5067f3e52c69abe6cd9aa78a8dc", func := "exchangepoint/exchangepointlaw25.RibinReturns", spec := "ribinReturns", inPlace := ["internal/bytealg.IndexByteString", "internal/bytealg.IndexString", "slices.overlaps[exchangepoint/api.Held]"], unfollowed := true, recurses := true, named := ["exchangepoint/attribute.flags", "unicode/utf8.first", "unicode/utf8.acceptRanges", "internal/bytealg.MaxLen"], apart := false, laid := [("unicode/utf8.acceptRanges", laid_unicode_utf8_acceptRanges), ("exchangepoint/attribute.flags", laid_exchangepoint_attribute_flags), ("unicode/utf8.first", laid_unicode_utf8_first)], narrowed := true }
def RibinReturnsUptoSaid : Prop := ribinReturnsUptoRow.holds Tryz.pinned (OpenSpec.upto ribinReturnsSpec)

/-- 'exchangepointlaw25.RibinSessions', WHERE WHAT IT READS IS OF BULK AT MOST 1048576: true; the input reads as it did. -/
def ribinSessionsUptoRow : OpenClaim := { program := "ytppcmaidcgimpaagreatdoor", sum := "c5149aaa0477c049b4ee06d4ad72b886515bc5067f3e52c69abe6cd9aa78a8dc", func := "exchangepoint/exchangepointlaw25.RibinSessions", spec := "ribinSessions", inPlace := ["internal/bytealg.IndexByteString", "internal/bytealg.IndexString", "slices.overlaps[exchangepoint/api.Held]"], unfollowed := true, recurses := true, named := ["exchangepoint/attribute.flags", "unicode/utf8.first", "unicode/utf8.acceptRanges", "internal/bytealg.MaxLen"], apart := false, laid := [("unicode/utf8.acceptRanges", laid_unicode_utf8_acceptRanges), ("exchangepoint/attribute.flags", laid_exchangepoint_attribute_flags), ("unicode/utf8.first", laid_unicode_utf8_first)], narrowed := true }
def RibinSessionsUptoSaid : Prop := ribinSessionsUptoRow.holds Tryz.pinned (OpenSpec.upto ribinSessionsSpec)

end Rows
end Go.Proofs.YtppcmaidcgimpaaGreatDoor
