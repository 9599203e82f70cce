/-
  NARROWER THAN 'FOR EVERY INPUT', by the rows' own cells (each row's printed sentence says how): IrrExpands: laid · IrrOrder: laid · IrrNormal: laid · IrrMore: laid · IrrObjects: laid · IrrPermitted: laid.
  DERIVED. THE GIVEN ROWS OF THIS SEAT. 6 by the template 'for every input the law returns true; each argument reads behind the call as it read before'; 0 by the template 'total and deterministic' (their statements: YtmklgpchdphohaaGreatDoorTotals.lean).
  GIVEN WITH THE SEED: the statements are not yours to turn. If you find one false, say at which input.
  Laid BY PROGRAM, IN A SANDBOX (cutbox-rows.mjs): the forced cells as the released guide's own fill.sh prints them over the translation 09cf4ffce97a0fb6… (all of the seat's roots in one cut). By AI agents, Wed Nov 11 2026. No macro, syntax, notation, axiom, sorry.
-/
import Derived.Test.YtmklgpchdphohaaGreatDoorChecked
import GoSem.PinnedTables
import GoSem.Claim
import GoSem.ClaimJoined
import GoSem.ClaimMapViews
import Derived.JoinedTies
import Derived.KernelRfl
namespace Go.Proofs.YtmklgpchdphohaaGreatDoor
/- THE CELL 'sum', in the pinned program and in every row, IS THE sha256 OF THE DUMP (.gsa) THAT YtmklgpchdphohaaGreatDoorProg.lean LOADS. Nothing in Lean hashes anything: it is a label: what it is worth is what the hold of that sum in a sandbox is worth. -/
noncomputable def Tryz.pinned : Pinned := { name := "ytmklgpchdphohaagreatdoor", sum := "09cf4ffce97a0fb63d81a967f644ebdb2aa81d15a6bcae75ab8134c92b3db120", checked := Tryz.checked }
namespace Rows
def none {H : Type} : Left H := { results := [], args := [] }

/- WHAT THE LISTED PACKAGE-LEVEL VARIABLES READ AS WHEN THE CALL BEGINS. Each datum BY PROGRAM (the guide's laid-datum.mjs) off the statement by which the dump's own 'gosem.cut.vars' lays the variable. In a bare row this is a premise. The card (YtmklgpchdphohaaGreatDoorCards.lean) ties it to the program's text. -/
def laid_unicode_utf8_acceptRanges {H : Type} : DataW H := .agg [.agg [.lit (.int .u8 128), .lit (.int .u8 191)], .agg [.lit (.int .u8 160), .lit (.int .u8 191)], .agg [.lit (.int .u8 128), .lit (.int .u8 159)], .agg [.lit (.int .u8 144), .lit (.int .u8 191)], .agg [.lit (.int .u8 128), .lit (.int .u8 143)], .agg [.lit (.int .u8 0), .lit (.int .u8 0)], .agg [.lit (.int .u8 0), .lit (.int .u8 0)], .agg [.lit (.int .u8 0), .lit (.int .u8 0)], .agg [.lit (.int .u8 0), .lit (.int .u8 0)], .agg [.lit (.int .u8 0), .lit (.int .u8 0)], .agg [.lit (.int .u8 0), .lit (.int .u8 0)], .agg [.lit (.int .u8 0), .lit (.int .u8 0)], .agg [.lit (.int .u8 0), .lit (.int .u8 0)], .agg [.lit (.int .u8 0), .lit (.int .u8 0)], .agg [.lit (.int .u8 0), .lit (.int .u8 0)], .agg [.lit (.int .u8 0), .lit (.int .u8 0)]]
/-- One of Go's own tables, pinned by name: the form's constant. -/
def laid_unicode_utf8_first : DataW Unit := Go.Pinned.utf8First

/-- 'exchangepointlaw20.IrrExpands': WHATEVER THE INPUT: true; the input reads as it did. -/
def irrExpandsSpec : ChangeSpec := { name := "irrExpands", fn := fun _ => fun
  | [d1, d2, d3, d4, d5] => { results := [.lit (.bool true)], args := [d1, d2, d3, d4, d5] }
  | _ => none }
def irrExpandsRow : OpenClaim := { program := "ytmklgpchdphohaagreatdoor", sum := "09cf4ffce97a0fb63d81a967f644ebdb2aa81d15a6bcae75ab8134c92b3db120", func := "exchangepoint/exchangepointlaw20.IrrExpands", spec := "irrExpands", inPlace := ["internal/bytealg.IndexByteString", "internal/bytealg.IndexString"], unfollowed := true, recurses := true, named := ["unicode/utf8.first", "unicode/utf8.acceptRanges", "internal/bytealg.MaxLen"], apart := false, laid := [("unicode/utf8.acceptRanges", laid_unicode_utf8_acceptRanges), ("unicode/utf8.first", laid_unicode_utf8_first)] }
def IrrExpandsSaid : Prop := irrExpandsRow.holds Tryz.pinned (OpenSpec.ofChange irrExpandsSpec)

/-- ITS FALSE NEIGHBOUR: 'it returns false'. Refute it at one input. -/
def irrExpandsWrong : ChangeSpec := { name := "irrExpands", fn := fun _ => fun
  | [d1, d2, d3, d4, d5] => { results := [.lit (.bool false)], args := [d1, d2, d3, d4, d5] }
  | _ => none }
def IrrExpandsWrongFalsely : Prop := irrExpandsRow.holds Tryz.pinned (OpenSpec.ofChange irrExpandsWrong)

/-- 'exchangepointlaw20.IrrOrder': WHATEVER THE INPUT: true; the input reads as it did. -/
def irrOrderSpec : ChangeSpec := { name := "irrOrder", fn := fun _ => fun
  | [d1, d2] => { results := [.lit (.bool true)], args := [d1, d2] }
  | _ => none }
def irrOrderRow : OpenClaim := { program := "ytmklgpchdphohaagreatdoor", sum := "09cf4ffce97a0fb63d81a967f644ebdb2aa81d15a6bcae75ab8134c92b3db120", func := "exchangepoint/exchangepointlaw20.IrrOrder", spec := "irrOrder", inPlace := ["internal/bytealg.IndexByteString", "internal/bytealg.IndexString"], unfollowed := true, recurses := true, named := ["unicode/utf8.first", "unicode/utf8.acceptRanges", "internal/bytealg.MaxLen"], apart := false, laid := [("unicode/utf8.acceptRanges", laid_unicode_utf8_acceptRanges), ("unicode/utf8.first", laid_unicode_utf8_first)] }
def IrrOrderSaid : Prop := irrOrderRow.holds Tryz.pinned (OpenSpec.ofChange irrOrderSpec)

/-- ITS FALSE NEIGHBOUR: 'it returns false'. Refute it at one input. -/
def irrOrderWrong : ChangeSpec := { name := "irrOrder", fn := fun _ => fun
  | [d1, d2] => { results := [.lit (.bool false)], args := [d1, d2] }
  | _ => none }
def IrrOrderWrongFalsely : Prop := irrOrderRow.holds Tryz.pinned (OpenSpec.ofChange irrOrderWrong)

/-- 'exchangepointlaw20.IrrNormal': WHATEVER THE INPUT: true; the input reads as it did. -/
def irrNormalSpec : ChangeSpec := { name := "irrNormal", fn := fun _ => fun
  | [d1, d2] => { results := [.lit (.bool true)], args := [d1, d2] }
  | _ => none }
def irrNormalRow : OpenClaim := { program := "ytmklgpchdphohaagreatdoor", sum := "09cf4ffce97a0fb63d81a967f644ebdb2aa81d15a6bcae75ab8134c92b3db120", func := "exchangepoint/exchangepointlaw20.IrrNormal", spec := "irrNormal", inPlace := ["internal/bytealg.IndexByteString", "internal/bytealg.IndexString"], unfollowed := true, recurses := true, named := ["unicode/utf8.first", "unicode/utf8.acceptRanges", "internal/bytealg.MaxLen"], apart := false, laid := [("unicode/utf8.acceptRanges", laid_unicode_utf8_acceptRanges), ("unicode/utf8.first", laid_unicode_utf8_first)] }
def IrrNormalSaid : Prop := irrNormalRow.holds Tryz.pinned (OpenSpec.ofChange irrNormalSpec)

/-- ITS FALSE NEIGHBOUR: 'it returns false'. Refute it at one input. -/
def irrNormalWrong : ChangeSpec := { name := "irrNormal", fn := fun _ => fun
  | [d1, d2] => { results := [.lit (.bool false)], args := [d1, d2] }
  | _ => none }
def IrrNormalWrongFalsely : Prop := irrNormalRow.holds Tryz.pinned (OpenSpec.ofChange irrNormalWrong)

/-- 'exchangepointlaw20.IrrMore': WHATEVER THE INPUT: true; the input reads as it did. -/
def irrMoreSpec : ChangeSpec := { name := "irrMore", fn := fun _ => fun
  | [d1, d2, d3] => { results := [.lit (.bool true)], args := [d1, d2, d3] }
  | _ => none }
def irrMoreRow : OpenClaim := { program := "ytmklgpchdphohaagreatdoor", sum := "09cf4ffce97a0fb63d81a967f644ebdb2aa81d15a6bcae75ab8134c92b3db120", func := "exchangepoint/exchangepointlaw20.IrrMore", spec := "irrMore", inPlace := ["internal/bytealg.IndexByteString", "internal/bytealg.IndexString"], unfollowed := true, recurses := true, named := ["unicode/utf8.first", "unicode/utf8.acceptRanges", "internal/bytealg.MaxLen"], apart := false, laid := [("unicode/utf8.acceptRanges", laid_unicode_utf8_acceptRanges), ("unicode/utf8.first", laid_unicode_utf8_first)] }
def IrrMoreSaid : Prop := irrMoreRow.holds Tryz.pinned (OpenSpec.ofChange irrMoreSpec)

/-- ITS FALSE NEIGHBOUR: 'it returns false'. Refute it at one input. -/
def irrMoreWrong : ChangeSpec := { name := "irrMore", fn := fun _ => fun
  | [d1, d2, d3] => { results := [.lit (.bool false)], args := [d1, d2, d3] }
  | _ => none }
def IrrMoreWrongFalsely : Prop := irrMoreRow.holds Tryz.pinned (OpenSpec.ofChange irrMoreWrong)

/-- 'exchangepointlaw20.IrrObjects': WHATEVER THE INPUT: true; the input reads as it did. -/
def irrObjectsSpec : ChangeSpec := { name := "irrObjects", fn := fun _ => fun
  | [d1, d2, d3, d4] => { results := [.lit (.bool true)], args := [d1, d2, d3, d4] }
  | _ => none }
def irrObjectsRow : OpenClaim := { program := "ytmklgpchdphohaagreatdoor", sum := "09cf4ffce97a0fb63d81a967f644ebdb2aa81d15a6bcae75ab8134c92b3db120", func := "exchangepoint/exchangepointlaw20.IrrObjects", spec := "irrObjects", inPlace := ["internal/bytealg.IndexByteString", "internal/bytealg.IndexString"], unfollowed := true, recurses := true, named := ["unicode/utf8.first", "unicode/utf8.acceptRanges", "internal/bytealg.MaxLen"], apart := false, laid := [("unicode/utf8.acceptRanges", laid_unicode_utf8_acceptRanges), ("unicode/utf8.first", laid_unicode_utf8_first)] }
def IrrObjectsSaid : Prop := irrObjectsRow.holds Tryz.pinned (OpenSpec.ofChange irrObjectsSpec)

/-- ITS FALSE NEIGHBOUR: 'it returns false'. Refute it at one input. -/
def irrObjectsWrong : ChangeSpec := { name := "irrObjects", fn := fun _ => fun
  | [d1, d2, d3, d4] => { results := [.lit (.bool false)], args := [d1, d2, d3, d4] }
  | _ => none }
def IrrObjectsWrongFalsely : Prop := irrObjectsRow.holds Tryz.pinned (OpenSpec.ofChange irrObjectsWrong)

/-- 'exchangepointlaw20.IrrPermitted': WHATEVER THE INPUT: true; the input reads as it did. -/
def irrPermittedSpec : ChangeSpec := { name := "irrPermitted", fn := fun _ => fun
  | [d1, d2, d3, d4, d5, d6] => { results := [.lit (.bool true)], args := [d1, d2, d3, d4, d5, d6] }
  | _ => none }
def irrPermittedRow : OpenClaim := { program := "ytmklgpchdphohaagreatdoor", sum := "09cf4ffce97a0fb63d81a967f644ebdb2aa81d15a6bcae75ab8134c92b3db120", func := "exchangepoint/exchangepointlaw20.IrrPermitted", spec := "irrPermitted", inPlace := ["internal/bytealg.IndexByteString", "internal/bytealg.IndexString"], unfollowed := true, recurses := true, named := ["unicode/utf8.first", "unicode/utf8.acceptRanges", "internal/bytealg.MaxLen"], apart := false, laid := [("unicode/utf8.acceptRanges", laid_unicode_utf8_acceptRanges), ("unicode/utf8.first", laid_unicode_utf8_first)] }
def IrrPermittedSaid : Prop := irrPermittedRow.holds Tryz.pinned (OpenSpec.ofChange irrPermittedSpec)

/-- ITS FALSE NEIGHBOUR: 'it returns false'. Refute it at one input. -/
def irrPermittedWrong : ChangeSpec := { name := "irrPermitted", fn := fun _ => fun
  | [d1, d2, d3, d4, d5, d6] => { results := [.lit (.bool false)], args := [d1, d2, d3, d4, d5, d6] }
  | _ => none }
def IrrPermittedWrongFalsely : Prop := irrPermittedRow.holds Tryz.pinned (OpenSpec.ofChange irrPermittedWrong)

/- THE SECOND FORM. 'bulk': how many values and letters a reading holds, each counted each time it is reached (what is shared counts as often as it is met; a slice's spare places count too). A statement '..UptoSaid' is the law's where the arguments, and the package variables that the reading takes, are together of bulk at most 1048576: NARROWER than '..Said'. Prove '..Said' where nothing that the law and all that it calls make is longer than what came in: it says more and counts as full. Else prove '..UptoSaid'. A law counts once. -/
mutual
def uptoBulk {H : Type} : DataW H → Nat
  | .lit (.string bytes) => bytes.length + 1
  | .lit _ => 1
  | .nil => 1
  | .ptr d => uptoBulk d + 1
  | .slice elems spare => uptoBulkAll elems + uptoBulkAll spare + 1
  | .agg parts => uptoBulkAll parts + 1
  | .iface _ d => uptoBulk d + 1
  | .map entries => uptoBulkEntries entries + 1
  | .held _ => 1
def uptoBulkAll {H : Type} : List (DataW H) → Nat
  | [] => 0
  | d :: r => uptoBulk d + uptoBulkAll r
def uptoBulkEntries {H : Type} : List (Lit × DataW H) → Nat
  | [] => 0
  | x :: r => uptoBulkEntry x + uptoBulkEntries r
def uptoBulkEntry {H : Type} : Lit × DataW H → Nat
  | (.string bytes, d) => bytes.length + uptoBulk d + 1
  | (_, d) => uptoBulk d + 1
 end
def uptoSmall : (H : Type) → List (DataW H) → Bool := fun _ ds => decide (uptoBulkAll ds ≤ 1048576)
def OpenSpec.upto (s : _root_.Go.ChangeSpec) : _root_.Go.OpenSpec := { _root_.Go.OpenSpec.ofChange s with cond := some uptoSmall }

/-- 'exchangepointlaw20.IrrExpands', WHERE WHAT IT READS IS OF BULK AT MOST 1048576: true; the input reads as it did. -/
def irrExpandsUptoRow : OpenClaim := { program := "ytmklgpchdphohaagreatdoor", sum := "09cf4ffce97a0fb63d81a967f644ebdb2aa81d15a6bcae75ab8134c92b3db120", func := "exchangepoint/exchangepointlaw20.IrrExpands", spec := "irrExpands", inPlace := ["internal/bytealg.IndexByteString", "internal/bytealg.IndexString"], unfollowed := true, recurses := true, named := ["unicode/utf8.first", "unicode/utf8.acceptRanges", "internal/bytealg.MaxLen"], apart := false, laid := [("unicode/utf8.acceptRanges", laid_unicode_utf8_acceptRanges), ("unicode/utf8.first", laid_unicode_utf8_first)], narrowed := true }
def IrrExpandsUptoSaid : Prop := irrExpandsUptoRow.holds Tryz.pinned (OpenSpec.upto irrExpandsSpec)

/-- 'exchangepointlaw20.IrrOrder', WHERE WHAT IT READS IS OF BULK AT MOST 1048576: true; the input reads as it did. -/
def irrOrderUptoRow : OpenClaim := { program := "ytmklgpchdphohaagreatdoor", sum := "09cf4ffce97a0fb63d81a967f644ebdb2aa81d15a6bcae75ab8134c92b3db120", func := "exchangepoint/exchangepointlaw20.IrrOrder", spec := "irrOrder", inPlace := ["internal/bytealg.IndexByteString", "internal/bytealg.IndexString"], unfollowed := true, recurses := true, named := ["unicode/utf8.first", "unicode/utf8.acceptRanges", "internal/bytealg.MaxLen"], apart := false, laid := [("unicode/utf8.acceptRanges", laid_unicode_utf8_acceptRanges), ("unicode/utf8.first", laid_unicode_utf8_first)], narrowed := true }
def IrrOrderUptoSaid : Prop := irrOrderUptoRow.holds Tryz.pinned (OpenSpec.upto irrOrderSpec)

/-- 'exchangepointlaw20.IrrNormal', WHERE WHAT IT READS IS OF BULK AT MOST 1048576: true; the input reads as it did. -/
def irrNormalUptoRow : OpenClaim := { program := "ytmklgpchdphohaagreatdoor", sum := "09cf4ffce97a0fb63d81a967f644ebdb2aa81d15a6bcae75ab8134c92b3db120", func := "exchangepoint/exchangepointlaw20.IrrNormal", spec := "irrNormal", inPlace := ["internal/bytealg.IndexByteString", "internal/bytealg.IndexString"], unfollowed := true, recurses := true, named := ["unicode/utf8.first", "unicode/utf8.acceptRanges", "internal/bytealg.MaxLen"], apart := false, laid := [("unicode/utf8.acceptRanges", laid_unicode_utf8_acceptRanges), ("unicode/utf8.first", laid_unicode_utf8_first)], narrowed := true }
def IrrNormalUptoSaid : Prop := irrNormalUptoRow.holds Tryz.pinned (OpenSpec.upto irrNormalSpec)

/-- 'exchangepointlaw20.IrrMore', WHERE WHAT IT READS IS OF BULK AT MOST 1048576: true; the input reads as it did. -/
def irrMoreUptoRow : OpenClaim := { program := "ytmklgpchdphohaagreatdoor", sum := "09cf4ffce97a0fb63d81a967f644ebdb2aa81d15a6bcae75ab8134c92b3db120", func := "exchangepoint/exchangepointlaw20.IrrMore", spec := "irrMore", inPlace := ["internal/bytealg.IndexByteString", "internal/bytealg.IndexString"], unfollowed := true, recurses := true, named := ["unicode/utf8.first", "unicode/utf8.acceptRanges", "internal/bytealg.MaxLen"], apart := false, laid := [("unicode/utf8.acceptRanges", laid_unicode_utf8_acceptRanges), ("unicode/utf8.first", laid_unicode_utf8_first)], narrowed := true }
def IrrMoreUptoSaid : Prop := irrMoreUptoRow.holds Tryz.pinned (OpenSpec.upto irrMoreSpec)

/-- 'exchangepointlaw20.IrrObjects', WHERE WHAT IT READS IS OF BULK AT MOST 1048576: true; the input reads as it did. -/
def irrObjectsUptoRow : OpenClaim := { program := "ytmklgpchdphohaagreatdoor", sum := "09cf4ffce97a0fb63d81a967f644ebdb2aa81d15a6bcae75ab8134c92b3db120", func := "exchangepoint/exchangepointlaw20.IrrObjects", spec := "irrObjects", inPlace := ["internal/bytealg.IndexByteString", "internal/bytealg.IndexString"], unfollowed := true, recurses := true, named := ["unicode/utf8.first", "unicode/utf8.acceptRanges", "internal/bytealg.MaxLen"], apart := false, laid := [("unicode/utf8.acceptRanges", laid_unicode_utf8_acceptRanges), ("unicode/utf8.first", laid_unicode_utf8_first)], narrowed := true }
def IrrObjectsUptoSaid : Prop := irrObjectsUptoRow.holds Tryz.pinned (OpenSpec.upto irrObjectsSpec)

/-- 'exchangepointlaw20.IrrPermitted', WHERE WHAT IT READS IS OF BULK AT MOST 1048576: true; the input reads as it did. -/
def irrPermittedUptoRow : OpenClaim := { program := "ytmklgpchdphohaagreatdoor", sum := "09cf4ffce97a0fb63d81a967f644ebdb2aa81d15a6bcae75ab8134c92b3db120", func := "exchangepoint/exchangepointlaw20.IrrPermitted", spec := "irrPermitted", inPlace := ["internal/bytealg.IndexByteString", "internal/bytealg.IndexString"], unfollowed := true, recurses := true, named := ["unicode/utf8.first", "unicode/utf8.acceptRanges", "internal/bytealg.MaxLen"], apart := false, laid := [("unicode/utf8.acceptRanges", laid_unicode_utf8_acceptRanges), ("unicode/utf8.first", laid_unicode_utf8_first)], narrowed := true }
def IrrPermittedUptoSaid : Prop := irrPermittedUptoRow.holds Tryz.pinned (OpenSpec.upto irrPermittedSpec)

end Rows
end Go.Proofs.YtmklgpchdphohaaGreatDoor
