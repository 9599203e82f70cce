/-
  NARROWER THAN 'FOR EVERY INPUT', by the rows' own cells (each row's printed sentence says how): AttributeReads: laid · AttributeAny: laid · AttributeSplits: laid · AttributeOrder: laid · AttributeFaults: laid · AttributeBack: laid.
  DERIVED. THE GIVEN ROWS OF THIS SEAT. 6 by the template 'for every input the law returns true; each argument reads behind the call as it read before'; 0 by the template 'total and deterministic' (their statements: YtbhoockehnpdoaaDoorTotals.lean).
  GIVEN WITH THE SEED: the statements are not yours to turn. If you find one false, say at which input.
  Laid BY PROGRAM, IN A SANDBOX (cutbox-rows.mjs): the forced cells as the released guide's own fill.sh prints them over the translation 5b24aa06f6af96fe… (all of the seat's roots in one cut). By AI agents, Wed Nov 11 2026. No macro, syntax, notation, axiom, sorry.
-/
import Derived.Test.YtbhoockehnpdoaaDoorChecked
import GoSem.Claim
import GoSem.ClaimJoined
import GoSem.ClaimMapViews
import Derived.JoinedTies
import Derived.KernelRfl
namespace Go.Proofs.YtbhoockehnpdoaaDoor
/- THE CELL 'sum', in the pinned program and in every row, IS THE sha256 OF THE DUMP (.gsa) THAT YtbhoockehnpdoaaDoorProg.lean LOADS. Nothing in Lean hashes anything: it is a label: what it is worth is what the hold of that sum in a sandbox is worth. -/
noncomputable def Tryd.pinned : Pinned := { name := "ytbhoockehnpdoaadoor", sum := "5b24aa06f6af96fea8e94fec00458f8afffdbd2546415ec69773243984555360", checked := Tryd.checked }
namespace Rows
def none {H : Type} : Left H := { results := [], args := [] }

/- WHAT THE LISTED PACKAGE-LEVEL VARIABLES READ AS WHEN THE CALL BEGINS. Each datum BY PROGRAM (the guide's laid-datum.mjs) off the statement by which the dump's own 'gosem.cut.vars' lays the variable. In a bare row this is a premise. The card (YtbhoockehnpdoaaDoorCards.lean) ties it to the program's text. -/
def laid_exchangepoint_attribute_flags {H : Type} : DataW H := .map [(.int .i64 1, .lit (.int .i64 64)), (.int .i64 2, .lit (.int .i64 64)), (.int .i64 3, .lit (.int .i64 64)), (.int .i64 4, .lit (.int .i64 128)), (.int .i64 5, .lit (.int .i64 64)), (.int .i64 8, .lit (.int .i64 192)), (.int .i64 32, .lit (.int .i64 192)), (.int .i64 35, .lit (.int .i64 192))]
def laid_exchangepoint_attribute_readers {H : Type} : DataW H := .iface "func table" (.map [(.int .i64 1, .iface "func" (.lit (.string [101, 120, 99, 104, 97, 110, 103, 101, 112, 111, 105, 110, 116, 47, 97, 116, 116, 114, 105, 98, 117, 116, 101, 46, 114, 101, 97, 100, 79, 114, 105, 103, 105, 110]))), (.int .i64 2, .iface "func" (.lit (.string [101, 120, 99, 104, 97, 110, 103, 101, 112, 111, 105, 110, 116, 47, 97, 116, 116, 114, 105, 98, 117, 116, 101, 46, 114, 101, 97, 100, 80, 97, 116, 104]))), (.int .i64 3, .iface "func" (.lit (.string [101, 120, 99, 104, 97, 110, 103, 101, 112, 111, 105, 110, 116, 47, 97, 116, 116, 114, 105, 98, 117, 116, 101, 46, 114, 101, 97, 100, 78, 101, 120, 116]))), (.int .i64 4, .iface "func" (.lit (.string [101, 120, 99, 104, 97, 110, 103, 101, 112, 111, 105, 110, 116, 47, 97, 116, 116, 114, 105, 98, 117, 116, 101, 46, 114, 101, 97, 100, 101, 114, 115, 36, 49]))), (.int .i64 5, .iface "func" (.lit (.string [101, 120, 99, 104, 97, 110, 103, 101, 112, 111, 105, 110, 116, 47, 97, 116, 116, 114, 105, 98, 117, 116, 101, 46, 114, 101, 97, 100, 101, 114, 115, 36, 50]))), (.int .i64 8, .iface "func" (.lit (.string [101, 120, 99, 104, 97, 110, 103, 101, 112, 111, 105, 110, 116, 47, 97, 116, 116, 114, 105, 98, 117, 116, 101, 46, 114, 101, 97, 100, 67, 111, 109, 109, 117, 110, 105, 116, 105, 101, 115]))), (.int .i64 32, .iface "func" (.lit (.string [101, 120, 99, 104, 97, 110, 103, 101, 112, 111, 105, 110, 116, 47, 97, 116, 116, 114, 105, 98, 117, 116, 101, 46, 114, 101, 97, 100, 76, 97, 114, 103, 101]))), (.int .i64 35, .iface "func" (.lit (.string [101, 120, 99, 104, 97, 110, 103, 101, 112, 111, 105, 110, 116, 47, 97, 116, 116, 114, 105, 98, 117, 116, 101, 46, 114, 101, 97, 100, 101, 114, 115, 36, 51])))])

/-- 'exchangepointlaw18.AttributeReads': WHATEVER THE INPUT: true; the input reads as it did. -/
def attributeReadsSpec : ChangeSpec := { name := "attributeReads", fn := fun _ => fun
  | [d1, d2, d3] => { results := [.lit (.bool true)], args := [d1, d2, d3] }
  | _ => none }
def attributeReadsRow : OpenClaim := { program := "ytbhoockehnpdoaadoor", sum := "5b24aa06f6af96fea8e94fec00458f8afffdbd2546415ec69773243984555360", func := "exchangepoint/exchangepointlaw18.AttributeReads", spec := "attributeReads", unfollowed := true, recurses := true, named := ["exchangepoint/attribute.flags", "exchangepoint/attribute.readers"], apart := false, laid := [("exchangepoint/attribute.flags", laid_exchangepoint_attribute_flags), ("exchangepoint/attribute.readers", laid_exchangepoint_attribute_readers)] }
def AttributeReadsSaid : Prop := attributeReadsRow.holds Tryd.pinned (OpenSpec.ofChange attributeReadsSpec)

/-- ITS FALSE NEIGHBOUR: 'it returns false'. Refute it at one input. -/
def attributeReadsWrong : ChangeSpec := { name := "attributeReads", fn := fun _ => fun
  | [d1, d2, d3] => { results := [.lit (.bool false)], args := [d1, d2, d3] }
  | _ => none }
def AttributeReadsWrongFalsely : Prop := attributeReadsRow.holds Tryd.pinned (OpenSpec.ofChange attributeReadsWrong)

/-- 'exchangepointlaw18.AttributeAny': WHATEVER THE INPUT: true; the input reads as it did. -/
def attributeAnySpec : ChangeSpec := { name := "attributeAny", fn := fun _ => fun
  | [d1, d2, d3, d4] => { results := [.lit (.bool true)], args := [d1, d2, d3, d4] }
  | _ => none }
def attributeAnyRow : OpenClaim := { program := "ytbhoockehnpdoaadoor", sum := "5b24aa06f6af96fea8e94fec00458f8afffdbd2546415ec69773243984555360", func := "exchangepoint/exchangepointlaw18.AttributeAny", spec := "attributeAny", unfollowed := true, recurses := true, named := ["exchangepoint/attribute.flags", "exchangepoint/attribute.readers"], apart := false, laid := [("exchangepoint/attribute.flags", laid_exchangepoint_attribute_flags), ("exchangepoint/attribute.readers", laid_exchangepoint_attribute_readers)] }
def AttributeAnySaid : Prop := attributeAnyRow.holds Tryd.pinned (OpenSpec.ofChange attributeAnySpec)

/-- ITS FALSE NEIGHBOUR: 'it returns false'. Refute it at one input. -/
def attributeAnyWrong : ChangeSpec := { name := "attributeAny", fn := fun _ => fun
  | [d1, d2, d3, d4] => { results := [.lit (.bool false)], args := [d1, d2, d3, d4] }
  | _ => none }
def AttributeAnyWrongFalsely : Prop := attributeAnyRow.holds Tryd.pinned (OpenSpec.ofChange attributeAnyWrong)

/-- 'exchangepointlaw18.AttributeSplits': WHATEVER THE INPUT: true; the input reads as it did. -/
def attributeSplitsSpec : ChangeSpec := { name := "attributeSplits", fn := fun _ => fun
  | [d1, d2, d3, d4, d5] => { results := [.lit (.bool true)], args := [d1, d2, d3, d4, d5] }
  | _ => none }
def attributeSplitsRow : OpenClaim := { program := "ytbhoockehnpdoaadoor", sum := "5b24aa06f6af96fea8e94fec00458f8afffdbd2546415ec69773243984555360", func := "exchangepoint/exchangepointlaw18.AttributeSplits", spec := "attributeSplits", unfollowed := true, recurses := true, named := ["exchangepoint/attribute.flags", "exchangepoint/attribute.readers"], apart := false, laid := [("exchangepoint/attribute.flags", laid_exchangepoint_attribute_flags), ("exchangepoint/attribute.readers", laid_exchangepoint_attribute_readers)] }
def AttributeSplitsSaid : Prop := attributeSplitsRow.holds Tryd.pinned (OpenSpec.ofChange attributeSplitsSpec)

/-- ITS FALSE NEIGHBOUR: 'it returns false'. Refute it at one input. -/
def attributeSplitsWrong : ChangeSpec := { name := "attributeSplits", fn := fun _ => fun
  | [d1, d2, d3, d4, d5] => { results := [.lit (.bool false)], args := [d1, d2, d3, d4, d5] }
  | _ => none }
def AttributeSplitsWrongFalsely : Prop := attributeSplitsRow.holds Tryd.pinned (OpenSpec.ofChange attributeSplitsWrong)

/-- 'exchangepointlaw18.AttributeOrder': WHATEVER THE INPUT: true; the input reads as it did. -/
def attributeOrderSpec : ChangeSpec := { name := "attributeOrder", fn := fun _ => fun
  | [d1, d2] => { results := [.lit (.bool true)], args := [d1, d2] }
  | _ => none }
def attributeOrderRow : OpenClaim := { program := "ytbhoockehnpdoaadoor", sum := "5b24aa06f6af96fea8e94fec00458f8afffdbd2546415ec69773243984555360", func := "exchangepoint/exchangepointlaw18.AttributeOrder", spec := "attributeOrder", unfollowed := true, recurses := true, named := ["exchangepoint/attribute.flags", "exchangepoint/attribute.readers"], apart := false, laid := [("exchangepoint/attribute.flags", laid_exchangepoint_attribute_flags), ("exchangepoint/attribute.readers", laid_exchangepoint_attribute_readers)] }
def AttributeOrderSaid : Prop := attributeOrderRow.holds Tryd.pinned (OpenSpec.ofChange attributeOrderSpec)

/-- ITS FALSE NEIGHBOUR: 'it returns false'. Refute it at one input. -/
def attributeOrderWrong : ChangeSpec := { name := "attributeOrder", fn := fun _ => fun
  | [d1, d2] => { results := [.lit (.bool false)], args := [d1, d2] }
  | _ => none }
def AttributeOrderWrongFalsely : Prop := attributeOrderRow.holds Tryd.pinned (OpenSpec.ofChange attributeOrderWrong)

/-- 'exchangepointlaw18.AttributeFaults': WHATEVER THE INPUT: true; the input reads as it did. -/
def attributeFaultsSpec : ChangeSpec := { name := "attributeFaults", fn := fun _ => fun
  | [d1, d2, d3] => { results := [.lit (.bool true)], args := [d1, d2, d3] }
  | _ => none }
def attributeFaultsRow : OpenClaim := { program := "ytbhoockehnpdoaadoor", sum := "5b24aa06f6af96fea8e94fec00458f8afffdbd2546415ec69773243984555360", func := "exchangepoint/exchangepointlaw18.AttributeFaults", spec := "attributeFaults", unfollowed := true, recurses := true, named := ["exchangepoint/attribute.flags", "exchangepoint/attribute.readers"], apart := false, laid := [("exchangepoint/attribute.flags", laid_exchangepoint_attribute_flags), ("exchangepoint/attribute.readers", laid_exchangepoint_attribute_readers)] }
def AttributeFaultsSaid : Prop := attributeFaultsRow.holds Tryd.pinned (OpenSpec.ofChange attributeFaultsSpec)

/-- ITS FALSE NEIGHBOUR: 'it returns false'. Refute it at one input. -/
def attributeFaultsWrong : ChangeSpec := { name := "attributeFaults", fn := fun _ => fun
  | [d1, d2, d3] => { results := [.lit (.bool false)], args := [d1, d2, d3] }
  | _ => none }
def AttributeFaultsWrongFalsely : Prop := attributeFaultsRow.holds Tryd.pinned (OpenSpec.ofChange attributeFaultsWrong)

/-- 'exchangepointlaw18.AttributeBack': WHATEVER THE INPUT: true; the input reads as it did. -/
def attributeBackSpec : ChangeSpec := { name := "attributeBack", fn := fun _ => fun
  | [d] => { results := [.lit (.bool true)], args := [d] }
  | _ => none }
def attributeBackRow : OpenClaim := { program := "ytbhoockehnpdoaadoor", sum := "5b24aa06f6af96fea8e94fec00458f8afffdbd2546415ec69773243984555360", func := "exchangepoint/exchangepointlaw18.AttributeBack", spec := "attributeBack", unfollowed := true, recurses := true, named := ["exchangepoint/attribute.flags", "exchangepoint/attribute.readers"], apart := false, laid := [("exchangepoint/attribute.flags", laid_exchangepoint_attribute_flags), ("exchangepoint/attribute.readers", laid_exchangepoint_attribute_readers)] }
def AttributeBackSaid : Prop := attributeBackRow.holds Tryd.pinned (OpenSpec.ofChange attributeBackSpec)

/-- ITS FALSE NEIGHBOUR: 'it returns false'. Refute it at one input. -/
def attributeBackWrong : ChangeSpec := { name := "attributeBack", fn := fun _ => fun
  | [d] => { results := [.lit (.bool false)], args := [d] }
  | _ => none }
def AttributeBackWrongFalsely : Prop := attributeBackRow.holds Tryd.pinned (OpenSpec.ofChange attributeBackWrong)

/- THE SECOND FORM. 'bulk': how many values and letters a reading holds, each counted each time it is reached (what is shared counts as often as it is met; a slice's spare places count too). A statement '..UptoSaid' is the law's where the arguments, and the package variables that the reading takes, are together of bulk at most 1048576: NARROWER than '..Said'. Prove '..Said' where nothing that the law and all that it calls make is longer than what came in: it says more and counts as full. Else prove '..UptoSaid'. A law counts once. -/
mutual
def uptoBulk {H : Type} : DataW H → Nat
  | .lit (.string bytes) => bytes.length + 1
  | .lit _ => 1
  | .nil => 1
  | .ptr d => uptoBulk d + 1
  | .slice elems spare => uptoBulkAll elems + uptoBulkAll spare + 1
  | .agg parts => uptoBulkAll parts + 1
  | .iface _ d => uptoBulk d + 1
  | .map entries => uptoBulkEntries entries + 1
  | .held _ => 1
def uptoBulkAll {H : Type} : List (DataW H) → Nat
  | [] => 0
  | d :: r => uptoBulk d + uptoBulkAll r
def uptoBulkEntries {H : Type} : List (Lit × DataW H) → Nat
  | [] => 0
  | x :: r => uptoBulkEntry x + uptoBulkEntries r
def uptoBulkEntry {H : Type} : Lit × DataW H → Nat
  | (.string bytes, d) => bytes.length + uptoBulk d + 1
  | (_, d) => uptoBulk d + 1
 end
def uptoSmall : (H : Type) → List (DataW H) → Bool := fun _ ds => decide (uptoBulkAll ds ≤ 1048576)
def OpenSpec.upto (s : _root_.Go.ChangeSpec) : _root_.Go.OpenSpec := { _root_.Go.OpenSpec.ofChange s with cond := some uptoSmall }

/-- 'exchangepointlaw18.AttributeReads', WHERE WHAT IT READS IS OF BULK AT MOST 1048576: true; the input reads as it did. -/
def attributeReadsUptoRow : OpenClaim := { program := "ytbhoockehnpdoaadoor", sum := "5b24aa06f6af96fea8e94fec00458f8afffdbd2546415ec69773243984555360", func := "exchangepoint/exchangepointlaw18.AttributeReads", spec := "attributeReads", unfollowed := true, recurses := true, named := ["exchangepoint/attribute.flags", "exchangepoint/attribute.readers"], apart := false, laid := [("exchangepoint/attribute.flags", laid_exchangepoint_attribute_flags), ("exchangepoint/attribute.readers", laid_exchangepoint_attribute_readers)], narrowed := true }
def AttributeReadsUptoSaid : Prop := attributeReadsUptoRow.holds Tryd.pinned (OpenSpec.upto attributeReadsSpec)

/-- 'exchangepointlaw18.AttributeAny', WHERE WHAT IT READS IS OF BULK AT MOST 1048576: true; the input reads as it did. -/
def attributeAnyUptoRow : OpenClaim := { program := "ytbhoockehnpdoaadoor", sum := "5b24aa06f6af96fea8e94fec00458f8afffdbd2546415ec69773243984555360", func := "exchangepoint/exchangepointlaw18.AttributeAny", spec := "attributeAny", unfollowed := true, recurses := true, named := ["exchangepoint/attribute.flags", "exchangepoint/attribute.readers"], apart := false, laid := [("exchangepoint/attribute.flags", laid_exchangepoint_attribute_flags), ("exchangepoint/attribute.readers", laid_exchangepoint_attribute_readers)], narrowed := true }
def AttributeAnyUptoSaid : Prop := attributeAnyUptoRow.holds Tryd.pinned (OpenSpec.upto attributeAnySpec)

/-- 'exchangepointlaw18.AttributeSplits', WHERE WHAT IT READS IS OF BULK AT MOST 1048576: true; the input reads as it did. -/
def attributeSplitsUptoRow : OpenClaim := { program := "ytbhoockehnpdoaadoor", sum := "5b24aa06f6af96fea8e94fec00458f8afffdbd2546415ec69773243984555360", func := "exchangepoint/exchangepointlaw18.AttributeSplits", spec := "attributeSplits", unfollowed := true, recurses := true, named := ["exchangepoint/attribute.flags", "exchangepoint/attribute.readers"], apart := false, laid := [("exchangepoint/attribute.flags", laid_exchangepoint_attribute_flags), ("exchangepoint/attribute.readers", laid_exchangepoint_attribute_readers)], narrowed := true }
def AttributeSplitsUptoSaid : Prop := attributeSplitsUptoRow.holds Tryd.pinned (OpenSpec.upto attributeSplitsSpec)

/-- 'exchangepointlaw18.AttributeOrder', WHERE WHAT IT READS IS OF BULK AT MOST 1048576: true; the input reads as it did. -/
def attributeOrderUptoRow : OpenClaim := { program := "ytbhoockehnpdoaadoor", sum := "5b24aa06f6af96fea8e94fec00458f8afffdbd2546415ec69773243984555360", func := "exchangepoint/exchangepointlaw18.AttributeOrder", spec := "attributeOrder", unfollowed := true, recurses := true, named := ["exchangepoint/attribute.flags", "exchangepoint/attribute.readers"], apart := false, laid := [("exchangepoint/attribute.flags", laid_exchangepoint_attribute_flags), ("exchangepoint/attribute.readers", laid_exchangepoint_attribute_readers)], narrowed := true }
def AttributeOrderUptoSaid : Prop := attributeOrderUptoRow.holds Tryd.pinned (OpenSpec.upto attributeOrderSpec)

/-- 'exchangepointlaw18.AttributeFaults', WHERE WHAT IT READS IS OF BULK AT MOST 1048576: true; the input reads as it did. -/
def attributeFaultsUptoRow : OpenClaim := { program := "ytbhoockehnpdoaadoor", sum := "5b24aa06f6af96fea8e94fec00458f8afffdbd2546415ec69773243984555360", func := "exchangepoint/exchangepointlaw18.AttributeFaults", spec := "attributeFaults", unfollowed := true, recurses := true, named := ["exchangepoint/attribute.flags", "exchangepoint/attribute.readers"], apart := false, laid := [("exchangepoint/attribute.flags", laid_exchangepoint_attribute_flags), ("exchangepoint/attribute.readers", laid_exchangepoint_attribute_readers)], narrowed := true }
def AttributeFaultsUptoSaid : Prop := attributeFaultsUptoRow.holds Tryd.pinned (OpenSpec.upto attributeFaultsSpec)

/-- 'exchangepointlaw18.AttributeBack', WHERE WHAT IT READS IS OF BULK AT MOST 1048576: true; the input reads as it did. -/
def attributeBackUptoRow : OpenClaim := { program := "ytbhoockehnpdoaadoor", sum := "5b24aa06f6af96fea8e94fec00458f8afffdbd2546415ec69773243984555360", func := "exchangepoint/exchangepointlaw18.AttributeBack", spec := "attributeBack", unfollowed := true, recurses := true, named := ["exchangepoint/attribute.flags", "exchangepoint/attribute.readers"], apart := false, laid := [("exchangepoint/attribute.flags", laid_exchangepoint_attribute_flags), ("exchangepoint/attribute.readers", laid_exchangepoint_attribute_readers)], narrowed := true }
def AttributeBackUptoSaid : Prop := attributeBackUptoRow.holds Tryd.pinned (OpenSpec.upto attributeBackSpec)

end Rows
end Go.Proofs.YtbhoockehnpdoaaDoor
