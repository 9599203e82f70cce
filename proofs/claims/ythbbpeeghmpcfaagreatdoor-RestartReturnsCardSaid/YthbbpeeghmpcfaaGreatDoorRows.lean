/-
  NARROWER THAN 'FOR EVERY INPUT', by the rows' own cells (each row's printed sentence says how): RestartReturns: laid.
  DERIVED. THE GIVEN ROWS OF THIS SEAT. 1 by the template 'for every input the law returns true; each argument reads behind the call as it read before'; 0 by the template 'total and deterministic' (their statements: YthbbpeeghmpcfaaGreatDoorTotals.lean).
  GIVEN WITH THE SEED: the statements are not yours to turn. If you find one false, say at which input.
  Laid BY PROGRAM, IN A SANDBOX (cutbox-rows.mjs): the forced cells as the released guide's own fill.sh prints them over the translation f1bd05ef22b5ebb5… (all of the seat's roots in one cut). By AI agents, Wed Nov 11 2026. No macro, syntax, notation, axiom, sorry.
-/
import Derived.Test.YthbbpeeghmpcfaaGreatDoorChecked
import GoSem.Claim
import GoSem.ClaimJoined
import GoSem.ClaimMapViews
import Derived.JoinedTies
import Derived.KernelRfl
namespace Go.Proofs.YthbbpeeghmpcfaaGreatDoor
/- THE CELL 'sum', in the pinned program and in every row, IS THE sha256 OF THE DUMP (.gsa) THAT YthbbpeeghmpcfaaGreatDoorProg.lean LOADS. Nothing in Lean hashes anything: it is a label: what it is worth is what the hold of that sum in a sandbox is worth. -/
noncomputable def Tryz.pinned : Pinned := { name := "ythbbpeeghmpcfaagreatdoor", sum := "f1bd05ef22b5ebb503e8162d36f639a5aa480dcb3a7ba4d82400715bc40afd5a", checked := Tryz.checked }
namespace Rows
def none {H : Type} : Left H := { results := [], args := [] }

/- WHAT THE LISTED PACKAGE-LEVEL VARIABLES READ AS WHEN THE CALL BEGINS. Each datum BY PROGRAM (the guide's laid-datum.mjs) off the statement by which the dump's own 'gosem.cut.vars' lays the variable. In a bare row this is a premise. The card (YthbbpeeghmpcfaaGreatDoorCards.lean) ties it to the program's text. -/
def laid_exchangepoint_attribute_flags {H : Type} : DataW H := .map [(.int .i64 1, .lit (.int .i64 64)), (.int .i64 2, .lit (.int .i64 64)), (.int .i64 3, .lit (.int .i64 64)), (.int .i64 4, .lit (.int .i64 128)), (.int .i64 5, .lit (.int .i64 64)), (.int .i64 8, .lit (.int .i64 192)), (.int .i64 32, .lit (.int .i64 192)), (.int .i64 35, .lit (.int .i64 192))]
def laid_exchangepoint_attribute_readers {H : Type} : DataW H := .iface "func table" (.map [(.int .i64 1, .iface "func" (.lit (.string [101, 120, 99, 104, 97, 110, 103, 101, 112, 111, 105, 110, 116, 47, 97, 116, 116, 114, 105, 98, 117, 116, 101, 46, 114, 101, 97, 100, 79, 114, 105, 103, 105, 110]))), (.int .i64 2, .iface "func" (.lit (.string [101, 120, 99, 104, 97, 110, 103, 101, 112, 111, 105, 110, 116, 47, 97, 116, 116, 114, 105, 98, 117, 116, 101, 46, 114, 101, 97, 100, 80, 97, 116, 104]))), (.int .i64 3, .iface "func" (.lit (.string [101, 120, 99, 104, 97, 110, 103, 101, 112, 111, 105, 110, 116, 47, 97, 116, 116, 114, 105, 98, 117, 116, 101, 46, 114, 101, 97, 100, 78, 101, 120, 116]))), (.int .i64 4, .iface "func" (.lit (.string [101, 120, 99, 104, 97, 110, 103, 101, 112, 111, 105, 110, 116, 47, 97, 116, 116, 114, 105, 98, 117, 116, 101, 46, 114, 101, 97, 100, 101, 114, 115, 36, 49]))), (.int .i64 5, .iface "func" (.lit (.string [101, 120, 99, 104, 97, 110, 103, 101, 112, 111, 105, 110, 116, 47, 97, 116, 116, 114, 105, 98, 117, 116, 101, 46, 114, 101, 97, 100, 101, 114, 115, 36, 50]))), (.int .i64 8, .iface "func" (.lit (.string [101, 120, 99, 104, 97, 110, 103, 101, 112, 111, 105, 110, 116, 47, 97, 116, 116, 114, 105, 98, 117, 116, 101, 46, 114, 101, 97, 100, 67, 111, 109, 109, 117, 110, 105, 116, 105, 101, 115]))), (.int .i64 32, .iface "func" (.lit (.string [101, 120, 99, 104, 97, 110, 103, 101, 112, 111, 105, 110, 116, 47, 97, 116, 116, 114, 105, 98, 117, 116, 101, 46, 114, 101, 97, 100, 76, 97, 114, 103, 101]))), (.int .i64 35, .iface "func" (.lit (.string [101, 120, 99, 104, 97, 110, 103, 101, 112, 111, 105, 110, 116, 47, 97, 116, 116, 114, 105, 98, 117, 116, 101, 46, 114, 101, 97, 100, 101, 114, 115, 36, 51])))])

/-- 'exchangepointlaw33.RestartReturns': WHATEVER THE INPUT: true; the input reads as it did. -/
def restartReturnsSpec : ChangeSpec := { name := "restartReturns", fn := fun _ => fun
  | [d1, d2] => { results := [.lit (.bool true)], args := [d1, d2] }
  | _ => none }
def restartReturnsRow : OpenClaim := { program := "ythbbpeeghmpcfaagreatdoor", sum := "f1bd05ef22b5ebb503e8162d36f639a5aa480dcb3a7ba4d82400715bc40afd5a", func := "exchangepoint/exchangepointlaw33.RestartReturns", spec := "restartReturns", unfollowed := true, recurses := true, named := ["exchangepoint/attribute.flags", "exchangepoint/attribute.readers"], apart := false, laid := [("exchangepoint/attribute.flags", laid_exchangepoint_attribute_flags), ("exchangepoint/attribute.readers", laid_exchangepoint_attribute_readers)] }
def RestartReturnsSaid : Prop := restartReturnsRow.holds Tryz.pinned (OpenSpec.ofChange restartReturnsSpec)

/-- ITS FALSE NEIGHBOUR: 'it returns false'. Refute it at one input. -/
def restartReturnsWrong : ChangeSpec := { name := "restartReturns", fn := fun _ => fun
  | [d1, d2] => { results := [.lit (.bool false)], args := [d1, d2] }
  | _ => none }
def RestartReturnsWrongFalsely : Prop := restartReturnsRow.holds Tryz.pinned (OpenSpec.ofChange restartReturnsWrong)

/- THE SECOND FORM. 'bulk': how many values and letters a reading holds, each counted each time it is reached (what is shared counts as often as it is met; a slice's spare places count too). A statement '..UptoSaid' is the law's where the arguments, and the package variables that the reading takes, are together of bulk at most 1048576: NARROWER than '..Said'. Prove '..Said' where nothing that the law and all that it calls make is longer than what came in: it says more and counts as full. Else prove '..UptoSaid'. A law counts once. -/
mutual
def uptoBulk {H : Type} : DataW H → Nat
  | .lit (.string bytes) => bytes.length + 1
  | .lit _ => 1
  | .nil => 1
  | .ptr d => uptoBulk d + 1
  | .slice elems spare => uptoBulkAll elems + uptoBulkAll spare + 1
  | .agg parts => uptoBulkAll parts + 1
  | .iface _ d => uptoBulk d + 1
  | .map entries => uptoBulkEntries entries + 1
  | .held _ => 1
def uptoBulkAll {H : Type} : List (DataW H) → Nat
  | [] => 0
  | d :: r => uptoBulk d + uptoBulkAll r
def uptoBulkEntries {H : Type} : List (Lit × DataW H) → Nat
  | [] => 0
  | x :: r => uptoBulkEntry x + uptoBulkEntries r
def uptoBulkEntry {H : Type} : Lit × DataW H → Nat
  | (.string bytes, d) => bytes.length + uptoBulk d + 1
  | (_, d) => uptoBulk d + 1
 end
def uptoSmall : (H : Type) → List (DataW H) → Bool := fun _ ds => decide (uptoBulkAll ds ≤ 1048576)
def OpenSpec.upto (s : _root_.Go.ChangeSpec) : _root_.Go.OpenSpec := { _root_.Go.OpenSpec.ofChange s with cond := some uptoSmall }

/-- 'exchangepointlaw33.RestartReturns', WHERE WHAT IT READS IS OF BULK AT MOST 1048576: true; the input reads as it did. -/
def restartReturnsUptoRow : OpenClaim := { program := "ythbbpeeghmpcfaagreatdoor", sum := "f1bd05ef22b5ebb503e8162d36f639a5aa480dcb3a7ba4d82400715bc40afd5a", func := "exchangepoint/exchangepointlaw33.RestartReturns", spec := "restartReturns", unfollowed := true, recurses := true, named := ["exchangepoint/attribute.flags", "exchangepoint/attribute.readers"], apart := false, laid := [("exchangepoint/attribute.flags", laid_exchangepoint_attribute_flags), ("exchangepoint/attribute.readers", laid_exchangepoint_attribute_readers)], narrowed := true }
def RestartReturnsUptoSaid : Prop := restartReturnsUptoRow.holds Tryz.pinned (OpenSpec.upto restartReturnsSpec)

end Rows
end Go.Proofs.YthbbpeeghmpcfaaGreatDoor
