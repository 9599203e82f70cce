/-
  No cell of these rows narrows 'for every input' (looked for: loops, veiled, ifaces, maps, wideKeys, modest, calm, conditions, laid).
  DERIVED. THE GIVEN ROWS OF THIS SEAT. 5 by the template 'for every input the law returns true; each argument reads behind the call as it read before'; 0 by the template 'total and deterministic' (their statements: YtoankoojoeaooaaTotals.lean).
  GIVEN WITH THE SEED: the statements are not yours to turn. If you find one false, say at which input.
  Laid BY PROGRAM, IN A SANDBOX (cutbox-rows.mjs): the forced cells as the released guide's own fill.sh prints them over the translation ec6f6de91f57a748… (all of the seat's roots in one cut). By AI agents, Wed Nov 11 2026. No macro, syntax, notation, axiom, sorry.
-/
import Derived.Test.YtoankoojoeaooaaChecked
import GoSem.Claim
import GoSem.ClaimJoined
import GoSem.ClaimMapViews
import Derived.JoinedTies
import Derived.KernelRfl
namespace Go.Proofs.Ytoankoojoeaooaa
/- THE CELL 'sum', in the pinned program and in every row, IS THE sha256 OF THE DUMP (.gsa) THAT YtoankoojoeaooaaProg.lean LOADS. Nothing in Lean hashes anything: it is a label: what it is worth is what the hold of that sum in a sandbox is worth. -/
noncomputable def Try.pinned : Pinned := { name := "ytoankoojoeaooaa", sum := "ec6f6de91f57a748ff904c0cb1d4716fa4468b0f0cdb4b1fc4aaee370bb330f3", checked := Try.checked }
namespace Rows
def none {H : Type} : Left H := { results := [], args := [] }

/-- 'exchangepointlaw23.RolePairs': WHATEVER THE INPUT: true; the input reads as it did. -/
def rolePairsSpec : ChangeSpec := { name := "rolePairs", fn := fun _ => fun
  | [d1, d2] => { results := [.lit (.bool true)], args := [d1, d2] }
  | _ => none }
def rolePairsRow : OpenClaim := { program := "ytoankoojoeaooaa", sum := "ec6f6de91f57a748ff904c0cb1d4716fa4468b0f0cdb4b1fc4aaee370bb330f3", func := "exchangepoint/exchangepointlaw23.RolePairs", spec := "rolePairs", apart := false }
def RolePairsSaid : Prop := rolePairsRow.holds Try.pinned (OpenSpec.ofChange rolePairsSpec)

/-- ITS FALSE NEIGHBOUR: 'it returns false'. Refute it at one input. -/
def rolePairsWrong : ChangeSpec := { name := "rolePairs", fn := fun _ => fun
  | [d1, d2] => { results := [.lit (.bool false)], args := [d1, d2] }
  | _ => none }
def RolePairsWrongFalsely : Prop := rolePairsRow.holds Try.pinned (OpenSpec.ofChange rolePairsWrong)

/-- 'exchangepointlaw23.RoleMarks': WHATEVER THE INPUT: true; the input reads as it did. -/
def roleMarksSpec : ChangeSpec := { name := "roleMarks", fn := fun _ => fun
  | [d1, d2, d3, d4, d5] => { results := [.lit (.bool true)], args := [d1, d2, d3, d4, d5] }
  | _ => none }
def roleMarksRow : OpenClaim := { program := "ytoankoojoeaooaa", sum := "ec6f6de91f57a748ff904c0cb1d4716fa4468b0f0cdb4b1fc4aaee370bb330f3", func := "exchangepoint/exchangepointlaw23.RoleMarks", spec := "roleMarks", apart := false }
def RoleMarksSaid : Prop := roleMarksRow.holds Try.pinned (OpenSpec.ofChange roleMarksSpec)

/-- ITS FALSE NEIGHBOUR: 'it returns false'. Refute it at one input. -/
def roleMarksWrong : ChangeSpec := { name := "roleMarks", fn := fun _ => fun
  | [d1, d2, d3, d4, d5] => { results := [.lit (.bool false)], args := [d1, d2, d3, d4, d5] }
  | _ => none }
def RoleMarksWrongFalsely : Prop := roleMarksRow.holds Try.pinned (OpenSpec.ofChange roleMarksWrong)

/-- 'exchangepointlaw23.RoleWays': WHATEVER THE INPUT: true; the input reads as it did. -/
def roleWaysSpec : ChangeSpec := { name := "roleWays", fn := fun _ => fun
  | [d1, d2] => { results := [.lit (.bool true)], args := [d1, d2] }
  | _ => none }
def roleWaysRow : OpenClaim := { program := "ytoankoojoeaooaa", sum := "ec6f6de91f57a748ff904c0cb1d4716fa4468b0f0cdb4b1fc4aaee370bb330f3", func := "exchangepoint/exchangepointlaw23.RoleWays", spec := "roleWays", apart := false }
def RoleWaysSaid : Prop := roleWaysRow.holds Try.pinned (OpenSpec.ofChange roleWaysSpec)

/-- ITS FALSE NEIGHBOUR: 'it returns false'. Refute it at one input. -/
def roleWaysWrong : ChangeSpec := { name := "roleWays", fn := fun _ => fun
  | [d1, d2] => { results := [.lit (.bool false)], args := [d1, d2] }
  | _ => none }
def RoleWaysWrongFalsely : Prop := roleWaysRow.holds Try.pinned (OpenSpec.ofChange roleWaysWrong)

/-- 'exchangepointlaw23.RoleValleys': WHATEVER THE INPUT: true; the input reads as it did. -/
def roleValleysSpec : ChangeSpec := { name := "roleValleys", fn := fun _ => fun
  | [d1, d2] => { results := [.lit (.bool true)], args := [d1, d2] }
  | _ => none }
def roleValleysRow : OpenClaim := { program := "ytoankoojoeaooaa", sum := "ec6f6de91f57a748ff904c0cb1d4716fa4468b0f0cdb4b1fc4aaee370bb330f3", func := "exchangepoint/exchangepointlaw23.RoleValleys", spec := "roleValleys", apart := false }
def RoleValleysSaid : Prop := roleValleysRow.holds Try.pinned (OpenSpec.ofChange roleValleysSpec)

/-- ITS FALSE NEIGHBOUR: 'it returns false'. Refute it at one input. -/
def roleValleysWrong : ChangeSpec := { name := "roleValleys", fn := fun _ => fun
  | [d1, d2] => { results := [.lit (.bool false)], args := [d1, d2] }
  | _ => none }
def RoleValleysWrongFalsely : Prop := roleValleysRow.holds Try.pinned (OpenSpec.ofChange roleValleysWrong)

/-- 'exchangepointlaw23.RoleDown': WHATEVER THE INPUT: true; the input reads as it did. -/
def roleDownSpec : ChangeSpec := { name := "roleDown", fn := fun _ => fun
  | [d1, d2, d3, d4, d5] => { results := [.lit (.bool true)], args := [d1, d2, d3, d4, d5] }
  | _ => none }
def roleDownRow : OpenClaim := { program := "ytoankoojoeaooaa", sum := "ec6f6de91f57a748ff904c0cb1d4716fa4468b0f0cdb4b1fc4aaee370bb330f3", func := "exchangepoint/exchangepointlaw23.RoleDown", spec := "roleDown", apart := false }
def RoleDownSaid : Prop := roleDownRow.holds Try.pinned (OpenSpec.ofChange roleDownSpec)

/-- ITS FALSE NEIGHBOUR: 'it returns false'. Refute it at one input. -/
def roleDownWrong : ChangeSpec := { name := "roleDown", fn := fun _ => fun
  | [d1, d2, d3, d4, d5] => { results := [.lit (.bool false)], args := [d1, d2, d3, d4, d5] }
  | _ => none }
def RoleDownWrongFalsely : Prop := roleDownRow.holds Try.pinned (OpenSpec.ofChange roleDownWrong)

/- THE SECOND FORM. 'bulk': how many values and letters a reading holds, each counted each time it is reached (what is shared counts as often as it is met; a slice's spare places count too). A statement '..UptoSaid' is the law's where the arguments, and the package variables that the reading takes, are together of bulk at most 1048576: NARROWER than '..Said'. Prove '..Said' where nothing that the law and all that it calls make is longer than what came in: it says more and counts as full. Else prove '..UptoSaid'. A law counts once. -/
mutual
def uptoBulk {H : Type} : DataW H → Nat
  | .lit (.string bytes) => bytes.length + 1
  | .lit _ => 1
  | .nil => 1
  | .ptr d => uptoBulk d + 1
  | .slice elems spare => uptoBulkAll elems + uptoBulkAll spare + 1
  | .agg parts => uptoBulkAll parts + 1
  | .iface _ d => uptoBulk d + 1
  | .map entries => uptoBulkEntries entries + 1
  | .held _ => 1
def uptoBulkAll {H : Type} : List (DataW H) → Nat
  | [] => 0
  | d :: r => uptoBulk d + uptoBulkAll r
def uptoBulkEntries {H : Type} : List (Lit × DataW H) → Nat
  | [] => 0
  | x :: r => uptoBulkEntry x + uptoBulkEntries r
def uptoBulkEntry {H : Type} : Lit × DataW H → Nat
  | (.string bytes, d) => bytes.length + uptoBulk d + 1
  | (_, d) => uptoBulk d + 1
 end
def uptoSmall : (H : Type) → List (DataW H) → Bool := fun _ ds => decide (uptoBulkAll ds ≤ 1048576)
def OpenSpec.upto (s : _root_.Go.ChangeSpec) : _root_.Go.OpenSpec := { _root_.Go.OpenSpec.ofChange s with cond := some uptoSmall }

/-- 'exchangepointlaw23.RolePairs', WHERE WHAT IT READS IS OF BULK AT MOST 1048576: true; the input reads as it did. -/
def rolePairsUptoRow : OpenClaim := { program := "ytoankoojoeaooaa", sum := "ec6f6de91f57a748ff904c0cb1d4716fa4468b0f0cdb4b1fc4aaee370bb330f3", func := "exchangepoint/exchangepointlaw23.RolePairs", spec := "rolePairs", apart := false, narrowed := true }
def RolePairsUptoSaid : Prop := rolePairsUptoRow.holds Try.pinned (OpenSpec.upto rolePairsSpec)

/-- 'exchangepointlaw23.RoleMarks', WHERE WHAT IT READS IS OF BULK AT MOST 1048576: true; the input reads as it did. -/
def roleMarksUptoRow : OpenClaim := { program := "ytoankoojoeaooaa", sum := "ec6f6de91f57a748ff904c0cb1d4716fa4468b0f0cdb4b1fc4aaee370bb330f3", func := "exchangepoint/exchangepointlaw23.RoleMarks", spec := "roleMarks", apart := false, narrowed := true }
def RoleMarksUptoSaid : Prop := roleMarksUptoRow.holds Try.pinned (OpenSpec.upto roleMarksSpec)

/-- 'exchangepointlaw23.RoleWays', WHERE WHAT IT READS IS OF BULK AT MOST 1048576: true; the input reads as it did. -/
def roleWaysUptoRow : OpenClaim := { program := "ytoankoojoeaooaa", sum := "ec6f6de91f57a748ff904c0cb1d4716fa4468b0f0cdb4b1fc4aaee370bb330f3", func := "exchangepoint/exchangepointlaw23.RoleWays", spec := "roleWays", apart := false, narrowed := true }
def RoleWaysUptoSaid : Prop := roleWaysUptoRow.holds Try.pinned (OpenSpec.upto roleWaysSpec)

/-- 'exchangepointlaw23.RoleValleys', WHERE WHAT IT READS IS OF BULK AT MOST 1048576: true; the input reads as it did. -/
def roleValleysUptoRow : OpenClaim := { program := "ytoankoojoeaooaa", sum := "ec6f6de91f57a748ff904c0cb1d4716fa4468b0f0cdb4b1fc4aaee370bb330f3", func := "exchangepoint/exchangepointlaw23.RoleValleys", spec := "roleValleys", apart := false, narrowed := true }
def RoleValleysUptoSaid : Prop := roleValleysUptoRow.holds Try.pinned (OpenSpec.upto roleValleysSpec)

/-- 'exchangepointlaw23.RoleDown', WHERE WHAT IT READS IS OF BULK AT MOST 1048576: true; the input reads as it did. -/
def roleDownUptoRow : OpenClaim := { program := "ytoankoojoeaooaa", sum := "ec6f6de91f57a748ff904c0cb1d4716fa4468b0f0cdb4b1fc4aaee370bb330f3", func := "exchangepoint/exchangepointlaw23.RoleDown", spec := "roleDown", apart := false, narrowed := true }
def RoleDownUptoSaid : Prop := roleDownUptoRow.holds Try.pinned (OpenSpec.upto roleDownSpec)

end Rows
end Go.Proofs.Ytoankoojoeaooaa
