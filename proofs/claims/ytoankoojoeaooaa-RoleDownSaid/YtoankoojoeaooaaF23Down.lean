/-
  PROVED: 'exchangepoint/exchangepointlaw23.RoleDown' returns true for every argument, and the arguments read behind the call as they read before. No condition.
-/
import Derived.Test.YtoankoojoeaooaaAx21
import Derived.Test.YtoankoojoeaooaaL23E
import Derived.Test.YtoankoojoeaooaaQ23P8
import Derived.Test.YtoankoojoeaooaaRows
import Derived.WalkKit
import Derived.ProofKit
import Derived.OpenShut
import Derived.ShutString
import Derived.ChangeOld
import Derived.Below
namespace Go.Proofs.Ytoankoojoeaooaa.roleDown
open Go.ChangeShapes Go.WideShapes Go.ChangeAt Go.RowKit Go.AX Go.AX.Q23
set_option linter.unusedVariables false

theorem own : ownKnob Try.prog.godebug = none := by kernel_rfl
theorem laidOut : laidOutB Try.prog = true := by kernel_rfl

theorem reads3 {H : Type} {enc : TypeId × Value → H} {w : World} : Go.AX.Reads enc Try.prog w 3 (fun x : Int => [D.i x]) (fun a : Int => I64 a) :=
  Go.AX.reads_i64 Try.underlying3

theorem reads22 {H : Type} {enc : TypeId × Value → H} {w : World} : Go.AX.Reads enc Try.prog w 22 (fun x : List Int => [D.l 1 D.i x]) (fun a : List Int => (a.length ≤ maxLen ∧ ∀ y0 ∈ a, I64 y0)) :=
  Go.AX.reads_slice (el := D.i) (sz := 1) Try.underlying22 (by kernel_rfl) (by decide) reads3

set_option maxRecDepth 100000 in
theorem lifted (os : Os) (started : os.Started) (H : Type) (enc : TypeId × Value → H) :
    ReturnsInHanded {} Try.checked os 7 .any (Rows.roleDownSpec.pre6 enc Try.prog Try.f7 Rows.roleDownRow.domain false) (Rows.roleDownSpec.post enc Try.prog Try.f7 false true false false) := by
  refine returnsInHanded_of_change (C := Try.checked) own started (by kernel_rfl) Try.func7
    (ChangeSpec.witness6 (enc := enc) (C := Try.checked) false ⟨#[], #[.slice none 0 0, .int .i64 0, .int .i64 0, .int .i64 0, .int .i64 0], []⟩ 12 (by kernel_rfl) (by kernel_rfl) (by kernel_rfl) (by kernel_rfl)) ?_
  intro W base args ds gs before hval0 hW _ _
  refine Go.AX.frame_contract (C := Try.checked) (b := 4) laidOut rfl ?_ rfl Try.underlying4 (by kernel_rfl) ?_ W base args ds gs before hval0 hW
  · intro ds hd
    match ds, hd with
    | [_, _, _, _, _], _ => rfl
  intro W base args ds p hval0 hA0
  have hval : ∀ (j : Nat) t v, Try.f7.params[j]? = some t → args[j]? = some v → Value.okWide Try.prog W .any base t v := hval0
  have hA : DataW.TrodAll enc Try.prog W 0 (fun _ => true) true Try.f7.params.toList args.toList ds p := hA0
  rw [Try.params7] at hA hval
  obtain ⟨v0, vs0, d0, ds0, p0, q0, hargs, rfl, rfl, h0, k0⟩ := trodAll_cons hA
  obtain ⟨v1, vs1, d1, ds1, p1, q1, rfl, rfl, rfl, h1, k1⟩ := trodAll_cons k0
  obtain ⟨v2, vs2, d2, ds2, p2, q2, rfl, rfl, rfl, h2, k2⟩ := trodAll_cons k1
  obtain ⟨v3, vs3, d3, ds3, p3, q3, rfl, rfl, rfl, h3, k3⟩ := trodAll_cons k2
  obtain ⟨v4, vs4, d4, ds4, p4, q4, rfl, rfl, rfl, h4, k4⟩ := trodAll_cons k3
  obtain ⟨rfl, rfl, rfl⟩ := trodAll_nil k4
  obtain rfl : args = #[v0, v1, v2, v3, v4] := by cases args; simp_all
  clear hA0 hval0
  obtain ⟨a0, w0, r0⟩ := Go.AX.open_one Try.underlying22 rfl (reads22 (enc := enc)) (hval 0 22 v0 rfl rfl) h0
  obtain ⟨a1, w1, r1⟩ := Go.AX.open_one Try.underlying3 rfl (reads3 (enc := enc)) (hval 1 3 v1 rfl rfl) h1
  obtain ⟨a2, w2, r2⟩ := Go.AX.open_one Try.underlying3 rfl (reads3 (enc := enc)) (hval 2 3 v2 rfl rfl) h2
  obtain ⟨a3, w3, r3⟩ := Go.AX.open_one Try.underlying3 rfl (reads3 (enc := enc)) (hval 3 3 v3 rfl rfl) h3
  obtain ⟨a4, w4, r4⟩ := Go.AX.open_one Try.underlying3 rfl (reads3 (enc := enc)) (hval 4 3 v4 rfl rfl) h4
  exact ⟨_, .cons r0 (.cons r1 (.cons r2 (.cons r3 (.cons r4 .nil)))), Go.AX.Q23.law23_RoleDown_ok (roleDownW a0 a1 a2 a3 a4 w0 w1 w2 w3 w4)⟩

theorem over : Rows.roleDownRow.holds Try.pinned (OpenSpec.ofChange Rows.roleDownSpec) :=
  OpenClaim.holds_of_wide 7 Try.f7 rfl rfl rfl rfl rfl rfl rfl ⟨rfl, rfl, rfl, rfl, rfl⟩ rfl rfl rfl rfl rfl (by kernel_rfl) Try.func7 (by kernel_rfl)
    (of_decide_eq_true (by kernel_rfl)) (by unfold Func.isWrapper; first | (rw [if_pos (by decide +kernel)]; kernel_rfl) | (rw [if_neg (by decide +kernel)]; exact ⟨rfl, rfl⟩))
    (fun os started H enc _ => lifted os started H enc)

/-- ████ THE STATEMENT ████ -/
theorem proved : Rows.RoleDownSaid := over
#print axioms proved
end Go.Proofs.Ytoankoojoeaooaa.roleDown
