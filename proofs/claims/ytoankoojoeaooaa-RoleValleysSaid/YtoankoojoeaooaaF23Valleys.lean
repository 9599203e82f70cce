/-
  PROVED: 'exchangepoint/exchangepointlaw23.RoleValleys' returns true for every argument, and the arguments read behind the call as they read before. No condition.
-/
import Derived.Test.YtoankoojoeaooaaAx21
import Derived.Test.YtoankoojoeaooaaL23W
import Derived.Test.YtoankoojoeaooaaQ23P6
import Derived.Test.YtoankoojoeaooaaRows
import Derived.WalkKit
import Derived.ProofKit
import Derived.OpenShut
import Derived.ShutString
import Derived.ChangeOld
import Derived.Below
namespace Go.Proofs.Ytoankoojoeaooaa.roleValleys
open Go.ChangeShapes Go.WideShapes Go.ChangeAt Go.RowKit Go.AX Go.AX.Q23
set_option linter.unusedVariables false

theorem own : ownKnob Try.prog.godebug = none := by kernel_rfl
theorem laidOut : laidOutB Try.prog = true := by kernel_rfl

theorem reads3 {H : Type} {enc : TypeId × Value → H} {w : World} : Go.AX.Reads enc Try.prog w 3 (fun x : Int => [D.i x]) (fun a : Int => I64 a) :=
  Go.AX.reads_i64 Try.underlying3

theorem reads57 {H : Type} {enc : TypeId × Value → H} {w : World} : Go.AX.Reads enc Try.prog w 57 (fun x : Hop => [D.i x.From, D.i x.To, D.i x.Role]) (fun a : Hop => Hop.wf a) :=
  Go.AX.Reads.map' (Go.AX.reads_struct Try.underlying57 (by kernel_rfl) (Go.AX.readsF_cons (sz := 1) reads3 (Go.AX.readsF_cons (sz := 1) reads3 (Go.AX.readsF_cons (sz := 1) reads3 (Go.AX.readsF_nil))))) (fun x => (⟨x.1, x.2.1, x.2.2.1⟩ : Hop)) (fun _ _ => rfl) (fun _ h => h)

theorem reads47 {H : Type} {enc : TypeId × Value → H} {w : World} : Go.AX.Reads enc Try.prog w 47 (fun x : List Hop => [D.l 3 Hop.toD x]) (fun a : List Hop => (a.length ≤ maxLen ∧ ∀ y0 ∈ a, Hop.wf y0)) :=
  Go.AX.reads_slice (el := Hop.toD) (sz := 3) Try.underlying47 (by kernel_rfl) (by decide) reads57

theorem reads22 {H : Type} {enc : TypeId × Value → H} {w : World} : Go.AX.Reads enc Try.prog w 22 (fun x : List Int => [D.l 1 D.i x]) (fun a : List Int => (a.length ≤ maxLen ∧ ∀ y0 ∈ a, I64 y0)) :=
  Go.AX.reads_slice (el := D.i) (sz := 1) Try.underlying22 (by kernel_rfl) (by decide) reads3

set_option maxRecDepth 100000 in
theorem lifted (os : Os) (started : os.Started) (H : Type) (enc : TypeId × Value → H) :
    ReturnsInHanded {} Try.checked os 6 .any (Rows.roleValleysSpec.pre6 enc Try.prog Try.f6 Rows.roleValleysRow.domain false) (Rows.roleValleysSpec.post enc Try.prog Try.f6 false true false false) := by
  refine returnsInHanded_of_change (C := Try.checked) own started (by kernel_rfl) Try.func6
    (ChangeSpec.witness6 (enc := enc) (C := Try.checked) false ⟨#[], #[.slice none 0 0, .slice none 0 0], []⟩ 12 (by kernel_rfl) (by kernel_rfl) (by kernel_rfl) (by kernel_rfl)) ?_
  intro W base args ds gs before hval0 hW _ _
  refine Go.AX.frame_contract (C := Try.checked) (b := 4) laidOut rfl ?_ rfl Try.underlying4 (by kernel_rfl) ?_ W base args ds gs before hval0 hW
  · intro ds hd
    match ds, hd with
    | [_, _], _ => rfl
  intro W base args ds p hval0 hA0
  have hval : ∀ (j : Nat) t v, Try.f6.params[j]? = some t → args[j]? = some v → Value.okWide Try.prog W .any base t v := hval0
  have hA : DataW.TrodAll enc Try.prog W 0 (fun _ => true) true Try.f6.params.toList args.toList ds p := hA0
  rw [Try.params6] at hA hval
  obtain ⟨v0, vs0, d0, ds0, p0, q0, hargs, rfl, rfl, h0, k0⟩ := trodAll_cons hA
  obtain ⟨v1, vs1, d1, ds1, p1, q1, rfl, rfl, rfl, h1, k1⟩ := trodAll_cons k0
  obtain ⟨rfl, rfl, rfl⟩ := trodAll_nil k1
  obtain rfl : args = #[v0, v1] := by cases args; simp_all
  clear hA0 hval0
  obtain ⟨a0, w0, r0⟩ := Go.AX.open_one Try.underlying47 rfl (reads47 (enc := enc)) (hval 0 47 v0 rfl rfl) h0
  obtain ⟨a1, w1, r1⟩ := Go.AX.open_one Try.underlying22 rfl (reads22 (enc := enc)) (hval 1 22 v1 rfl rfl) h1
  exact ⟨_, .cons r0 (.cons r1 .nil), Go.AX.Q23.law23_RoleValleys_ok (roleValleysW a0 a1 w0 w1)⟩

theorem over : Rows.roleValleysRow.holds Try.pinned (OpenSpec.ofChange Rows.roleValleysSpec) :=
  OpenClaim.holds_of_wide 6 Try.f6 rfl rfl rfl rfl rfl rfl rfl ⟨rfl, rfl, rfl, rfl, rfl⟩ rfl rfl rfl rfl rfl (by kernel_rfl) Try.func6 (by kernel_rfl)
    (of_decide_eq_true (by kernel_rfl)) (by unfold Func.isWrapper; first | (rw [if_pos (by decide +kernel)]; kernel_rfl) | (rw [if_neg (by decide +kernel)]; exact ⟨rfl, rfl⟩))
    (fun os started H enc _ => lifted os started H enc)

/-- ████ THE STATEMENT ████ -/
theorem proved : Rows.RoleValleysSaid := over
#print axioms proved
end Go.Proofs.Ytoankoojoeaooaa.roleValleys
