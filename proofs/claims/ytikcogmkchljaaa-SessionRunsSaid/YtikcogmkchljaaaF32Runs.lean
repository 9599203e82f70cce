/-
  PROVED: 'exchangepoint/exchangepointlaw32.SessionRuns' returns true for every argument, and the arguments read behind the call as they read before. No condition.
-/
import Derived.Test.YtikcogmkchljaaaAx21
import Derived.Test.YtikcogmkchljaaaL32H
import Derived.Test.YtikcogmkchljaaaQ32P10
import Derived.Test.YtikcogmkchljaaaRows
import Derived.WalkKit
import Derived.ProofKit
import Derived.OpenShut
import Derived.ShutString
import Derived.ChangeOld
import Derived.Below
namespace Go.Proofs.Ytikcogmkchljaaa.sessionRuns
open Go.ChangeShapes Go.WideShapes Go.ChangeAt Go.RowKit Go.AX Go.AX.Q32
set_option linter.unusedVariables false

theorem own : ownKnob Try.prog.godebug = none := by kernel_rfl
theorem laidOut : laidOutB Try.prog = true := by kernel_rfl

theorem reads3 {H : Type} {enc : TypeId × Value → H} {w : World} : Go.AX.Reads enc Try.prog w 3 (fun x : Int => [D.i x]) (fun a : Int => I64 a) :=
  Go.AX.reads_i64 Try.underlying3

theorem reads4 {H : Type} {enc : TypeId × Value → H} {w : World} : Go.AX.Reads enc Try.prog w 4 (fun x : Bool => [D.b x]) (fun a : Bool => True) :=
  Go.AX.reads_bool Try.underlying4

theorem reads23 {H : Type} {enc : TypeId × Value → H} {w : World} : Go.AX.Reads enc Try.prog w 23 (fun x : Go.AX.Q32.Open => [D.i x.ASN, D.i x.ID, D.i x.Hold, D.i x.Role, D.i x.Grace, D.b x.Again]) (fun a : Go.AX.Q32.Open => Go.AX.Q32.Open.wf a) :=
  Go.AX.Reads.map' (Go.AX.reads_struct Try.underlying23 (by kernel_rfl) (Go.AX.readsF_cons (sz := 1) reads3 (Go.AX.readsF_cons (sz := 1) reads3 (Go.AX.readsF_cons (sz := 1) reads3 (Go.AX.readsF_cons (sz := 1) reads3 (Go.AX.readsF_cons (sz := 1) reads3 (Go.AX.readsF_cons (sz := 1) reads4 (Go.AX.readsF_nil)))))))) (fun x => (⟨x.1, x.2.1, x.2.2.1, x.2.2.2.1, x.2.2.2.2.1, x.2.2.2.2.2.1⟩ : Go.AX.Q32.Open)) (fun _ _ => rfl) (fun _ h => h)

theorem reads50 {H : Type} {enc : TypeId × Value → H} {w : World} : Go.AX.Reads enc Try.prog w 50 (fun x : Go.AX.Q32.Session => [D.i x.State, D.i x.Mine.ASN, D.i x.Mine.ID, D.i x.Mine.Hold, D.i x.Mine.Role, D.i x.Mine.Grace, D.b x.Mine.Again, D.i x.ASN, D.i x.Theirs.ASN, D.i x.Theirs.ID, D.i x.Theirs.Hold, D.i x.Theirs.Role, D.i x.Theirs.Grace, D.b x.Theirs.Again, D.i x.Sent, D.i x.Heard]) (fun a : Go.AX.Q32.Session => Go.AX.Q32.Session.wf a) :=
  Go.AX.Reads.map' (Go.AX.reads_struct Try.underlying50 (by kernel_rfl) (Go.AX.readsF_cons (sz := 1) reads3 (Go.AX.readsF_cons (sz := 6) reads23 (Go.AX.readsF_cons (sz := 1) reads3 (Go.AX.readsF_cons (sz := 6) reads23 (Go.AX.readsF_cons (sz := 1) reads3 (Go.AX.readsF_cons (sz := 1) reads3 (Go.AX.readsF_nil)))))))) (fun x => (⟨x.1, x.2.1, x.2.2.1, x.2.2.2.1, x.2.2.2.2.1, x.2.2.2.2.2.1⟩ : Go.AX.Q32.Session)) (fun _ _ => rfl) (fun _ h => h)

theorem reads5 {H : Type} {enc : TypeId × Value → H} {w : World} : Go.AX.Reads enc Try.prog w 5 (fun x : UInt8 => [D.u8 x]) (fun a : UInt8 => True) :=
  Go.AX.reads_u8 Try.underlying5

theorem reads30 {H : Type} {enc : TypeId × Value → H} {w : World} : Go.AX.Reads enc Try.prog w 30 (fun x : List UInt8 => [D.l 1 D.u8 x]) (fun a : List UInt8 => (a.length ≤ maxLen ∧ ∀ y0 ∈ a, True)) :=
  Go.AX.reads_slice (el := D.u8) (sz := 1) Try.underlying30 (by kernel_rfl) (by decide) reads5

theorem reads37 {H : Type} {enc : TypeId × Value → H} {w : World} : Go.AX.Reads enc Try.prog w 37 (fun x : Go.AX.Q32.Message => [D.i x.Type_, D.l 1 D.u8 x.Body]) (fun a : Go.AX.Q32.Message => Go.AX.Q32.Message.wf a) :=
  Go.AX.Reads.map' (Go.AX.reads_struct Try.underlying37 (by kernel_rfl) (Go.AX.readsF_cons (sz := 1) reads3 (Go.AX.readsF_cons (sz := 1) reads30 (Go.AX.readsF_nil)))) (fun x => (⟨x.1, x.2.1⟩ : Go.AX.Q32.Message)) (fun _ _ => rfl) (fun _ h => h)

theorem reads24 {H : Type} {enc : TypeId × Value → H} {w : World} : Go.AX.Reads enc Try.prog w 24 (fun x : List Int => [D.l 1 D.i x]) (fun a : List Int => (a.length ≤ maxLen ∧ ∀ y0 ∈ a, I64 y0)) :=
  Go.AX.reads_slice (el := D.i) (sz := 1) Try.underlying24 (by kernel_rfl) (by decide) reads3

set_option maxRecDepth 100000 in
theorem lifted (os : Os) (started : os.Started) (H : Type) (enc : TypeId × Value → H) :
    ReturnsInHanded {} Try.checked os 6 .any (Rows.sessionRunsSpec.pre6 enc Try.prog Try.f6 Rows.sessionRunsRow.domain false) (Rows.sessionRunsSpec.post enc Try.prog Try.f6 false true false false) := by
  refine returnsInHanded_of_change (C := Try.checked) own started (by kernel_rfl) Try.func6
    (ChangeSpec.witness6 (enc := enc) (C := Try.checked) false ⟨#[], #[.agg #[.int .i64 0, .int .i64 0, .int .i64 0, .int .i64 0, .int .i64 0, .int .i64 0, .bool false, .int .i64 0, .int .i64 0, .int .i64 0, .int .i64 0, .int .i64 0, .int .i64 0, .bool false, .int .i64 0, .int .i64 0], .agg #[.int .i64 0, .slice none 0 0], .int .i64 0, .slice none 0 0], []⟩ 12 (by kernel_rfl) (by kernel_rfl) (by kernel_rfl) (by kernel_rfl)) ?_
  intro W base args ds gs before hval0 hW _ _
  refine Go.AX.frame_contract (C := Try.checked) (b := 4) laidOut rfl ?_ rfl Try.underlying4 (by kernel_rfl) ?_ W base args ds gs before hval0 hW
  · intro ds hd
    match ds, hd with
    | [_, _, _, _], _ => rfl
  intro W base args ds p hval0 hA0
  have hval : ∀ (j : Nat) t v, Try.f6.params[j]? = some t → args[j]? = some v → Value.okWide Try.prog W .any base t v := hval0
  have hA : DataW.TrodAll enc Try.prog W 0 (fun _ => true) true Try.f6.params.toList args.toList ds p := hA0
  rw [Try.params6] at hA hval
  obtain ⟨v0, vs0, d0, ds0, p0, q0, hargs, rfl, rfl, h0, k0⟩ := trodAll_cons hA
  obtain ⟨v1, vs1, d1, ds1, p1, q1, rfl, rfl, rfl, h1, k1⟩ := trodAll_cons k0
  obtain ⟨v2, vs2, d2, ds2, p2, q2, rfl, rfl, rfl, h2, k2⟩ := trodAll_cons k1
  obtain ⟨v3, vs3, d3, ds3, p3, q3, rfl, rfl, rfl, h3, k3⟩ := trodAll_cons k2
  obtain ⟨rfl, rfl, rfl⟩ := trodAll_nil k3
  obtain rfl : args = #[v0, v1, v2, v3] := by cases args; simp_all
  clear hA0 hval0
  obtain ⟨a0, w0, r0⟩ := Go.AX.open_struct Try.underlying50 (reads50 (enc := enc)) (hval 0 50 v0 rfl rfl) h0
  obtain ⟨a1, w1, r1⟩ := Go.AX.open_struct Try.underlying37 (reads37 (enc := enc)) (hval 1 37 v1 rfl rfl) h1
  obtain ⟨a2, w2, r2⟩ := Go.AX.open_one Try.underlying3 rfl (reads3 (enc := enc)) (hval 2 3 v2 rfl rfl) h2
  obtain ⟨a3, w3, r3⟩ := Go.AX.open_one Try.underlying24 rfl (reads24 (enc := enc)) (hval 3 24 v3 rfl rfl) h3
  exact ⟨_, .cons r0 (.cons r1 (.cons r2 (.cons r3 .nil))), Go.AX.Q32.law32_SessionRuns_ok (sessionRunsW a0 a1 a2 a3 w0 w1 w2 w3)⟩

theorem over : Rows.sessionRunsRow.holds Try.pinned (OpenSpec.ofChange Rows.sessionRunsSpec) :=
  OpenClaim.holds_of_wide 6 Try.f6 rfl rfl rfl rfl rfl rfl rfl ⟨rfl, rfl, rfl, rfl, rfl⟩ rfl rfl rfl rfl rfl (by kernel_rfl) Try.func6 (by kernel_rfl)
    (of_decide_eq_true (by kernel_rfl)) (by unfold Func.isWrapper; first | (rw [if_pos (by decide +kernel)]; kernel_rfl) | (rw [if_neg (by decide +kernel)]; exact ⟨rfl, rfl⟩))
    (fun os started H enc _ => lifted os started H enc)

/-- ████ THE STATEMENT ████ -/
theorem proved : Rows.SessionRunsSaid := over
#print axioms proved
end Go.Proofs.Ytikcogmkchljaaa.sessionRuns
