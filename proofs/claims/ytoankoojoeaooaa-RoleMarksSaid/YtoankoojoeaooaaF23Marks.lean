/-
  PROVED: 'exchangepoint/exchangepointlaw23.RoleMarks' returns true for every argument, and the arguments read behind the call as they read before. No condition.
-/
import Derived.Test.YtoankoojoeaooaaAx21
import Derived.Test.YtoankoojoeaooaaL23F
import Derived.Test.YtoankoojoeaooaaQ23P8
import Derived.Test.YtoankoojoeaooaaRows
import Derived.WalkKit
import Derived.ProofKit
import Derived.OpenShut
import Derived.ShutString
import Derived.ChangeOld
import Derived.Below
namespace Go.Proofs.Ytoankoojoeaooaa.roleMarks
open Go.ChangeShapes Go.WideShapes Go.ChangeAt Go.RowKit Go.AX Go.AX.Q23
set_option linter.unusedVariables false

theorem own : ownKnob Try.prog.godebug = none := by kernel_rfl
theorem laidOut : laidOutB Try.prog = true := by kernel_rfl

theorem reads3 {H : Type} {enc : TypeId × Value → H} {w : World} : Go.AX.Reads enc Try.prog w 3 (fun x : Int => [D.i x]) (fun a : Int => I64 a) :=
  Go.AX.reads_i64 Try.underlying3

theorem reads4 {H : Type} {enc : TypeId × Value → H} {w : World} : Go.AX.Reads enc Try.prog w 4 (fun x : Bool => [D.b x]) (fun a : Bool => True) :=
  Go.AX.reads_bool Try.underlying4

theorem reads22 {H : Type} {enc : TypeId × Value → H} {w : World} : Go.AX.Reads enc Try.prog w 22 (fun x : List Int => [D.l 1 D.i x]) (fun a : List Int => (a.length ≤ maxLen ∧ a.length * 8 ≤ reachBytes ∧ ∀ y0 ∈ a, I64 y0)) :=
  Go.AX.reads_slice (el := D.i) (sz := 1) (by' := 8) Try.underlying22 (by kernel_rfl) (by decide) (by kernel_rfl) reads3

theorem reads59 {H : Type} {enc : TypeId × Value → H} {w : World} : Go.AX.Reads enc Try.prog w 59 (fun x : Go.AX.Q23.Segment => [D.b x.Set, D.l 1 D.i x.ASNs]) (fun a : Go.AX.Q23.Segment => Go.AX.Q23.Segment.wf a) :=
  Go.AX.Reads.map' (Go.AX.reads_struct Try.underlying59 (by kernel_rfl) (Go.AX.readsF_cons (sz := 1) reads4 (Go.AX.readsF_cons (sz := 1) reads22 (Go.AX.readsF_nil)))) (fun x => (⟨x.1, x.2.1⟩ : Go.AX.Q23.Segment)) (fun _ _ => rfl) (fun _ h => h)

theorem reads28 {H : Type} {enc : TypeId × Value → H} {w : World} : Go.AX.Reads enc Try.prog w 28 (fun x : List Go.AX.Q23.Segment => [D.l 2 Go.AX.Q23.Segment.toD x]) (fun a : List Go.AX.Q23.Segment => (a.length ≤ maxLen ∧ a.length * 32 ≤ reachBytes ∧ ∀ y0 ∈ a, Go.AX.Q23.Segment.wf y0)) :=
  Go.AX.reads_slice (el := Go.AX.Q23.Segment.toD) (sz := 2) (by' := 32) Try.underlying28 (by kernel_rfl) (by decide) (by kernel_rfl) reads59

theorem reads29 {H : Type} {enc : TypeId × Value → H} {w : World} : Go.AX.Reads enc Try.prog w 29 (fun x : UInt64 => [D.u64 x]) (fun a : UInt64 => True) :=
  Go.AX.reads_u64 Try.underlying29

theorem reads31 {H : Type} {enc : TypeId × Value → H} {w : World} : Go.AX.Reads enc Try.prog w 31 (fun x : Go.AX.Q23.Addr => [D.b x.V6, D.u64 x.Hi, D.u64 x.Lo]) (fun a : Go.AX.Q23.Addr => Go.AX.Q23.Addr.wf a) :=
  Go.AX.Reads.map' (Go.AX.reads_struct Try.underlying31 (by kernel_rfl) (Go.AX.readsF_cons (sz := 1) reads4 (Go.AX.readsF_cons (sz := 1) reads29 (Go.AX.readsF_cons (sz := 1) reads29 (Go.AX.readsF_nil))))) (fun x => (⟨x.1, x.2.1, x.2.2.1⟩ : Go.AX.Q23.Addr)) (fun _ _ => rfl) (fun _ h => h)

theorem reads72 {H : Type} {enc : TypeId × Value → H} {w : World} : Go.AX.Reads enc Try.prog w 72 (fun x : Go.AX.Q23.Community => [D.i x.A, D.i x.B]) (fun a : Go.AX.Q23.Community => Go.AX.Q23.Community.wf a) :=
  Go.AX.Reads.map' (Go.AX.reads_struct Try.underlying72 (by kernel_rfl) (Go.AX.readsF_cons (sz := 1) reads3 (Go.AX.readsF_cons (sz := 1) reads3 (Go.AX.readsF_nil)))) (fun x => (⟨x.1, x.2.1⟩ : Go.AX.Q23.Community)) (fun _ _ => rfl) (fun _ h => h)

theorem reads32 {H : Type} {enc : TypeId × Value → H} {w : World} : Go.AX.Reads enc Try.prog w 32 (fun x : List Go.AX.Q23.Community => [D.l 2 Go.AX.Q23.Community.toD x]) (fun a : List Go.AX.Q23.Community => (a.length ≤ maxLen ∧ a.length * 16 ≤ reachBytes ∧ ∀ y0 ∈ a, Go.AX.Q23.Community.wf y0)) :=
  Go.AX.reads_slice (el := Go.AX.Q23.Community.toD) (sz := 2) (by' := 16) Try.underlying32 (by kernel_rfl) (by decide) (by kernel_rfl) reads72

theorem reads74 {H : Type} {enc : TypeId × Value → H} {w : World} : Go.AX.Reads enc Try.prog w 74 (fun x : Go.AX.Q23.Large => [D.i x.A, D.i x.B, D.i x.C]) (fun a : Go.AX.Q23.Large => Go.AX.Q23.Large.wf a) :=
  Go.AX.Reads.map' (Go.AX.reads_struct Try.underlying74 (by kernel_rfl) (Go.AX.readsF_cons (sz := 1) reads3 (Go.AX.readsF_cons (sz := 1) reads3 (Go.AX.readsF_cons (sz := 1) reads3 (Go.AX.readsF_nil))))) (fun x => (⟨x.1, x.2.1, x.2.2.1⟩ : Go.AX.Q23.Large)) (fun _ _ => rfl) (fun _ h => h)

theorem reads33 {H : Type} {enc : TypeId × Value → H} {w : World} : Go.AX.Reads enc Try.prog w 33 (fun x : List Go.AX.Q23.Large => [D.l 3 Go.AX.Q23.Large.toD x]) (fun a : List Go.AX.Q23.Large => (a.length ≤ maxLen ∧ a.length * 24 ≤ reachBytes ∧ ∀ y0 ∈ a, Go.AX.Q23.Large.wf y0)) :=
  Go.AX.reads_slice (el := Go.AX.Q23.Large.toD) (sz := 3) (by' := 24) Try.underlying33 (by kernel_rfl) (by decide) (by kernel_rfl) reads74

theorem reads5 {H : Type} {enc : TypeId × Value → H} {w : World} : Go.AX.Reads enc Try.prog w 5 (fun x : UInt8 => [D.u8 x]) (fun a : UInt8 => True) :=
  Go.AX.reads_u8 Try.underlying5

theorem reads60 {H : Type} {enc : TypeId × Value → H} {w : World} : Go.AX.Reads enc Try.prog w 60 (fun x : List UInt8 => [D.l 1 D.u8 x]) (fun a : List UInt8 => (a.length ≤ maxLen ∧ a.length * 1 ≤ reachBytes ∧ ∀ y0 ∈ a, True)) :=
  Go.AX.reads_slice (el := D.u8) (sz := 1) (by' := 1) Try.underlying60 (by kernel_rfl) (by decide) (by kernel_rfl) reads5

theorem reads62 {H : Type} {enc : TypeId × Value → H} {w : World} : Go.AX.Reads enc Try.prog w 62 (fun x : Go.AX.Q23.Unknown => [D.i x.Flags, D.i x.Type_, D.l 1 D.u8 x.Data]) (fun a : Go.AX.Q23.Unknown => Go.AX.Q23.Unknown.wf a) :=
  Go.AX.Reads.map' (Go.AX.reads_struct Try.underlying62 (by kernel_rfl) (Go.AX.readsF_cons (sz := 1) reads3 (Go.AX.readsF_cons (sz := 1) reads3 (Go.AX.readsF_cons (sz := 1) reads60 (Go.AX.readsF_nil))))) (fun x => (⟨x.1, x.2.1, x.2.2.1⟩ : Go.AX.Q23.Unknown)) (fun _ _ => rfl) (fun _ h => h)

theorem reads34 {H : Type} {enc : TypeId × Value → H} {w : World} : Go.AX.Reads enc Try.prog w 34 (fun x : List Go.AX.Q23.Unknown => [D.l 3 Go.AX.Q23.Unknown.toD x]) (fun a : List Go.AX.Q23.Unknown => (a.length ≤ maxLen ∧ a.length * 40 ≤ reachBytes ∧ ∀ y0 ∈ a, Go.AX.Q23.Unknown.wf y0)) :=
  Go.AX.reads_slice (el := Go.AX.Q23.Unknown.toD) (sz := 3) (by' := 40) Try.underlying34 (by kernel_rfl) (by decide) (by kernel_rfl) reads62

theorem reads36 {H : Type} {enc : TypeId × Value → H} {w : World} : Go.AX.Reads enc Try.prog w 36 (fun x : Go.AX.Q23.Attrs => [D.i x.Origin, D.l 2 Go.AX.Q23.Segment.toD x.Path, D.b x.Next.V6, D.u64 x.Next.Hi, D.u64 x.Next.Lo, D.i x.MED, D.i x.Pref, D.i x.OTC, D.l 2 Go.AX.Q23.Community.toD x.Communities, D.l 3 Go.AX.Q23.Large.toD x.Large, D.l 3 Go.AX.Q23.Unknown.toD x.Other]) (fun a : Go.AX.Q23.Attrs => Go.AX.Q23.Attrs.wf a) :=
  Go.AX.Reads.map' (Go.AX.reads_struct Try.underlying36 (by kernel_rfl) (Go.AX.readsF_cons (sz := 1) reads3 (Go.AX.readsF_cons (sz := 1) reads28 (Go.AX.readsF_cons (sz := 3) reads31 (Go.AX.readsF_cons (sz := 1) reads3 (Go.AX.readsF_cons (sz := 1) reads3 (Go.AX.readsF_cons (sz := 1) reads3 (Go.AX.readsF_cons (sz := 1) reads32 (Go.AX.readsF_cons (sz := 1) reads33 (Go.AX.readsF_cons (sz := 1) reads34 (Go.AX.readsF_nil))))))))))) (fun x => (⟨x.1, x.2.1, x.2.2.1, x.2.2.2.1, x.2.2.2.2.1, x.2.2.2.2.2.1, x.2.2.2.2.2.2.1, x.2.2.2.2.2.2.2.1, x.2.2.2.2.2.2.2.2.1⟩ : Go.AX.Q23.Attrs)) (fun _ _ => rfl) (fun _ h => h)

set_option maxRecDepth 100000 in
theorem lifted (os : Os) (started : os.Started) (H : Type) (enc : TypeId × Value → H) :
    ReturnsInHanded {} Try.checked os 4 .any (Rows.roleMarksSpec.pre6 enc Try.prog Try.f4 Rows.roleMarksRow.domain false) (Rows.roleMarksSpec.post enc Try.prog Try.f4 false true false false) := by
  refine returnsInHanded_of_change_sized (C := Try.checked) own started (by kernel_rfl) Try.func4
    (ChangeSpec.witness6 (enc := enc) (C := Try.checked) false ⟨#[], #[.agg #[.int .i64 0, .slice none 0 0, .bool false, .int .u64 0, .int .u64 0, .int .i64 0, .int .i64 0, .int .i64 0, .slice none 0 0, .slice none 0 0, .slice none 0 0], .int .i64 0, .int .i64 0, .int .i64 0, .slice none 0 0], []⟩ 12 (by kernel_rfl) (by kernel_rfl) (by kernel_rfl) (by kernel_rfl)) ?_
  intro W base args ds gs before hval0 hW _ hwt0 _
  refine Go.AX.frame_contract (C := Try.checked) (b := 4) laidOut rfl ?_ rfl Try.underlying4 (by kernel_rfl) ?_ W base args ds gs before hval0 hW hwt0
  · intro ds hd
    match ds, hd with
    | [_, _, _, _, _], _ => rfl
  intro W base args ds p hval0 hA0 hwt0
  have hval : ∀ (j : Nat) t v, Try.f4.params[j]? = some t → args[j]? = some v → Value.okWide Try.prog W .any base t v := hval0
  have hA : DataW.TrodAll enc Try.prog W 0 (fun _ => true) true Try.f4.params.toList args.toList ds p := hA0
  have hwt : ∀ (j : Nat) t d, Try.f4.params.toList[j]? = some t → ds[j]? = some d → Wt Try.prog t d := hwt0
  rw [Try.params4] at hA hval hwt
  obtain ⟨v0, vs0, d0, ds0, p0, q0, hargs, rfl, rfl, h0, k0⟩ := trodAll_cons hA
  obtain ⟨v1, vs1, d1, ds1, p1, q1, rfl, rfl, rfl, h1, k1⟩ := trodAll_cons k0
  obtain ⟨v2, vs2, d2, ds2, p2, q2, rfl, rfl, rfl, h2, k2⟩ := trodAll_cons k1
  obtain ⟨v3, vs3, d3, ds3, p3, q3, rfl, rfl, rfl, h3, k3⟩ := trodAll_cons k2
  obtain ⟨v4, vs4, d4, ds4, p4, q4, rfl, rfl, rfl, h4, k4⟩ := trodAll_cons k3
  obtain ⟨rfl, rfl, rfl⟩ := trodAll_nil k4
  obtain rfl : args = #[v0, v1, v2, v3, v4] := by cases args; simp_all
  clear hA0 hval0 hwt0
  obtain ⟨a0, w0, r0⟩ := Go.AX.open_struct Try.underlying36 (reads36 (enc := enc)) (hval 0 36 v0 rfl rfl) h0 (hwt 0 36 d0 rfl rfl)
  obtain ⟨a1, w1, r1⟩ := Go.AX.open_one Try.underlying3 rfl (reads3 (enc := enc)) (hval 1 3 v1 rfl rfl) h1 (hwt 1 3 d1 rfl rfl)
  obtain ⟨a2, w2, r2⟩ := Go.AX.open_one Try.underlying3 rfl (reads3 (enc := enc)) (hval 2 3 v2 rfl rfl) h2 (hwt 2 3 d2 rfl rfl)
  obtain ⟨a3, w3, r3⟩ := Go.AX.open_one Try.underlying3 rfl (reads3 (enc := enc)) (hval 3 3 v3 rfl rfl) h3 (hwt 3 3 d3 rfl rfl)
  obtain ⟨a4, w4, r4⟩ := Go.AX.open_one Try.underlying22 rfl (reads22 (enc := enc)) (hval 4 22 v4 rfl rfl) h4 (hwt 4 22 d4 rfl rfl)
  exact ⟨_, .cons r0 (.cons r1 (.cons r2 (.cons r3 (.cons r4 .nil)))), Go.AX.Q23.law23_RoleMarks_ok (roleMarksW a0 a1 a2 a3 a4 w0 w1 w2 w3 w4)⟩

theorem over : Rows.roleMarksRow.holds Try.pinned (OpenSpec.ofChange Rows.roleMarksSpec) :=
  OpenClaim.holds_of_wide 4 Try.f4 rfl rfl rfl rfl rfl rfl rfl ⟨rfl, rfl, rfl, rfl, rfl⟩ rfl rfl rfl rfl rfl (by kernel_rfl) Try.func4 (by kernel_rfl)
    (of_decide_eq_true (by kernel_rfl)) (by unfold Func.isWrapper; first | (rw [if_pos (by decide +kernel)]; kernel_rfl) | (rw [if_neg (by decide +kernel)]; exact ⟨rfl, rfl⟩))
    (fun os started H enc _ => lifted os started H enc)

/-- ████ THE STATEMENT ████ -/
theorem proved : Rows.RoleMarksSaid := over
#print axioms proved
end Go.Proofs.Ytoankoojoeaooaa.roleMarks
