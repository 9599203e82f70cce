/-
  Texts of one proof, packed: F35Harmless.
-/
import Derived.Test.YtgibfgaaoopieaaGreatK2
import Derived.Test.YtgibfgaaoopieaaGreatK3
import Derived.Test.YtgibfgaaoopieaaGreatK5
import Derived.Below
import Derived.ChangeOld
import Derived.OpenShut
import Derived.ProofKit
import Derived.ShutString
import Derived.Test.YtgibfgaaoopieaaGreatRows
import Derived.WalkKit
set_option linter.all false
section
namespace Go.Proofs.YtgibfgaaoopieaaGreat.blackholeHarmless
open Go.ChangeShapes Go.WideShapes Go.ChangeAt Go.RowKit Go.AX Go.AX.Q35
set_option linter.unusedVariables false
theorem own:ownKnob Tryz.prog.godebug=none:=by kernel_rfl
theorem laidOut:laidOutB Tryz.prog=true:=by kernel_rfl
theorem reads3 {H:Type} {enc:TypeId×Value→H} {w:World}:Go.AX.Reads enc Tryz.prog w 3 (fun x:Int=>[D.i x]) (fun a:Int=>I64 a):=
 Go.AX.reads_i64 Tryz.underlying3
theorem reads22 {H:Type} {enc:TypeId×Value→H} {w:World}:Go.AX.Reads enc Tryz.prog w 22 (fun x:List Int=>[D.l 1 D.i x]) (fun a:List Int=>(a.length ≤ maxLen∧a.length * 8 ≤ reachBytes∧∀y0 ∈ a,I64 y0)):=
 Go.AX.reads_slice (el:=D.i) (sz:=1) (by':=8) Tryz.underlying22 (by kernel_rfl) (by decide) (by kernel_rfl) reads3
set_option maxRecDepth 100000 in
theorem lifted (os:Os) (started:os.Started) (H:Type) (enc:TypeId×Value→H) :
  ReturnsInHanded {} Tryz.checked os 4 .any (Rows.blackholeHarmlessSpec.pre6 enc Tryz.prog Tryz.f4 Rows.blackholeHarmlessRow.domain false) (Rows.blackholeHarmlessSpec.post enc Tryz.prog Tryz.f4 false true false false):=by
 refine returnsInHanded_of_change_sized (C:=Tryz.checked) own started (by kernel_rfl) Tryz.func4
  (ChangeSpec.witness6 (enc:=enc) (C:=Tryz.checked) false ⟨#[],#[.slice none 0 0,.int .i64 0],[]⟩ 12 (by kernel_rfl) (by kernel_rfl) (by kernel_rfl) (by kernel_rfl)) ?_
 intro W base args ds gs before hval0 hW _ hwt0 _
 refine Go.AX.frame_contract (C:=Tryz.checked) (b:=4) laidOut rfl ?_ rfl Tryz.underlying4 (by kernel_rfl) ?_ W base args ds gs before hval0 hW hwt0
 ·intro ds hd
  match ds,hd with
  | [_,_],_=>rfl
 intro W base args ds p hval0 hA0 hwt0
 have hval :∀(j:Nat) t v,Tryz.f4.params[j]?=some t→args[j]?=some v→Value.okWide Tryz.prog W .any base t v:=hval0
 have hA:DataW.TrodAll enc Tryz.prog W 0 (fun _=>true) true Tryz.f4.params.toList args.toList ds p:=hA0
 have hwt :∀(j:Nat) t d,Tryz.f4.params.toList[j]?=some t→ds[j]?=some d→Wt Tryz.prog t d:=hwt0
 rw [Tryz.params4] at hA hval hwt
 obtain ⟨v0,vs0,d0,ds0,p0,q0,hargs,rfl,rfl,h0,k0⟩:=trodAll_cons hA
 obtain ⟨v1,vs1,d1,ds1,p1,q1,rfl,rfl,rfl,h1,k1⟩:=trodAll_cons k0
 obtain ⟨rfl,rfl,rfl⟩:=trodAll_nil k1
 obtain rfl:args=#[v0,v1]:=by cases args;simp_all
 clear hA0 hval0 hwt0
 obtain ⟨a0,w0,r0⟩:=Go.AX.open_one Tryz.underlying22 rfl (reads22 (enc:=enc)) (hval 0 22 v0 rfl rfl) h0 (hwt 0 22 d0 rfl rfl)
 obtain ⟨a1,w1,r1⟩:=Go.AX.open_one Tryz.underlying3 rfl (reads3 (enc:=enc)) (hval 1 3 v1 rfl rfl) h1 (hwt 1 3 d1 rfl rfl)
 exact ⟨_,.cons r0 (.cons r1 .nil),Go.AX.Q35.law35_BlackholeHarmless_ok (Go.AX.Q35.harmlessW a0 a1 w0 w1)⟩
theorem over:Rows.blackholeHarmlessRow.holds Tryz.pinned (OpenSpec.ofChange Rows.blackholeHarmlessSpec):=
 OpenClaim.holds_of_wide 4 Tryz.f4 rfl rfl rfl rfl rfl rfl rfl ⟨rfl,rfl,rfl,rfl,rfl⟩ rfl rfl rfl rfl rfl (by kernel_rfl) Tryz.func4 (by kernel_rfl)
  (of_decide_eq_true (by kernel_rfl)) (by unfold Func.isWrapper;first | (rw [if_pos (by decide +kernel)];kernel_rfl) | (rw [if_neg (by decide +kernel)];exact ⟨rfl,rfl⟩))
  (fun os started H enc _=>lifted os started H enc)
theorem proved:Rows.BlackholeHarmlessSaid:=over
#print axioms proved
end Go.Proofs.YtgibfgaaoopieaaGreat.blackholeHarmless
end
