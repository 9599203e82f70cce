/-
  Texts of one proof, packed: F18Splits.
-/
import Derived.Test.YtbhoockehnpdoaaDoorK2
import Derived.Test.YtbhoockehnpdoaaDoorK3
import Derived.Test.YtbhoockehnpdoaaDoorK4
import Derived.Test.YtbhoockehnpdoaaDoorK5
import Derived.Below
import Derived.ChangeOld
import Derived.LaidMore
import Derived.Lay
import Derived.MakeChecks
import Derived.OpenShut
import Derived.ProofKit
import Derived.SevenTiedAt
import Derived.ShutString
import Derived.Test.YtbhoockehnpdoaaDoorCards
import Derived.Test.YtbhoockehnpdoaaDoorRows
import Derived.Test.YtbhoockehnpdoaaDoorTie
import Derived.WalkKit
set_option linter.all false
section
namespace Go.Proofs.YtbhoockehnpdoaaDoor.attributeSplits
open Go.ChangeShapes Go.WideShapes Go.ChangeAt Go.RowKit Go.AX Go.AX.Q18
set_option linter.unusedVariables false
theorem own:ownKnob Tryd.prog.godebug=none:=by kernel_rfl
theorem laidOut:laidOutB Tryd.prog=true:=by kernel_rfl
theorem reads3 {H:Type} {enc:TypeId×Value→H} {w:World}:Go.AX.Reads enc Tryd.prog w 3 (fun x:Int=>[D.i x]) (fun a:Int=>I64 a):=
 Go.AX.reads_i64 Tryd.underlying3
theorem reads5 {H:Type} {enc:TypeId×Value→H} {w:World}:Go.AX.Reads enc Tryd.prog w 5 (fun x:UInt8=>[D.u8 x]) (fun a:UInt8=>True):=
 Go.AX.reads_u8 Tryd.underlying5
theorem reads28 {H:Type} {enc:TypeId×Value→H} {w:World}:Go.AX.Reads enc Tryd.prog w 28 (fun x:List UInt8=>[D.l 1 D.u8 x]) (fun a:List UInt8=>(a.length ≤ maxLen∧a.length * 1 ≤ reachBytes∧∀y0 ∈ a,True)):=
 Go.AX.reads_slice (el:=D.u8) (sz:=1) (by':=1) Tryd.underlying28 (by kernel_rfl) (by decide) (by kernel_rfl) reads5
theorem reads30 {H:Type} {enc:TypeId×Value→H} {w:World}:Go.AX.Reads enc Tryd.prog w 30 (fun x:Go.AX.Q18.Unknown=>[D.i x.Flags,D.i x.Type_,D.l 1 D.u8 x.Data]) (fun a:Go.AX.Q18.Unknown=>Go.AX.Q18.Unknown.wf a):=
 Go.AX.Reads.map' (Go.AX.reads_struct Tryd.underlying30 (by kernel_rfl) (Go.AX.readsF_cons (sz:=1) reads3 (Go.AX.readsF_cons (sz:=1) reads3 (Go.AX.readsF_cons (sz:=1) reads28 (Go.AX.readsF_nil))))) (fun x=>(⟨x.1,x.2.1,x.2.2.1⟩:Go.AX.Q18.Unknown)) (fun _ _=>rfl) (fun _ h=>h)
theorem reads25 {H:Type} {enc:TypeId×Value→H} {w:World}:Go.AX.Reads enc Tryd.prog w 25 (fun x:List Go.AX.Q18.Unknown=>[D.l 3 Go.AX.Q18.Unknown.toD x]) (fun a:List Go.AX.Q18.Unknown=>(a.length ≤ maxLen∧a.length * 40 ≤ reachBytes∧∀y0 ∈ a,Go.AX.Q18.Unknown.wf y0)):=
 Go.AX.reads_slice (el:=Go.AX.Q18.Unknown.toD) (sz:=3) (by':=40) Tryd.underlying25 (by kernel_rfl) (by decide) (by kernel_rfl) reads30
theorem reads22 {H:Type} {enc:TypeId×Value→H} {w:World}:Go.AX.Reads enc Tryd.prog w 22 (fun x:List Int=>[D.l 1 D.i x]) (fun a:List Int=>(a.length ≤ maxLen∧a.length * 8 ≤ reachBytes∧∀y0 ∈ a,I64 y0)):=
 Go.AX.reads_slice (el:=D.i) (sz:=1) (by':=8) Tryd.underlying22 (by kernel_rfl) (by decide) (by kernel_rfl) reads3
theorem door_met (os:Os) (args:Array Value):laidMetH Tryd.prog Rows.attributeSplitsRow.laid ((World.doorLaid Tryd.prog 600 os).forCall (fun _ _=>0) ⟨#[],args,[]⟩).memory:=
 laidMetH_of_parts3 (fuel:=8) (laidMet_of_run' 8 (by kernel_rfl) (by kernel_rfl)) (by kernel_rfl) (by kernel_rfl)
set_option maxRecDepth 100000 in
theorem lifted (os:Os) (started:os.Started) (H:Type) (enc:TypeId×Value→H) :
  ReturnsInHanded {} Tryd.checked os 5 .any (fun w args=>(Rows.attributeSplitsSpec.pre enc Tryd.prog Tryd.f5 Rows.attributeSplitsRow.domain false w args∧laidMetH Tryd.prog Rows.attributeSplitsRow.laid w)∧sizedMet enc Tryd.prog Tryd.f5 (OpenSpec.ofChange Rows.attributeSplitsSpec) false w args) (Rows.attributeSplitsSpec.post enc Tryd.prog Tryd.f5 false true false false):=by
 refine returnsInHanded_of_change_and (C:=Tryd.checked) (X:=fun w _=>laidMetH Tryd.prog Rows.attributeSplitsRow.laid w) (fun _ _ _ hh h=>h.of_heap hh) own started (by kernel_rfl) Tryd.func5
  (ChangeSpec.witness_shaped (enc:=enc) (C:=Tryd.checked) (os:=os) (X:=fun w _=>laidMetH Tryd.prog Rows.attributeSplitsRow.laid w) false (World.doorLaid Tryd.prog 600 os) #[.slice none 0 0,.slice none 0 0,.slice none 0 0,.int .i64 0,.int .i64 0] 12 rfl (World.shaped_of_RefB (by kernel_rfl) (by kernel_rfl)) (by kernel_rfl) (by kernel_rfl) (by kernel_rfl) (door_met os _)) ?_
 intro W base args ds gs before hval0 hW _ hwt0 hlaid _
 refine Go.AX.frame_contractX (X:=laidMetH Tryd.prog Rows.attributeSplitsRow.laid) (wl:=Go.AX.Q18.Wl True) (C:=Tryd.checked) (b:=4) laidOut rfl ?_ rfl Tryd.underlying4 (by kernel_rfl) ?_ W hlaid base args ds gs before hval0 hW hwt0
 ·intro ds hd
  match ds,hd with
  | [_,_,_,_,_],_=>rfl
 intro W hX base args ds p hval0 hA0 hwt0
 have hval :∀(j:Nat) t v,Tryd.f5.params[j]?=some t→args[j]?=some v→Value.okWide Tryd.prog W .any base t v:=hval0
 have hA:DataW.TrodAll enc Tryd.prog W 0 (fun _=>true) true Tryd.f5.params.toList args.toList ds p:=hA0
 have hwt :∀(j:Nat) t d,Tryd.f5.params.toList[j]?=some t→ds[j]?=some d→Wt Tryd.prog t d:=hwt0
 rw [Tryd.params5] at hA hval hwt
 obtain ⟨v0,vs0,d0,ds0,p0,q0,hargs,rfl,rfl,h0,k0⟩:=trodAll_cons hA
 obtain ⟨v1,vs1,d1,ds1,p1,q1,rfl,rfl,rfl,h1,k1⟩:=trodAll_cons k0
 obtain ⟨v2,vs2,d2,ds2,p2,q2,rfl,rfl,rfl,h2,k2⟩:=trodAll_cons k1
 obtain ⟨v3,vs3,d3,ds3,p3,q3,rfl,rfl,rfl,h3,k3⟩:=trodAll_cons k2
 obtain ⟨v4,vs4,d4,ds4,p4,q4,rfl,rfl,rfl,h4,k4⟩:=trodAll_cons k3
 obtain ⟨rfl,rfl,rfl⟩:=trodAll_nil k4
 obtain rfl:args=#[v0,v1,v2,v3,v4]:=by cases args;simp_all
 clear hA0 hval0 hwt0
 obtain ⟨a0,w0,r0⟩:=Go.AX.open_one Tryd.underlying25 rfl (reads25 (enc:=enc)) (hval 0 25 v0 rfl rfl) h0 (hwt 0 25 d0 rfl rfl)
 obtain ⟨a1,w1,r1⟩:=Go.AX.open_one Tryd.underlying28 rfl (reads28 (enc:=enc)) (hval 1 28 v1 rfl rfl) h1 (hwt 1 28 d1 rfl rfl)
 obtain ⟨a2,w2,r2⟩:=Go.AX.open_one Tryd.underlying22 rfl (reads22 (enc:=enc)) (hval 2 22 v2 rfl rfl) h2 (hwt 2 22 d2 rfl rfl)
 obtain ⟨a3,w3,r3⟩:=Go.AX.open_one Tryd.underlying3 rfl (reads3 (enc:=enc)) (hval 3 3 v3 rfl rfl) h3 (hwt 3 3 d3 rfl rfl)
 obtain ⟨a4,w4,r4⟩:=Go.AX.open_one Tryd.underlying3 rfl (reads3 (enc:=enc)) (hval 4 3 v4 rfl rfl) h4 (hwt 4 3 d4 rfl rfl)
 exact ⟨_,.cons r0 (.cons r1 (.cons r2 (.cons r3 (.cons r4 .nil)))),Go.AX.Q18.law18_AttributeSplits_ok (attributeSplitsW a0 a1 a2 a3 a4 w0 w1 w2 w3 w4),Go.AX.Q18.glob_ok hX⟩
theorem over:Rows.attributeSplitsRow.holds Tryd.pinned (OpenSpec.ofChange Rows.attributeSplitsSpec):=
 OpenClaim.holds_of_wide 5 Tryd.f5 rfl rfl rfl rfl rfl rfl rfl ⟨rfl,rfl,rfl,rfl,rfl⟩ rfl rfl rfl rfl rfl (by kernel_rfl) Tryd.func5 (by kernel_rfl)
  (of_decide_eq_true (by kernel_rfl)) (by unfold Func.isWrapper;first | (rw [if_pos (by decide +kernel)];kernel_rfl) | (rw [if_neg (by decide +kernel)];exact ⟨rfl,rfl⟩))
  (fun os started H enc _=>lifted os started H enc)
theorem card_holds:Rows.AttributeSplitsCardSaid:=
 Claim7.holds_tied_plain_at .later [] [.mapped, .funcs] true (true, "19099bcb5ea83a3d5602baa23cba1e551e1aaa5920a6c9614d704af1fac1fd51") false over (fun _ h => by cases h) (by kernel_rfl) (fun _ h => by cases h) attributeSplits_row_tie rfl ⟨rfl, rfl⟩ (by kernel_rfl) rfl
  (fun f fn hf hfn=>by
   obtain rfl : f = 5 := Option.some.inj ((show Tryd.prog.funcNamed "exchangepoint/exchangepointlaw18.AttributeSplits" = some 5 by kernel_rfl).symm.trans hf) |>.symm
   obtain rfl:fn=Tryd.f5:=(Option.some.inj (Tryd.func5.symm.trans hfn)).symm
   exact ⟨by kernel_rfl,fun j t ht=>by
    rw [Tryd.params5] at ht
    have hm:t ∈ [25,28,22,3,3]:=by simpa using Array.mem_of_getElem? ht
    have hall:([25,28,22,3,3].all fun u=>!Tryd.prog.wantsStandIn u)=true:=by kernel_rfl
    exact (show Tryd.prog.wantsStandIn t=false by simpa using List.all_eq_true.1 hall t hm)⟩)
  (by kernel_rfl)
theorem proved:Rows.AttributeSplitsCardSaid:=card_holds
#print axioms proved
end Go.Proofs.YtbhoockehnpdoaaDoor.attributeSplits
end
