/-
  Texts of one proof, packed: F18Writes.
-/
import Derived.Test.YtbhoockehnpdoaaGreatDoorK2
import Derived.Test.YtbhoockehnpdoaaGreatDoorK3
import Derived.Test.YtbhoockehnpdoaaGreatDoorK4
import Derived.Below
import Derived.ChangeOld
import Derived.LaidMore
import Derived.Lay
import Derived.MakeChecks
import Derived.OpenShut
import Derived.ProofKit
import Derived.SevenTiedAt
import Derived.ShutString
import Derived.Test.YtbhoockehnpdoaaGreatDoorCards
import Derived.Test.YtbhoockehnpdoaaGreatDoorRows
import Derived.Test.YtbhoockehnpdoaaGreatDoorTie
import Derived.WalkKit
set_option linter.all false
section
namespace Go.Proofs.YtbhoockehnpdoaaGreatDoor.attributeWrites
open Go.ChangeShapes Go.WideShapes Go.ChangeAt Go.RowKit Go.AX Go.AX.Q18
set_option linter.unusedVariables false
theorem own:ownKnob Tryz.prog.godebug=none:=by kernel_rfl
theorem laidOut:laidOutB Tryz.prog=true:=by kernel_rfl
theorem reads3 {H:Type} {enc:TypeId×Value→H} {w:World}:Go.AX.Reads enc Tryz.prog w 3 (fun x:Int=>[D.i x]) (fun a:Int=>I64 a):=
 Go.AX.reads_i64 Tryz.underlying3
theorem reads4 {H:Type} {enc:TypeId×Value→H} {w:World}:Go.AX.Reads enc Tryz.prog w 4 (fun x:Bool=>[D.b x]) (fun a:Bool=>True):=
 Go.AX.reads_bool Tryz.underlying4
theorem reads31 {H:Type} {enc:TypeId×Value→H} {w:World}:Go.AX.Reads enc Tryz.prog w 31 (fun x:List Int=>[D.l 1 D.i x]) (fun a:List Int=>(a.length ≤ maxLen∧a.length * 8 ≤ reachBytes∧∀y0 ∈ a,I64 y0)):=
 Go.AX.reads_slice (el:=D.i) (sz:=1) (by':=8) Tryz.underlying31 (by kernel_rfl) (by decide) (by kernel_rfl) reads3
theorem reads46 {H:Type} {enc:TypeId×Value→H} {w:World}:Go.AX.Reads enc Tryz.prog w 46 (fun x:Go.AX.Q18.Segment=>[D.b x.Set,D.l 1 D.i x.ASNs]) (fun a:Go.AX.Q18.Segment=>Go.AX.Q18.Segment.wf a):=
 Go.AX.Reads.map' (Go.AX.reads_struct Tryz.underlying46 (by kernel_rfl) (Go.AX.readsF_cons (sz:=1) reads4 (Go.AX.readsF_cons (sz:=1) reads31 (Go.AX.readsF_nil)))) (fun x=>(⟨x.1,x.2.1⟩:Go.AX.Q18.Segment)) (fun _ _=>rfl) (fun _ h=>h)
theorem reads22 {H:Type} {enc:TypeId×Value→H} {w:World}:Go.AX.Reads enc Tryz.prog w 22 (fun x:List Go.AX.Q18.Segment=>[D.l 2 Go.AX.Q18.Segment.toD x]) (fun a:List Go.AX.Q18.Segment=>(a.length ≤ maxLen∧a.length * 32 ≤ reachBytes∧∀y0 ∈ a,Go.AX.Q18.Segment.wf y0)):=
 Go.AX.reads_slice (el:=Go.AX.Q18.Segment.toD) (sz:=2) (by':=32) Tryz.underlying22 (by kernel_rfl) (by decide) (by kernel_rfl) reads46
theorem reads23 {H:Type} {enc:TypeId×Value→H} {w:World}:Go.AX.Reads enc Tryz.prog w 23 (fun x:UInt64=>[D.u64 x]) (fun a:UInt64=>True):=
 Go.AX.reads_u64 Tryz.underlying23
theorem reads25 {H:Type} {enc:TypeId×Value→H} {w:World}:Go.AX.Reads enc Tryz.prog w 25 (fun x:Go.AX.Q18.Addr=>[D.b x.V6,D.u64 x.Hi,D.u64 x.Lo]) (fun a:Go.AX.Q18.Addr=>Go.AX.Q18.Addr.wf a):=
 Go.AX.Reads.map' (Go.AX.reads_struct Tryz.underlying25 (by kernel_rfl) (Go.AX.readsF_cons (sz:=1) reads4 (Go.AX.readsF_cons (sz:=1) reads23 (Go.AX.readsF_cons (sz:=1) reads23 (Go.AX.readsF_nil))))) (fun x=>(⟨x.1,x.2.1,x.2.2.1⟩:Go.AX.Q18.Addr)) (fun _ _=>rfl) (fun _ h=>h)
theorem reads66 {H:Type} {enc:TypeId×Value→H} {w:World}:Go.AX.Reads enc Tryz.prog w 66 (fun x:Go.AX.Q18.Community=>[D.i x.A,D.i x.B]) (fun a:Go.AX.Q18.Community=>Go.AX.Q18.Community.wf a):=
 Go.AX.Reads.map' (Go.AX.reads_struct Tryz.underlying66 (by kernel_rfl) (Go.AX.readsF_cons (sz:=1) reads3 (Go.AX.readsF_cons (sz:=1) reads3 (Go.AX.readsF_nil)))) (fun x=>(⟨x.1,x.2.1⟩:Go.AX.Q18.Community)) (fun _ _=>rfl) (fun _ h=>h)
theorem reads26 {H:Type} {enc:TypeId×Value→H} {w:World}:Go.AX.Reads enc Tryz.prog w 26 (fun x:List Go.AX.Q18.Community=>[D.l 2 Go.AX.Q18.Community.toD x]) (fun a:List Go.AX.Q18.Community=>(a.length ≤ maxLen∧a.length * 16 ≤ reachBytes∧∀y0 ∈ a,Go.AX.Q18.Community.wf y0)):=
 Go.AX.reads_slice (el:=Go.AX.Q18.Community.toD) (sz:=2) (by':=16) Tryz.underlying26 (by kernel_rfl) (by decide) (by kernel_rfl) reads66
theorem reads80 {H:Type} {enc:TypeId×Value→H} {w:World}:Go.AX.Reads enc Tryz.prog w 80 (fun x:Go.AX.Q18.Large=>[D.i x.A,D.i x.B,D.i x.C]) (fun a:Go.AX.Q18.Large=>Go.AX.Q18.Large.wf a):=
 Go.AX.Reads.map' (Go.AX.reads_struct Tryz.underlying80 (by kernel_rfl) (Go.AX.readsF_cons (sz:=1) reads3 (Go.AX.readsF_cons (sz:=1) reads3 (Go.AX.readsF_cons (sz:=1) reads3 (Go.AX.readsF_nil))))) (fun x=>(⟨x.1,x.2.1,x.2.2.1⟩:Go.AX.Q18.Large)) (fun _ _=>rfl) (fun _ h=>h)
theorem reads27 {H:Type} {enc:TypeId×Value→H} {w:World}:Go.AX.Reads enc Tryz.prog w 27 (fun x:List Go.AX.Q18.Large=>[D.l 3 Go.AX.Q18.Large.toD x]) (fun a:List Go.AX.Q18.Large=>(a.length ≤ maxLen∧a.length * 24 ≤ reachBytes∧∀y0 ∈ a,Go.AX.Q18.Large.wf y0)):=
 Go.AX.reads_slice (el:=Go.AX.Q18.Large.toD) (sz:=3) (by':=24) Tryz.underlying27 (by kernel_rfl) (by decide) (by kernel_rfl) reads80
theorem reads5 {H:Type} {enc:TypeId×Value→H} {w:World}:Go.AX.Reads enc Tryz.prog w 5 (fun x:UInt8=>[D.u8 x]) (fun a:UInt8=>True):=
 Go.AX.reads_u8 Tryz.underlying5
theorem reads49 {H:Type} {enc:TypeId×Value→H} {w:World}:Go.AX.Reads enc Tryz.prog w 49 (fun x:List UInt8=>[D.l 1 D.u8 x]) (fun a:List UInt8=>(a.length ≤ maxLen∧a.length * 1 ≤ reachBytes∧∀y0 ∈ a,True)):=
 Go.AX.reads_slice (el:=D.u8) (sz:=1) (by':=1) Tryz.underlying49 (by kernel_rfl) (by decide) (by kernel_rfl) reads5
theorem reads62 {H:Type} {enc:TypeId×Value→H} {w:World}:Go.AX.Reads enc Tryz.prog w 62 (fun x:Go.AX.Q18.Unknown=>[D.i x.Flags,D.i x.Type_,D.l 1 D.u8 x.Data]) (fun a:Go.AX.Q18.Unknown=>Go.AX.Q18.Unknown.wf a):=
 Go.AX.Reads.map' (Go.AX.reads_struct Tryz.underlying62 (by kernel_rfl) (Go.AX.readsF_cons (sz:=1) reads3 (Go.AX.readsF_cons (sz:=1) reads3 (Go.AX.readsF_cons (sz:=1) reads49 (Go.AX.readsF_nil))))) (fun x=>(⟨x.1,x.2.1,x.2.2.1⟩:Go.AX.Q18.Unknown)) (fun _ _=>rfl) (fun _ h=>h)
theorem reads28 {H:Type} {enc:TypeId×Value→H} {w:World}:Go.AX.Reads enc Tryz.prog w 28 (fun x:List Go.AX.Q18.Unknown=>[D.l 3 Go.AX.Q18.Unknown.toD x]) (fun a:List Go.AX.Q18.Unknown=>(a.length ≤ maxLen∧a.length * 40 ≤ reachBytes∧∀y0 ∈ a,Go.AX.Q18.Unknown.wf y0)):=
 Go.AX.reads_slice (el:=Go.AX.Q18.Unknown.toD) (sz:=3) (by':=40) Tryz.underlying28 (by kernel_rfl) (by decide) (by kernel_rfl) reads62
theorem reads30 {H:Type} {enc:TypeId×Value→H} {w:World}:Go.AX.Reads enc Tryz.prog w 30 (fun x:Go.AX.Q18.Attrs=>[D.i x.Origin,D.l 2 Go.AX.Q18.Segment.toD x.Path,D.b x.Next.V6,D.u64 x.Next.Hi,D.u64 x.Next.Lo,D.i x.MED,D.i x.Pref,D.i x.OTC,D.l 2 Go.AX.Q18.Community.toD x.Communities,D.l 3 Go.AX.Q18.Large.toD x.Large,D.l 3 Go.AX.Q18.Unknown.toD x.Other]) (fun a:Go.AX.Q18.Attrs=>Go.AX.Q18.Attrs.wf a):=
 Go.AX.Reads.map' (Go.AX.reads_struct Tryz.underlying30 (by kernel_rfl) (Go.AX.readsF_cons (sz:=1) reads3 (Go.AX.readsF_cons (sz:=1) reads22 (Go.AX.readsF_cons (sz:=3) reads25 (Go.AX.readsF_cons (sz:=1) reads3 (Go.AX.readsF_cons (sz:=1) reads3 (Go.AX.readsF_cons (sz:=1) reads3 (Go.AX.readsF_cons (sz:=1) reads26 (Go.AX.readsF_cons (sz:=1) reads27 (Go.AX.readsF_cons (sz:=1) reads28 (Go.AX.readsF_nil))))))))))) (fun x=>(⟨x.1,x.2.1,x.2.2.1,x.2.2.2.1,x.2.2.2.2.1,x.2.2.2.2.2.1,x.2.2.2.2.2.2.1,x.2.2.2.2.2.2.2.1,x.2.2.2.2.2.2.2.2.1⟩:Go.AX.Q18.Attrs)) (fun _ _=>rfl) (fun _ h=>h)
theorem door_met (os:Os) (args:Array Value):laidMetH Tryz.prog Rows.attributeWritesRow.laid ((World.doorLaid Tryz.prog 600 os).forCall (fun _ _=>0) ⟨#[],args,[]⟩).memory:=
 laidMetH_of_parts3 (fuel:=8) (laidMet_of_run' 8 (by kernel_rfl) (by kernel_rfl)) (by kernel_rfl) (by kernel_rfl)
set_option maxRecDepth 100000 in
theorem lifted (os:Os) (started:os.Started) (H:Type) (enc:TypeId×Value→H) :
  ReturnsInHanded {} Tryz.checked os 3 .any (fun w args=>(Rows.attributeWritesSpec.pre enc Tryz.prog Tryz.f3 Rows.attributeWritesRow.domain false w args∧laidMetH Tryz.prog Rows.attributeWritesRow.laid w)∧sizedMet enc Tryz.prog Tryz.f3 (OpenSpec.ofChange Rows.attributeWritesSpec) false w args) (Rows.attributeWritesSpec.post enc Tryz.prog Tryz.f3 false true false false):=by
 refine returnsInHanded_of_change_and (C:=Tryz.checked) (X:=fun w _=>laidMetH Tryz.prog Rows.attributeWritesRow.laid w) (fun _ _ _ hh h=>h.of_heap hh) own started (by kernel_rfl) Tryz.func3
  (ChangeSpec.witness_shaped (enc:=enc) (C:=Tryz.checked) (os:=os) (X:=fun w _=>laidMetH Tryz.prog Rows.attributeWritesRow.laid w) false (World.doorLaid Tryz.prog 600 os) #[.agg #[.int .i64 0,.slice none 0 0,.bool false,.int .u64 0,.int .u64 0,.int .i64 0,.int .i64 0,.int .i64 0,.slice none 0 0,.slice none 0 0,.slice none 0 0],.slice none 0 0,.int .i64 0,.int .i64 0] 12 rfl (World.shaped_of_RefB (by kernel_rfl) (by kernel_rfl)) (by kernel_rfl) (by kernel_rfl) (by kernel_rfl) (door_met os _)) ?_
 intro W base args ds gs before hval0 hW _ hwt0 hlaid _
 refine Go.AX.frame_contractX (X:=laidMetH Tryz.prog Rows.attributeWritesRow.laid) (wl:=Go.AX.Q18.Wl True) (C:=Tryz.checked) (b:=4) laidOut rfl ?_ rfl Tryz.underlying4 (by kernel_rfl) ?_ W hlaid base args ds gs before hval0 hW hwt0
 ·intro ds hd
  match ds,hd with
  | [_,_,_,_],_=>rfl
 intro W hX base args ds p hval0 hA0 hwt0
 have hval :∀(j:Nat) t v,Tryz.f3.params[j]?=some t→args[j]?=some v→Value.okWide Tryz.prog W .any base t v:=hval0
 have hA:DataW.TrodAll enc Tryz.prog W 0 (fun _=>true) true Tryz.f3.params.toList args.toList ds p:=hA0
 have hwt :∀(j:Nat) t d,Tryz.f3.params.toList[j]?=some t→ds[j]?=some d→Wt Tryz.prog t d:=hwt0
 rw [Tryz.params3] at hA hval hwt
 obtain ⟨v0,vs0,d0,ds0,p0,q0,hargs,rfl,rfl,h0,k0⟩:=trodAll_cons hA
 obtain ⟨v1,vs1,d1,ds1,p1,q1,rfl,rfl,rfl,h1,k1⟩:=trodAll_cons k0
 obtain ⟨v2,vs2,d2,ds2,p2,q2,rfl,rfl,rfl,h2,k2⟩:=trodAll_cons k1
 obtain ⟨v3,vs3,d3,ds3,p3,q3,rfl,rfl,rfl,h3,k3⟩:=trodAll_cons k2
 obtain ⟨rfl,rfl,rfl⟩:=trodAll_nil k3
 obtain rfl:args=#[v0,v1,v2,v3]:=by cases args;simp_all
 clear hA0 hval0 hwt0
 obtain ⟨a0,w0,r0⟩:=Go.AX.open_struct Tryz.underlying30 (reads30 (enc:=enc)) (hval 0 30 v0 rfl rfl) h0 (hwt 0 30 d0 rfl rfl)
 obtain ⟨a1,w1,r1⟩:=Go.AX.open_one Tryz.underlying31 rfl (reads31 (enc:=enc)) (hval 1 31 v1 rfl rfl) h1 (hwt 1 31 d1 rfl rfl)
 obtain ⟨a2,w2,r2⟩:=Go.AX.open_one Tryz.underlying3 rfl (reads3 (enc:=enc)) (hval 2 3 v2 rfl rfl) h2 (hwt 2 3 d2 rfl rfl)
 obtain ⟨a3,w3,r3⟩:=Go.AX.open_one Tryz.underlying3 rfl (reads3 (enc:=enc)) (hval 3 3 v3 rfl rfl) h3 (hwt 3 3 d3 rfl rfl)
 exact ⟨_,.cons r0 (.cons r1 (.cons r2 (.cons r3 .nil))),Go.AX.Q18.law18_AttributeWrites_ok (attributeWritesW a0 a1 a2 a3 w0 w1 w2 w3),Go.AX.Q18.glob_ok hX⟩
theorem over:Rows.attributeWritesRow.holds Tryz.pinned (OpenSpec.ofChange Rows.attributeWritesSpec):=
 OpenClaim.holds_of_wide 3 Tryz.f3 rfl rfl rfl rfl rfl rfl rfl ⟨rfl,rfl,rfl,rfl,rfl⟩ rfl rfl rfl rfl rfl (by kernel_rfl) Tryz.func3 (by kernel_rfl)
  (of_decide_eq_true (by kernel_rfl)) (by unfold Func.isWrapper;first | (rw [if_pos (by decide +kernel)];kernel_rfl) | (rw [if_neg (by decide +kernel)];exact ⟨rfl,rfl⟩))
  (fun os started H enc _=>lifted os started H enc)
theorem card_holds:Rows.AttributeWritesCardSaid:=
 Claim7.holds_tied_plain_at .later [] [.mapped, .funcs] true (true, "8f39fcddfb2f592b6c1165b92ec6277a211a0a7be8c01544efb59666e91650d4") false over (fun _ h => by cases h) (by kernel_rfl) (fun _ h => by cases h) attributeWrites_row_tie rfl ⟨rfl, rfl⟩ (by kernel_rfl) rfl
  (fun f fn hf hfn=>by
   obtain rfl : f = 3 := Option.some.inj ((show Tryz.prog.funcNamed "exchangepoint/exchangepointlaw18.AttributeWrites" = some 3 by kernel_rfl).symm.trans hf) |>.symm
   obtain rfl:fn=Tryz.f3:=(Option.some.inj (Tryz.func3.symm.trans hfn)).symm
   exact ⟨by kernel_rfl,fun j t ht=>by
    rw [Tryz.params3] at ht
    have hm:t ∈ [30,31,3,3]:=by simpa using Array.mem_of_getElem? ht
    have hall:([30,31,3,3].all fun u=>!Tryz.prog.wantsStandIn u)=true:=by kernel_rfl
    exact (show Tryz.prog.wantsStandIn t=false by simpa using List.all_eq_true.1 hall t hm)⟩)
  (by kernel_rfl)
theorem proved:Rows.AttributeWritesCardSaid:=card_holds
#print axioms proved
end Go.Proofs.YtbhoockehnpdoaaGreatDoor.attributeWrites
end
