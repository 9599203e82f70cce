/-
  Texts of one proof, packed.
-/
import Derived.Test.YtbohbnpaadcfmaaGreatDoorKG4
import Derived.Test.YtbohbnpaadcfmaaGreatDoorKG5
import Derived.Test.YtbohbnpaadcfmaaGreatDoorKG8
import Derived.Test.YtbohbnpaadcfmaaGreatDoorKG9
import Derived.Below
import Derived.ChangeOld
import Derived.LaidMore
import Derived.Lay
import Derived.MakeChecks
import Derived.OpenShut
import Derived.ProofKit
import Derived.SevenTiedAt
import Derived.ShutString
import Derived.Test.YtbohbnpaadcfmaaGreatDoorCards
import Derived.Test.YtbohbnpaadcfmaaGreatDoorRows
import Derived.Test.YtbohbnpaadcfmaaGreatDoorTie
import Derived.WalkKit
set_option linter.all false
set_option maxRecDepth 100000
set_option maxHeartbeats 4000000
open Option.some renaming inj→X25
open Bool renaming and_eq_true→X27
section
namespace Go.Proofs.YtbohbnpaadcfmaaGreatDoor.updateFrames
open Go.ChangeShapes Go.WideShapes Go.ChangeAt Go.RowKit Go.AX Go.AX.Q19
set_option linter.unusedVariables false
theorem own:ownKnob Tryz.prog.godebug=none:=by kernel_rfl
theorem laidOut:laidOutB Tryz.prog=true:=by kernel_rfl
theorem reads3 {H:Type} {enc:TypeId×Value->H} {w:World}:Go.AX.Reads enc Tryz.prog w 3 (fun x:Int=>[D.i x]) (fun a:Int=>I64 a):=
 Go.AX.reads_i64 Tryz.underlying3
theorem reads5 {H:Type} {enc:TypeId×Value->H} {w:World}:Go.AX.Reads enc Tryz.prog w 5 (fun x:UInt8=>[D.u8 x]) (fun a:UInt8=>True):=
 Go.AX.reads_u8 Tryz.underlying5
theorem reads44 {H:Type} {enc:TypeId×Value->H} {w:World}:Go.AX.Reads enc Tryz.prog w 44 (fun x:List UInt8=>[D.l 1 D.u8 x]) (fun a:List UInt8=>(a.length<=maxLen/\a.length * 1<=reachBytes/\∀y0 ∈ a,True)):=
 Go.AX.reads_slice (el:=D.u8) (sz:=1) (by':=1) Tryz.underlying44 (by kernel_rfl) (by decide) (by kernel_rfl) reads5
theorem reads72 {H:Type} {enc:TypeId×Value->H} {w:World}:Go.AX.Reads enc Tryz.prog w 72 (fun x:Go.AX.Q19.JAH=>[D.i x.Type_,D.l 1 D.u8 x.Body]) (fun a:Go.AX.Q19.JAH=>Go.AX.Q19.JAH.wf a):=
 Go.AX.Reads.map' (Go.AX.reads_struct Tryz.underlying72 (by kernel_rfl) (Go.AX.readsF_cons (sz:=1) reads3 (Go.AX.readsF_cons (sz:=1) reads44 (Go.AX.readsF_nil)))) (fun x=>(⟨x.1,x.2.1⟩:Go.AX.Q19.JAH)) (fun _ _=>rfl) (fun _ h=>h)
theorem door_met (os:Os) (args:Array Value):laidMetH Tryz.prog Rows.updateFramesRow.laid ((World.doorLaid Tryz.prog 600 os).forCall (fun _ _=>0) ⟨#[],args,[]⟩).memory:=
 laidMetH_of_parts3 (fuel:=8) (laidMet_of_run' 8 (by kernel_rfl) (by kernel_rfl)) (by kernel_rfl) (by kernel_rfl)
set_option maxRecDepth 100000 in
theorem lifted (os:Os) (started:os.Started) (H:Type) (enc:TypeId×Value->H) :
  ReturnsInHanded {} Tryz.checked os 10 .any (fun w args=>(Rows.updateFramesSpec.pre enc Tryz.prog Tryz.f10 Rows.updateFramesRow.domain false w args/\laidMetH Tryz.prog Rows.updateFramesRow.laid w)/\sizedMet enc Tryz.prog Tryz.f10 (OpenSpec.ofChange Rows.updateFramesSpec) false w args) (Rows.updateFramesSpec.post enc Tryz.prog Tryz.f10 false true false false):=by
 refine returnsInHanded_of_change_and (C:=Tryz.checked) (X:=fun w _=>laidMetH Tryz.prog Rows.updateFramesRow.laid w) (fun _ _ _ hh h=>h.of_heap hh) own started (by kernel_rfl) Tryz.func10
  (ChangeSpec.witness_shaped (enc:=enc) (C:=Tryz.checked) (os:=os) (X:=fun w _=>laidMetH Tryz.prog Rows.updateFramesRow.laid w) false (World.doorLaid Tryz.prog 600 os) #[.agg #[.int .i64 0,.slice none 0 0],.slice none 0 0,.int .i64 0,.int .i64 0,.int .i64 0] 12 rfl (World.shaped_of_RefB (by kernel_rfl) (by kernel_rfl)) (by kernel_rfl) (by kernel_rfl) (by kernel_rfl) (door_met os _)) ?_
 intro W base args ds gs before hval0 hW _ hwt0 hlaid _
 refine Go.AX.frame_contractX (X:=laidMetH Tryz.prog Rows.updateFramesRow.laid) (wl:=Go.AX.Q19.Wl True) (C:=Tryz.checked) (b:=4) laidOut rfl ?_ rfl Tryz.underlying4 (by kernel_rfl) ?_ W hlaid base args ds gs before hval0 hW hwt0
 ·intro ds hd
  match ds,hd with
  | [_,_,_,_,_],_=>rfl
 intro W hX base args ds p hval0 hA0 hwt0
 have hval :∀(j:Nat) t v,Tryz.f10.params[j]?=some t->args[j]?=some v->Value.okWide Tryz.prog W .any base t v:=hval0
 have hA:DataW.TrodAll enc Tryz.prog W 0 (fun _=>true) true Tryz.f10.params.toList args.toList ds p:=hA0
 have hwt :∀(j:Nat) t d,Tryz.f10.params.toList[j]?=some t->ds[j]?=some d->Wt Tryz.prog t d:=hwt0
 rw[Tryz.params10] at hA hval hwt
 obtain⟨v0,vs0,d0,ds0,p0,q0,hargs,rfl,rfl,h0,k0⟩:=trodAll_cons hA
 obtain⟨v1,vs1,d1,ds1,p1,q1,rfl,rfl,rfl,h1,k1⟩:=trodAll_cons k0
 obtain⟨v2,vs2,d2,ds2,p2,q2,rfl,rfl,rfl,h2,k2⟩:=trodAll_cons k1
 obtain⟨v3,vs3,d3,ds3,p3,q3,rfl,rfl,rfl,h3,k3⟩:=trodAll_cons k2
 obtain⟨v4,vs4,d4,ds4,p4,q4,rfl,rfl,rfl,h4,k4⟩:=trodAll_cons k3
 obtain⟨rfl,rfl,rfl⟩:=trodAll_nil k4
 obtain rfl:args=#[v0,v1,v2,v3,v4]:=by cases args;simp_all
 clear hA0 hval0 hwt0
 obtain⟨a0,w0,r0⟩:=Go.AX.open_struct Tryz.underlying72 (reads72 (enc:=enc)) (hval 0 72 v0 rfl rfl) h0 (hwt 0 72 d0 rfl rfl)
 obtain⟨a1,w1,r1⟩:=Go.AX.open_one Tryz.underlying44 rfl (reads44 (enc:=enc)) (hval 1 44 v1 rfl rfl) h1 (hwt 1 44 d1 rfl rfl)
 obtain⟨a2,w2,r2⟩:=Go.AX.open_one Tryz.underlying3 rfl (reads3 (enc:=enc)) (hval 2 3 v2 rfl rfl) h2 (hwt 2 3 d2 rfl rfl)
 obtain⟨a3,w3,r3⟩:=Go.AX.open_one Tryz.underlying3 rfl (reads3 (enc:=enc)) (hval 3 3 v3 rfl rfl) h3 (hwt 3 3 d3 rfl rfl)
 obtain⟨a4,w4,r4⟩:=Go.AX.open_one Tryz.underlying3 rfl (reads3 (enc:=enc)) (hval 4 3 v4 rfl rfl) h4 (hwt 4 3 d4 rfl rfl)
 exact⟨_,.cons r0 (.cons r1 (.cons r2 (.cons r3 (.cons r4 .nil)))),Go.AX.Q19.law19_UpdateFrames_ok (Ph a0 a1 a2 a3 a4 w0 w1 w2 w3 w4),Go.AX.Q19.glob_ok hX⟩
theorem facts1:((Rows.updateFramesRow.inPlace==Tryz.prog.inPlace 10)&&(Rows.updateFramesRow.unfollowed==Tryz.prog.unfollowed 10)&&(Rows.updateFramesRow.recurses==Tryz.prog.recurses 10)&&(Rows.updateFramesRow.named==Tryz.prog.varsNamed 10))=true:=by kernel_rfl
theorem facts2:(Tryz.prog.stopsHeard&&Tryz.prog.mayEnter&&(Rows.updateFramesRow.lifted==Tryz.prog.liftsFinal)&&(Tryz.prog.make==some Rows.updateFramesRow.make))=true:=by kernel_rfl
theorem facts3:(laidOutB Tryz.prog&&mapsRowed Tryz.prog&&(Rows.updateFramesRow.plainKeys==Tryz.prog.plainKeys))=true:=by kernel_rfl
theorem facts:joinedFacts Tryz.prog 10 Tryz.f10 Rows.updateFramesSpec Rows.updateFramesRow=true:=by
 have h1:=facts1;have h2:=facts2;have h3:=facts3
 simp only[X27] at h1 h2 h3
 unfold joinedFacts
 rw[h1.1.1.1,h1.1.1.2,h1.1.2,h1.2,h2.1.1.1,h2.1.1.2,h2.1.2,h2.2,h3.1.1,h3.1.2,h3.2]
 clear h1 h2 h3
 refine (?_:@Eq Bool _ true)
 kernel_rfl
theorem over:Rows.updateFramesRow.holds Tryz.pinned (OpenSpec.ofChange Rows.updateFramesSpec):=
 OpenClaim.holds_of_wide 10 Tryz.f10 rfl rfl rfl rfl rfl rfl rfl ⟨rfl,rfl,rfl,rfl,rfl⟩ rfl rfl rfl rfl rfl (by kernel_rfl) Tryz.func10 facts
  (of_decide_eq_true (by kernel_rfl)) (by unfold Func.isWrapper;first | (rw[if_pos (by decide +kernel)];kernel_rfl)|(rw[if_neg (by decide +kernel)];exact⟨rfl,rfl⟩))
  (fun os started H enc _=>lifted os started H enc)
theorem card1 : Tryz.prog.mainIs = some ((true, "4d14b10b716c4aff8c8928ee5b61c1fa8e9c3f2440ff595c943cb71bf99dc993").1, (true, "4d14b10b716c4aff8c8928ee5b61c1fa8e9c3f2440ff595c943cb71bf99dc993").2.toList) := by kernel_rfl
theorem card2:false=Tryz.prog.looks []:=by kernel_rfl
theorem card3:false=Rows.updateFramesRow.goesBy Tryz.prog:=by kernel_rfl
theorem card_holds:Rows.UpdateFramesCardSaid:=
 Claim7.holds_tied_plain_at .later [] [.mapped, .funcs] true (true, "4d14b10b716c4aff8c8928ee5b61c1fa8e9c3f2440ff595c943cb71bf99dc993") false over (fun _ h => by cases h) (by kernel_rfl) (fun _ h => by cases h) updateFrames_row_tie rfl ⟨rfl, rfl⟩ card1 rfl
  (fun f fn hf hfn=>by
   obtain rfl : f = 10 := X25 ((show Tryz.prog.funcNamed "exchangepoint/exchangepointlaw19.UpdateFrames" = some 10 by kernel_rfl).symm.trans hf) |>.symm
   obtain rfl:fn=Tryz.f10:=(X25 (Tryz.func10.symm.trans hfn)).symm
   exact⟨card2,fun j t ht=>by
    rw[Tryz.params10] at ht
    have hm:t ∈ [72,44,3,3,3]:=by simpa using Array.mem_of_getElem? ht
    have hall:([72,44,3,3,3].all fun u=>!Tryz.prog.wantsStandIn u)=true:=by kernel_rfl
    exact (show Tryz.prog.wantsStandIn t=false by simpa using List.all_eq_true.1 hall t hm)⟩)
  card3
theorem proved:Rows.UpdateFramesCardSaid:=card_holds
#print axioms proved
end Go.Proofs.YtbohbnpaadcfmaaGreatDoor.updateFrames
end
