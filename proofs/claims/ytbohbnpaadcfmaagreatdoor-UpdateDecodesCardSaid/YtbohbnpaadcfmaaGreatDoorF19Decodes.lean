/-
  Texts of one proof, packed.
-/
import Derived.Test.YtbohbnpaadcfmaaGreatDoorKD10
import Derived.Test.YtbohbnpaadcfmaaGreatDoorKD4
import Derived.Test.YtbohbnpaadcfmaaGreatDoorKD5
import Derived.Test.YtbohbnpaadcfmaaGreatDoorKD8
import Derived.Below
import Derived.ChangeOld
import Derived.LaidMore
import Derived.Lay
import Derived.MakeChecks
import Derived.OpenShut
import Derived.ProofKit
import Derived.SevenTiedAt
import Derived.ShutString
import Derived.Test.YtbohbnpaadcfmaaGreatDoorCards
import Derived.Test.YtbohbnpaadcfmaaGreatDoorRows
import Derived.Test.YtbohbnpaadcfmaaGreatDoorTie
import Derived.WalkKit
set_option linter.all false
set_option maxRecDepth 100000
set_option maxHeartbeats 4000000
open Option.some renaming inj→X25
open Bool renaming and_eq_true→X27
section
namespace Go.Proofs.YtbohbnpaadcfmaaGreatDoor.updateDecodes
open Go.ChangeShapes Go.WideShapes Go.ChangeAt Go.RowKit Go.AX Go.AX.Q19
set_option linter.unusedVariables false
theorem own:ownKnob Tryz.prog.godebug=none:=by kernel_rfl
theorem laidOut:laidOutB Tryz.prog=true:=by kernel_rfl
theorem reads5 {H:Type} {enc:TypeId×Value->H} {w:World}:Go.AX.Reads enc Tryz.prog w 5 (fun x:UInt8=>[D.u8 x]) (fun a:UInt8=>True):=
 Go.AX.reads_u8 Tryz.underlying5
theorem reads44 {H:Type} {enc:TypeId×Value->H} {w:World}:Go.AX.Reads enc Tryz.prog w 44 (fun x:List UInt8=>[D.l 1 D.u8 x]) (fun a:List UInt8=>(a.length<=maxLen/\a.length * 1<=reachBytes/\∀y0 ∈ a,True)):=
 Go.AX.reads_slice (el:=D.u8) (sz:=1) (by':=1) Tryz.underlying44 (by kernel_rfl) (by decide) (by kernel_rfl) reads5
theorem reads3 {H:Type} {enc:TypeId×Value->H} {w:World}:Go.AX.Reads enc Tryz.prog w 3 (fun x:Int=>[D.i x]) (fun a:Int=>I64 a):=
 Go.AX.reads_i64 Tryz.underlying3
theorem reads22 {H:Type} {enc:TypeId×Value->H} {w:World}:Go.AX.Reads enc Tryz.prog w 22 (fun x:List Int=>[D.l 1 D.i x]) (fun a:List Int=>(a.length<=maxLen/\a.length * 8<=reachBytes/\∀y0 ∈ a,I64 y0)):=
 Go.AX.reads_slice (el:=D.i) (sz:=1) (by':=8) Tryz.underlying22 (by kernel_rfl) (by decide) (by kernel_rfl) reads3
theorem door_met (os:Os) (args:Array Value):laidMetH Tryz.prog Rows.updateDecodesRow.laid ((World.doorLaid Tryz.prog 600 os).forCall (fun _ _=>0) ⟨#[],args,[]⟩).memory:=
 laidMetH_of_parts3 (fuel:=8) (laidMet_of_run' 8 (by kernel_rfl) (by kernel_rfl)) (by kernel_rfl) (by kernel_rfl)
set_option maxRecDepth 100000 in
theorem lifted (os:Os) (started:os.Started) (H:Type) (enc:TypeId×Value->H) :
  ReturnsInHanded {} Tryz.checked os 5 .any (fun w args=>(Rows.updateDecodesSpec.pre enc Tryz.prog Tryz.f5 Rows.updateDecodesRow.domain false w args/\laidMetH Tryz.prog Rows.updateDecodesRow.laid w)/\sizedMet enc Tryz.prog Tryz.f5 (OpenSpec.ofChange Rows.updateDecodesSpec) false w args) (Rows.updateDecodesSpec.post enc Tryz.prog Tryz.f5 false true false false):=by
 refine returnsInHanded_of_change_and (C:=Tryz.checked) (X:=fun w _=>laidMetH Tryz.prog Rows.updateDecodesRow.laid w) (fun _ _ _ hh h=>h.of_heap hh) own started (by kernel_rfl) Tryz.func5
  (ChangeSpec.witness_shaped (enc:=enc) (C:=Tryz.checked) (os:=os) (X:=fun w _=>laidMetH Tryz.prog Rows.updateDecodesRow.laid w) false (World.doorLaid Tryz.prog 600 os) #[.slice none 0 0,.slice none 0 0,.int .i64 0,.int .i64 0] 12 rfl (World.shaped_of_RefB (by kernel_rfl) (by kernel_rfl)) (by kernel_rfl) (by kernel_rfl) (by kernel_rfl) (door_met os _)) ?_
 intro W base args ds gs before hval0 hW _ hwt0 hlaid _
 refine Go.AX.frame_contractX (X:=laidMetH Tryz.prog Rows.updateDecodesRow.laid) (wl:=Go.AX.Q19.Wl True) (C:=Tryz.checked) (b:=4) laidOut rfl ?_ rfl Tryz.underlying4 (by kernel_rfl) ?_ W hlaid base args ds gs before hval0 hW hwt0
 ·intro ds hd
  match ds,hd with
  | [_,_,_,_],_=>rfl
 intro W hX base args ds p hval0 hA0 hwt0
 have hval :∀(j:Nat) t v,Tryz.f5.params[j]?=some t->args[j]?=some v->Value.okWide Tryz.prog W .any base t v:=hval0
 have hA:DataW.TrodAll enc Tryz.prog W 0 (fun _=>true) true Tryz.f5.params.toList args.toList ds p:=hA0
 have hwt :∀(j:Nat) t d,Tryz.f5.params.toList[j]?=some t->ds[j]?=some d->Wt Tryz.prog t d:=hwt0
 rw[Tryz.params5] at hA hval hwt
 obtain⟨v0,vs0,d0,ds0,p0,q0,hargs,rfl,rfl,h0,k0⟩:=trodAll_cons hA
 obtain⟨v1,vs1,d1,ds1,p1,q1,rfl,rfl,rfl,h1,k1⟩:=trodAll_cons k0
 obtain⟨v2,vs2,d2,ds2,p2,q2,rfl,rfl,rfl,h2,k2⟩:=trodAll_cons k1
 obtain⟨v3,vs3,d3,ds3,p3,q3,rfl,rfl,rfl,h3,k3⟩:=trodAll_cons k2
 obtain⟨rfl,rfl,rfl⟩:=trodAll_nil k3
 obtain rfl:args=#[v0,v1,v2,v3]:=by cases args;simp_all
 clear hA0 hval0 hwt0
 obtain⟨a0,w0,r0⟩:=Go.AX.open_one Tryz.underlying44 rfl (reads44 (enc:=enc)) (hval 0 44 v0 rfl rfl) h0 (hwt 0 44 d0 rfl rfl)
 obtain⟨a1,w1,r1⟩:=Go.AX.open_one Tryz.underlying22 rfl (reads22 (enc:=enc)) (hval 1 22 v1 rfl rfl) h1 (hwt 1 22 d1 rfl rfl)
 obtain⟨a2,w2,r2⟩:=Go.AX.open_one Tryz.underlying3 rfl (reads3 (enc:=enc)) (hval 2 3 v2 rfl rfl) h2 (hwt 2 3 d2 rfl rfl)
 obtain⟨a3,w3,r3⟩:=Go.AX.open_one Tryz.underlying3 rfl (reads3 (enc:=enc)) (hval 3 3 v3 rfl rfl) h3 (hwt 3 3 d3 rfl rfl)
 exact⟨_,.cons r0 (.cons r1 (.cons r2 (.cons r3 .nil))),Go.AX.Q19.law19_UpdateDecodes_ok (Qb a0 a1 a2 a3 w0 w1 w2 w3),Go.AX.Q19.glob_ok hX⟩
theorem facts1:((Rows.updateDecodesRow.inPlace==Tryz.prog.inPlace 5)&&(Rows.updateDecodesRow.unfollowed==Tryz.prog.unfollowed 5)&&(Rows.updateDecodesRow.recurses==Tryz.prog.recurses 5)&&(Rows.updateDecodesRow.named==Tryz.prog.varsNamed 5))=true:=by kernel_rfl
theorem facts2:(Tryz.prog.stopsHeard&&Tryz.prog.mayEnter&&(Rows.updateDecodesRow.lifted==Tryz.prog.liftsFinal)&&(Tryz.prog.make==some Rows.updateDecodesRow.make))=true:=by kernel_rfl
theorem facts3:(laidOutB Tryz.prog&&mapsRowed Tryz.prog&&(Rows.updateDecodesRow.plainKeys==Tryz.prog.plainKeys))=true:=by kernel_rfl
theorem facts:joinedFacts Tryz.prog 5 Tryz.f5 Rows.updateDecodesSpec Rows.updateDecodesRow=true:=by
 have h1:=facts1;have h2:=facts2;have h3:=facts3
 simp only[X27] at h1 h2 h3
 unfold joinedFacts
 rw[h1.1.1.1,h1.1.1.2,h1.1.2,h1.2,h2.1.1.1,h2.1.1.2,h2.1.2,h2.2,h3.1.1,h3.1.2,h3.2]
 clear h1 h2 h3
 refine (?_:@Eq Bool _ true)
 kernel_rfl
theorem over:Rows.updateDecodesRow.holds Tryz.pinned (OpenSpec.ofChange Rows.updateDecodesSpec):=
 OpenClaim.holds_of_wide 5 Tryz.f5 rfl rfl rfl rfl rfl rfl rfl ⟨rfl,rfl,rfl,rfl,rfl⟩ rfl rfl rfl rfl rfl (by kernel_rfl) Tryz.func5 facts
  (of_decide_eq_true (by kernel_rfl)) (by unfold Func.isWrapper;first | (rw[if_pos (by decide +kernel)];kernel_rfl)|(rw[if_neg (by decide +kernel)];exact⟨rfl,rfl⟩))
  (fun os started H enc _=>lifted os started H enc)
theorem card1 : Tryz.prog.mainIs = some ((true, "4d14b10b716c4aff8c8928ee5b61c1fa8e9c3f2440ff595c943cb71bf99dc993").1, (true, "4d14b10b716c4aff8c8928ee5b61c1fa8e9c3f2440ff595c943cb71bf99dc993").2.toList) := by kernel_rfl
theorem card2:false=Tryz.prog.looks []:=by kernel_rfl
theorem card3:false=Rows.updateDecodesRow.goesBy Tryz.prog:=by kernel_rfl
theorem card_holds:Rows.UpdateDecodesCardSaid:=
 Claim7.holds_tied_plain_at .later [] [.mapped, .funcs] true (true, "4d14b10b716c4aff8c8928ee5b61c1fa8e9c3f2440ff595c943cb71bf99dc993") false over (fun _ h => by cases h) (by kernel_rfl) (fun _ h => by cases h) updateDecodes_row_tie rfl ⟨rfl, rfl⟩ card1 rfl
  (fun f fn hf hfn=>by
   obtain rfl : f = 5 := X25 ((show Tryz.prog.funcNamed "exchangepoint/exchangepointlaw19.UpdateDecodes" = some 5 by kernel_rfl).symm.trans hf) |>.symm
   obtain rfl:fn=Tryz.f5:=(X25 (Tryz.func5.symm.trans hfn)).symm
   exact⟨card2,fun j t ht=>by
    rw[Tryz.params5] at ht
    have hm:t ∈ [44,22,3,3]:=by simpa using Array.mem_of_getElem? ht
    have hall:([44,22,3,3].all fun u=>!Tryz.prog.wantsStandIn u)=true:=by kernel_rfl
    exact (show Tryz.prog.wantsStandIn t=false by simpa using List.all_eq_true.1 hall t hm)⟩)
  card3
theorem proved:Rows.UpdateDecodesCardSaid:=card_holds
#print axioms proved
end Go.Proofs.YtbohbnpaadcfmaaGreatDoor.updateDecodes
end
