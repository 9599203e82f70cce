/-
  Texts of one proof, packed.
-/
import Derived.Test.YthbbpeeghmpcfaaGreatDoorF33CReturns
import Derived.Test.YthbbpeeghmpcfaaGreatDoorR14
import Derived.Test.YthbbpeeghmpcfaaGreatDoorR18
import Derived.Test.YthbbpeeghmpcfaaGreatDoorR31
import Derived.Test.YthbbpeeghmpcfaaGreatDoorR36
import Derived.Below
import Derived.ChangeOld
import Derived.LaidMore
import Derived.Lay
import Derived.MakeChecks
import Derived.OpenShut
import Derived.ProofKit
import Derived.SevenTiedAt
import Derived.ShutString
import Derived.Test.YthbbpeeghmpcfaaGreatDoorCards
import Derived.Test.YthbbpeeghmpcfaaGreatDoorRows
import Derived.Test.YthbbpeeghmpcfaaGreatDoorTie
import Derived.WalkKit
set_option linter.all false
set_option maxRecDepth 100000
set_option maxHeartbeats 4000000
open List renaming length_map→X1,length_append→X2,length_drop→X14,length_take→X15,length_replicate→X17,length_set→X18
open Option.some renaming inj→X22
open Bool renaming and_eq_true→X24
section
namespace Go.Proofs.YthbbpeeghmpcfaaGreatDoor.restartReturns
open Go.ChangeShapes Go.WideShapes Go.ChangeAt Go.RowKit Go.AX Go.AX.Q33
set_option linter.unusedVariables false
theorem own:ownKnob Tryz.prog.godebug=none:=by kernel_rfl
theorem laidOut:laidOutB Tryz.prog=true:=by kernel_rfl
theorem reads3 {H:Type} {enc:TypeId×Value->H} {w:World}:Go.AX.Reads enc Tryz.prog w 3 (fun x:Int=>[D.i x]) (fun a:Int=>CA a):=
 Go.AX.PF Tryz.underlying3
theorem reads22 {H:Type} {enc:TypeId×Value->H} {w:World}:Go.AX.Reads enc Tryz.prog w 22 (fun x:List Int=>[D.l 1 D.i x]) (fun a:List Int=>(a.length<=maxLen/\a.length * 8<=reachBytes/\∀y0 ∈ a,CA y0)):=
 Go.AX.Mu (el:=D.i) (sz:=1) (by':=8) Tryz.underlying22 (by kernel_rfl) (by decide) (by kernel_rfl) reads3
theorem door_met (os:Os) (args:Array Value):laidMetH Tryz.prog Rows.restartReturnsRow.laid ((World.doorLaid Tryz.prog 600 os).forCall (fun _ _=>0) ⟨#[],args,[]⟩).memory:=
 laidMetH_of_parts3 (fuel:=8) (laidMet_of_run' 8 (by kernel_rfl) (by kernel_rfl)) (by kernel_rfl) (by kernel_rfl)
set_option maxRecDepth 100000 in
theorem lifted (os:Os) (started:os.Started) (H:Type) (enc:TypeId×Value->H) :
  ReturnsInHanded {} Tryz.checked os 3 .any (fun w args=>(Rows.restartReturnsSpec.pre enc Tryz.prog Tryz.f3 Rows.restartReturnsRow.domain false w args/\laidMetH Tryz.prog Rows.restartReturnsRow.laid w)/\sizedMet enc Tryz.prog Tryz.f3 (OpenSpec.ofChange Rows.restartReturnsSpec) false w args) (Rows.restartReturnsSpec.post enc Tryz.prog Tryz.f3 false true false false):=by
 refine returnsInHanded_of_change_and (C:=Tryz.checked) (X:=fun w _=>laidMetH Tryz.prog Rows.restartReturnsRow.laid w) (fun _ _ _ hh h=>h.of_heap hh) own started (by kernel_rfl) Tryz.func3
  (ChangeSpec.witness_shaped (enc:=enc) (C:=Tryz.checked) (os:=os) (X:=fun w _=>laidMetH Tryz.prog Rows.restartReturnsRow.laid w) false (World.doorLaid Tryz.prog 600 os) #[.slice none 0 0,.int .i64 0] 12 rfl (World.shaped_of_RefB (by kernel_rfl) (by kernel_rfl)) (by kernel_rfl) (by kernel_rfl) (by kernel_rfl) (door_met os _)) ?_
 intro W base args ds gs before hval0 hW _ hwt0 hlaid _
 refine Go.AX.Kn (X:=laidMetH Tryz.prog Rows.restartReturnsRow.laid) (wl:=Go.AX.Q33.Wl True) (C:=Tryz.checked) (b:=4) laidOut rfl ?_ rfl Tryz.underlying4 (by kernel_rfl) ?_ W hlaid base args ds gs before hval0 hW hwt0
 ·intro ds hd
  match ds,hd with
  | [_,_],_=>rfl
 intro W hX base args ds p hval0 hA0 hwt0
 have hval :∀(j:Nat) t v,Tryz.f3.params[j]?=some t->args[j]?=some v->Value.okWide Tryz.prog W .any base t v:=hval0
 have hA:DataW.TrodAll enc Tryz.prog W 0 (fun _=>true) true Tryz.f3.params.toList args.toList ds p:=hA0
 have hwt :∀(j:Nat) t d,Tryz.f3.params.toList[j]?=some t->ds[j]?=some d->Wt Tryz.prog t d:=hwt0
 rw[Tryz.params3] at hA hval hwt
 obtain⟨v0,vs0,d0,ds0,p0,q0,hargs,rfl,rfl,h0,k0⟩:=trodAll_cons hA
 obtain⟨v1,vs1,d1,ds1,p1,q1,rfl,rfl,rfl,h1,k1⟩:=trodAll_cons k0
 obtain⟨rfl,rfl,rfl⟩:=trodAll_nil k1
 obtain rfl:args=#[v0,v1]:=by cases args;simp_all
 clear hA0 hval0 hwt0
 obtain⟨a0,w0,r0⟩:=Go.AX.Nf Tryz.underlying22 rfl (reads22 (enc:=enc)) (hval 0 22 v0 rfl rfl) h0 (hwt 0 22 d0 rfl rfl)
 obtain⟨a1,w1,r1⟩:=Go.AX.Nf Tryz.underlying3 rfl (reads3 (enc:=enc)) (hval 1 3 v1 rfl rfl) h1 (hwt 1 3 d1 rfl rfl)
 exact⟨_,.cons r0 (.cons r1 .nil),Go.AX.Q33.Fu.ok (bU a0 a1 w0 w1),Go.AX.Q33.Tx hX⟩
theorem facts1:((Rows.restartReturnsRow.inPlace==Tryz.prog.inPlace 3)&&(Rows.restartReturnsRow.unfollowed==Tryz.prog.unfollowed 3)&&(Rows.restartReturnsRow.recurses==Tryz.prog.recurses 3)&&(Rows.restartReturnsRow.named==Tryz.prog.varsNamed 3))=true:=by kernel_rfl
theorem facts2:(Tryz.prog.stopsHeard&&Tryz.prog.mayEnter&&(Rows.restartReturnsRow.lifted==Tryz.prog.liftsFinal)&&(Tryz.prog.make==some Rows.restartReturnsRow.make))=true:=by kernel_rfl
theorem facts3:(laidOutB Tryz.prog&&mapsRowed Tryz.prog&&(Rows.restartReturnsRow.plainKeys==Tryz.prog.plainKeys))=true:=by kernel_rfl
theorem facts:joinedFacts Tryz.prog 3 Tryz.f3 Rows.restartReturnsSpec Rows.restartReturnsRow=true:=by
 have h1:=facts1;have h2:=facts2;have h3:=facts3
 simp only[X24] at h1 h2 h3
 unfold joinedFacts
 rw[h1.1.1.1,h1.1.1.2,h1.1.2,h1.2,h2.1.1.1,h2.1.1.2,h2.1.2,h2.2,h3.1.1,h3.1.2,h3.2]
 clear h1 h2 h3
 refine (?_:@Eq Bool _ true)
 kernel_rfl
theorem over:Rows.restartReturnsRow.holds Tryz.pinned (OpenSpec.ofChange Rows.restartReturnsSpec):=
 OpenClaim.holds_of_wide 3 Tryz.f3 rfl rfl rfl rfl rfl rfl rfl ⟨rfl,rfl,rfl,rfl,rfl⟩ rfl rfl rfl rfl rfl (by kernel_rfl) Tryz.func3 facts
  (of_decide_eq_true (by kernel_rfl)) (by unfold Func.isWrapper;first | (rw[if_pos (by decide +kernel)];kernel_rfl)|(rw[if_neg (by decide +kernel)];exact⟨rfl,rfl⟩))
  (fun os started H enc _=>lifted os started H enc)
theorem card_holds:Rows.RestartReturnsCardSaid:=
 Claim7.holds_tied_plain_at .later [] [.mapped, .funcs] true (true, "6c64bb26f73ff5080383af58d1610174bdcc4685aa5dcc12bf0b0e805d4b8733") false over (fun _ h => by cases h) (by kernel_rfl) (fun _ h => by cases h) restartReturns_row_tie rfl ⟨rfl, rfl⟩ card1 rfl
  (fun f fn hf hfn=>by
   obtain rfl : f = 3 := X22 ((show Tryz.prog.funcNamed "exchangepoint/exchangepointlaw33.RestartReturns" = some 3 by kernel_rfl).symm.trans hf) |>.symm
   obtain rfl:fn=Tryz.f3:=(X22 (Tryz.func3.symm.trans hfn)).symm
   exact⟨card2,fun j t ht=>by
    rw[Tryz.params3] at ht
    have hm:t ∈ [22,3]:=by simpa using Array.mem_of_getElem? ht
    have hall:([22,3].all fun u=>!Tryz.prog.wantsStandIn u)=true:=by kernel_rfl
    exact (show Tryz.prog.wantsStandIn t=false by simpa using List.all_eq_true.1 hall t hm)⟩)
  card3
theorem proved:Rows.RestartReturnsCardSaid:=card_holds
#print axioms proved
end Go.Proofs.YthbbpeeghmpcfaaGreatDoor.restartReturns
end
