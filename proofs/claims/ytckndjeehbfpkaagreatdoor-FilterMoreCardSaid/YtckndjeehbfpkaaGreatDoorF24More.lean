/-
  Texts of one proof, packed.
-/
import Derived.Test.YtckndjeehbfpkaaGreatDoorK4
import Derived.Test.YtckndjeehbfpkaaGreatDoorK5
import Derived.Test.YtckndjeehbfpkaaGreatDoorK7
import Derived.Test.YtckndjeehbfpkaaGreatDoorK9
import Derived.Below
import Derived.ChangeOld
import Derived.LaidMore
import Derived.Lay
import Derived.MakeChecks
import Derived.OpenShut
import Derived.ProofKit
import Derived.SevenTiedAt
import Derived.ShutString
import Derived.Test.YtckndjeehbfpkaaGreatDoorCards
import Derived.Test.YtckndjeehbfpkaaGreatDoorRows
import Derived.Test.YtckndjeehbfpkaaGreatDoorTie
import Derived.WalkKit
set_option linter.all false
set_option maxRecDepth 100000
set_option maxHeartbeats 4000000
open Option.some renaming inj→X25
open Bool renaming and_eq_true→X27
section
namespace Go.Proofs.YtckndjeehbfpkaaGreatDoor.filterMore
open Go.ChangeShapes Go.WideShapes Go.ChangeAt Go.RowKit Go.AX Go.AX.Q24
set_option linter.unusedVariables false
theorem own:ownKnob Tryz.prog.godebug=none:=by kernel_rfl
theorem laidOut:laidOutB Tryz.prog=true:=by kernel_rfl
theorem reads3 {H:Type} {enc:TypeId×Value->H} {w:World}:Go.AX.Reads enc Tryz.prog w 3 (fun x:Int=>[D.i x]) (fun a:Int=>I64 a):=
 Go.AX.reads_i64 Tryz.underlying3
theorem reads22 {H:Type} {enc:TypeId×Value->H} {w:World}:Go.AX.Reads enc Tryz.prog w 22 (fun x:List Int=>[D.l 1 D.i x]) (fun a:List Int=>(a.length<=maxLen/\a.length * 8<=reachBytes/\∀y0 ∈ a,I64 y0)):=
 Go.AX.reads_slice (el:=D.i) (sz:=1) (by':=8) Tryz.underlying22 (by kernel_rfl) (by decide) (by kernel_rfl) reads3
noncomputable def pinW (os : Os) : World := (World.doorLaid Tryz.prog 600 os).layVars Tryz.prog [("unicode/utf8.first", Rows.laid_unicode_utf8_first)]
theorem door_met (os:Os) (args:Array Value):laidMetH Tryz.prog Rows.filterMoreRow.laid ((pinW os).forCall (fun _ _=>0) ⟨#[],args,[]⟩).memory:=by
 rw[MakeChecks.laidMetH_plain _ _ _ (by kernel_rfl)]
 have h : laidMet Tryz.prog Rows.filterMoreRow.laid (pinW os) := laidMet_layVars (w0 := World.doorLaid Tryz.prog 600 os) ["unicode/utf8.first"] ((List.range (World.doorLaid Tryz.prog 600 os).heap.size).filter fun x => x != 1)
  (by rw [show (Rows.filterMoreRow.laid.filter fun x => (["unicode/utf8.first"] : List String).contains x.1) = [("unicode/utf8.first", Rows.laid_unicode_utf8_first)] by kernel_rfl]; rfl)
  (by kernel_rfl) (by kernel_rfl) (LaidIn.of_run _ 8 (by kernel_rfl) (by kernel_rfl) (by kernel_rfl) (by kernel_rfl))
 exact h.of_heap (by simp[World.memory,World.forCall,Input.heap])
set_option maxRecDepth 100000 in
theorem lifted (os:Os) (started:os.Started) (H:Type) (enc:TypeId×Value->H) :
  ReturnsInHanded {} Tryz.checked os 6 .any (fun w args=>(Rows.filterMoreSpec.pre enc Tryz.prog Tryz.f6 Rows.filterMoreRow.domain false w args/\laidMetH Tryz.prog Rows.filterMoreRow.laid w)/\sizedMet enc Tryz.prog Tryz.f6 (OpenSpec.ofChange Rows.filterMoreSpec) false w args) (Rows.filterMoreSpec.post enc Tryz.prog Tryz.f6 false true false false):=by
 refine returnsInHanded_of_change_and (C:=Tryz.checked) (X:=fun w _=>laidMetH Tryz.prog Rows.filterMoreRow.laid w) (fun _ _ _ hh h=>h.of_heap hh) own started (by kernel_rfl) Tryz.func6
  (ChangeSpec.witness_shaped (enc:=enc) (C:=Tryz.checked) (os:=os) (X:=fun w _=>laidMetH Tryz.prog Rows.filterMoreRow.laid w) false (pinW os) #[.slice none 0 0,.int .i64 0] 12 (World.layVars_os _ _ _) (World.shaped_of_RefB (by kernel_rfl) (by kernel_rfl)) (by kernel_rfl) (by kernel_rfl) (by kernel_rfl) (door_met os _)) ?_
 intro W base args ds gs before hval0 hW _ hwt0 hlaid _
 refine Go.AX.frame_contractX (X:=laidMetH Tryz.prog Rows.filterMoreRow.laid) (wl:=Go.AX.Q24.Wl True) (C:=Tryz.checked) (b:=4) laidOut rfl ?_ rfl Tryz.underlying4 (by kernel_rfl) ?_ W hlaid base args ds gs before hval0 hW hwt0
 ·intro ds hd
  match ds,hd with
  | [_,_],_=>rfl
 intro W hX base args ds p hval0 hA0 hwt0
 have hval :∀(j:Nat) t v,Tryz.f6.params[j]?=some t->args[j]?=some v->Value.okWide Tryz.prog W .any base t v:=hval0
 have hA:DataW.TrodAll enc Tryz.prog W 0 (fun _=>true) true Tryz.f6.params.toList args.toList ds p:=hA0
 have hwt :∀(j:Nat) t d,Tryz.f6.params.toList[j]?=some t->ds[j]?=some d->Wt Tryz.prog t d:=hwt0
 rw[Tryz.params6] at hA hval hwt
 obtain⟨v0,vs0,d0,ds0,p0,q0,hargs,rfl,rfl,h0,k0⟩:=trodAll_cons hA
 obtain⟨v1,vs1,d1,ds1,p1,q1,rfl,rfl,rfl,h1,k1⟩:=trodAll_cons k0
 obtain⟨rfl,rfl,rfl⟩:=trodAll_nil k1
 obtain rfl:args=#[v0,v1]:=by cases args;simp_all
 clear hA0 hval0 hwt0
 obtain⟨a0,w0,r0⟩:=Go.AX.open_one Tryz.underlying22 rfl (reads22 (enc:=enc)) (hval 0 22 v0 rfl rfl) h0 (hwt 0 22 d0 rfl rfl)
 obtain⟨a1,w1,r1⟩:=Go.AX.open_one Tryz.underlying3 rfl (reads3 (enc:=enc)) (hval 1 3 v1 rfl rfl) h1 (hwt 1 3 d1 rfl rfl)
 exact⟨_,.cons r0 (.cons r1 .nil),Go.AX.Q24.law24_FilterMore_ok (dK a0 a1 w0 w1),Go.AX.Q24.glob_ok hX⟩
theorem facts1:((Rows.filterMoreRow.inPlace==Tryz.prog.inPlace 6)&&(Rows.filterMoreRow.unfollowed==Tryz.prog.unfollowed 6)&&(Rows.filterMoreRow.recurses==Tryz.prog.recurses 6)&&(Rows.filterMoreRow.named==Tryz.prog.varsNamed 6))=true:=by kernel_rfl
theorem facts2:(Tryz.prog.stopsHeard&&Tryz.prog.mayEnter&&(Rows.filterMoreRow.lifted==Tryz.prog.liftsFinal)&&(Tryz.prog.make==some Rows.filterMoreRow.make))=true:=by kernel_rfl
theorem facts3:(laidOutB Tryz.prog&&mapsRowed Tryz.prog&&(Rows.filterMoreRow.plainKeys==Tryz.prog.plainKeys))=true:=by kernel_rfl
theorem facts:joinedFacts Tryz.prog 6 Tryz.f6 Rows.filterMoreSpec Rows.filterMoreRow=true:=by
 have h1:=facts1;have h2:=facts2;have h3:=facts3
 simp only[X27] at h1 h2 h3
 unfold joinedFacts
 rw[h1.1.1.1,h1.1.1.2,h1.1.2,h1.2,h2.1.1.1,h2.1.1.2,h2.1.2,h2.2,h3.1.1,h3.1.2,h3.2]
 clear h1 h2 h3
 refine (?_:@Eq Bool _ true)
 kernel_rfl
theorem over:Rows.filterMoreRow.holds Tryz.pinned (OpenSpec.ofChange Rows.filterMoreSpec):=
 OpenClaim.holds_of_wide 6 Tryz.f6 rfl rfl rfl rfl rfl rfl rfl ⟨rfl,rfl,rfl,rfl,rfl⟩ rfl rfl rfl rfl rfl (by kernel_rfl) Tryz.func6 facts
  (of_decide_eq_true (by kernel_rfl)) (by unfold Func.isWrapper;first | (rw[if_pos (by decide +kernel)];kernel_rfl)|(rw[if_neg (by decide +kernel)];exact⟨rfl,rfl⟩))
  (fun os started H enc _=>lifted os started H enc)
theorem card1 : Tryz.prog.mainIs = some ((true, "bd37f3eb1d165f40e7c083baf7a0a4a28f9a0c5951331e09bf0ecf6536612cd9").1, (true, "bd37f3eb1d165f40e7c083baf7a0a4a28f9a0c5951331e09bf0ecf6536612cd9").2.toList) := by kernel_rfl
theorem card2:false=Tryz.prog.looks []:=by kernel_rfl
theorem card3:false=Rows.filterMoreRow.goesBy Tryz.prog:=by kernel_rfl
theorem card_holds:Rows.FilterMoreCardSaid:=
 Claim7.holds_tied_plain_at .later [] [.data, .mapped, .pinned] true (true, "bd37f3eb1d165f40e7c083baf7a0a4a28f9a0c5951331e09bf0ecf6536612cd9") false over (fun _ h => by cases h) (by kernel_rfl) (fun _ h => by cases h) filterMore_row_tie rfl ⟨rfl, rfl⟩ card1 rfl
  (fun f fn hf hfn=>by
   obtain rfl : f = 6 := X25 ((show Tryz.prog.funcNamed "exchangepoint/exchangepointlaw24.FilterMore" = some 6 by kernel_rfl).symm.trans hf) |>.symm
   obtain rfl:fn=Tryz.f6:=(X25 (Tryz.func6.symm.trans hfn)).symm
   exact⟨card2,fun j t ht=>by
    rw[Tryz.params6] at ht
    have hm:t ∈ [22,3]:=by simpa using Array.mem_of_getElem? ht
    have hall:([22,3].all fun u=>!Tryz.prog.wantsStandIn u)=true:=by kernel_rfl
    exact (show Tryz.prog.wantsStandIn t=false by simpa using List.all_eq_true.1 hall t hm)⟩)
  card3
theorem proved:Rows.FilterMoreCardSaid:=card_holds
#print axioms proved
end Go.Proofs.YtckndjeehbfpkaaGreatDoor.filterMore
end
