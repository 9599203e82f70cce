/-
  Texts of one proof, packed: F33Records.
-/
import Derived.Test.YtdljbnbckcecdaaGreatDoorK2
import Derived.Test.YtdljbnbckcecdaaGreatDoorK4
import Derived.Test.YtdljbnbckcecdaaGreatDoorK5
import Derived.Below
import Derived.ChangeOld
import Derived.LaidMore
import Derived.Lay
import Derived.MakeChecks
import Derived.OpenShut
import Derived.ProofKit
import Derived.SevenTiedAt
import Derived.ShutString
import Derived.Test.YtdljbnbckcecdaaGreatDoorCards
import Derived.Test.YtdljbnbckcecdaaGreatDoorRows
import Derived.Test.YtdljbnbckcecdaaGreatDoorTie
import Derived.WalkKit
set_option linter.all false
open List renaming length_map→X10,length_append→X11,length_cons→X12,length_nil→X13,mem_singleton→X14,getElem?_eq_getElem→X15,getElem?_eq_some_iff→X16,length_drop→X17,length_take→X18,mem_cons_of_mem→X19,length_replicate→X20,length_set→X21,length_singleton→X22,mem_append→X23
open Option.some renaming injEq→X24,inj→X25
open Prod.mk renaming injEq→X26
open Bool renaming and_eq_true→X27,eq_iff_iff→X28
open Nat renaming le_of_ble_eq_true→X29,eq_of_beq_eq_true→X30,mul_le_mul_right→X31,add_mul→X32
section
namespace Go.Proofs.YtdljbnbckcecdaaGreatDoor.restartRecords
open Go.ChangeShapes Go.WideShapes Go.ChangeAt Go.RowKit Go.AX Go.AX.Q33
set_option linter.unusedVariables false
theorem own:ownKnob Tryz.prog.godebug=none:=by kernel_rfl
theorem laidOut:laidOutB Tryz.prog=true:=by kernel_rfl
theorem reads3 {H:Type} {enc:TypeId×Value->H} {w:World}:Go.AX.Reads enc Tryz.prog w 3 (fun x:Int=>[D.i x]) (fun a:Int=>I64 a):=
 Go.AX.reads_i64 Tryz.underlying3
theorem reads5 {H:Type} {enc:TypeId×Value->H} {w:World}:Go.AX.Reads enc Tryz.prog w 5 (fun x:UInt8=>[D.u8 x]) (fun a:UInt8=>True):=
 Go.AX.reads_u8 Tryz.underlying5
theorem reads22 {H:Type} {enc:TypeId×Value->H} {w:World}:Go.AX.Reads enc Tryz.prog w 22 (fun x:List UInt8=>[D.l 1 D.u8 x]) (fun a:List UInt8=>(a.length<=maxLen/\a.length * 1<=reachBytes/\∀y0 ∈ a,True)):=
 Go.AX.reads_slice (el:=D.u8) (sz:=1) (by':=1) Tryz.underlying22 (by kernel_rfl) (by decide) (by kernel_rfl) reads5
theorem reads24 {H:Type} {enc:TypeId×Value->H} {w:World}:Go.AX.Reads enc Tryz.prog w 24 (fun x:Go.AX.Q33.JAK=>[D.i x.Type_,D.l 1 D.u8 x.Body]) (fun a:Go.AX.Q33.JAK=>Go.AX.Q33.JAK.wf a):=
 Go.AX.Reads.map' (Go.AX.reads_struct Tryz.underlying24 (by kernel_rfl) (Go.AX.readsF_cons (sz:=1) reads3 (Go.AX.readsF_cons (sz:=1) reads22 (Go.AX.readsF_nil)))) (fun x=>(⟨x.1,x.2.1⟩:Go.AX.Q33.JAK)) (fun _ _=>rfl) (fun _ h=>h)
theorem reads25 {H:Type} {enc:TypeId×Value->H} {w:World}:Go.AX.Reads enc Tryz.prog w 25 (fun x:List Int=>[D.l 1 D.i x]) (fun a:List Int=>(a.length<=maxLen/\a.length * 8<=reachBytes/\∀y0 ∈ a,I64 y0)):=
 Go.AX.reads_slice (el:=D.i) (sz:=1) (by':=8) Tryz.underlying25 (by kernel_rfl) (by decide) (by kernel_rfl) reads3
theorem door_met (os:Os) (args:Array Value):laidMetH Tryz.prog Rows.restartRecordsRow.laid ((World.doorLaid Tryz.prog 600 os).forCall (fun _ _=>0) ⟨#[],args,[]⟩).memory:=
 laidMetH_of_parts3 (fuel:=8) (laidMet_of_run' 8 (by kernel_rfl) (by kernel_rfl)) (by kernel_rfl) (by kernel_rfl)
set_option maxRecDepth 100000 in
theorem lifted (os:Os) (started:os.Started) (H:Type) (enc:TypeId×Value->H) :
  ReturnsInHanded {} Tryz.checked os 3 .any (fun w args=>(Rows.restartRecordsSpec.pre enc Tryz.prog Tryz.f3 Rows.restartRecordsRow.domain false w args/\laidMetH Tryz.prog Rows.restartRecordsRow.laid w)/\sizedMet enc Tryz.prog Tryz.f3 (OpenSpec.ofChange Rows.restartRecordsSpec) false w args) (Rows.restartRecordsSpec.post enc Tryz.prog Tryz.f3 false true false false):=by
 refine returnsInHanded_of_change_and (C:=Tryz.checked) (X:=fun w _=>laidMetH Tryz.prog Rows.restartRecordsRow.laid w) (fun _ _ _ hh h=>h.of_heap hh) own started (by kernel_rfl) Tryz.func3
  (ChangeSpec.witness_shaped (enc:=enc) (C:=Tryz.checked) (os:=os) (X:=fun w _=>laidMetH Tryz.prog Rows.restartRecordsRow.laid w) false (World.doorLaid Tryz.prog 600 os) #[.agg #[.int .i64 0,.slice none 0 0],.slice none 0 0,.int .i64 0,.int .i64 0,.int .i64 0] 12 rfl (World.shaped_of_RefB (by kernel_rfl) (by kernel_rfl)) (by kernel_rfl) (by kernel_rfl) (by kernel_rfl) (door_met os _)) ?_
 intro W base args ds gs before hval0 hW _ hwt0 hlaid _
 refine Go.AX.frame_contractX (X:=laidMetH Tryz.prog Rows.restartRecordsRow.laid) (wl:=Go.AX.Q33.Wl True) (C:=Tryz.checked) (b:=4) laidOut rfl ?_ rfl Tryz.underlying4 (by kernel_rfl) ?_ W hlaid base args ds gs before hval0 hW hwt0
 ·intro ds hd
  match ds,hd with
  | [_,_,_,_,_],_=>rfl
 intro W hX base args ds p hval0 hA0 hwt0
 have hval :∀(j:Nat) t v,Tryz.f3.params[j]?=some t->args[j]?=some v->Value.okWide Tryz.prog W .any base t v:=hval0
 have hA:DataW.TrodAll enc Tryz.prog W 0 (fun _=>true) true Tryz.f3.params.toList args.toList ds p:=hA0
 have hwt :∀(j:Nat) t d,Tryz.f3.params.toList[j]?=some t->ds[j]?=some d->Wt Tryz.prog t d:=hwt0
 rw[Tryz.params3] at hA hval hwt
 obtain⟨v0,vs0,d0,ds0,p0,q0,hargs,rfl,rfl,h0,k0⟩:=trodAll_cons hA
 obtain⟨v1,vs1,d1,ds1,p1,q1,rfl,rfl,rfl,h1,k1⟩:=trodAll_cons k0
 obtain⟨v2,vs2,d2,ds2,p2,q2,rfl,rfl,rfl,h2,k2⟩:=trodAll_cons k1
 obtain⟨v3,vs3,d3,ds3,p3,q3,rfl,rfl,rfl,h3,k3⟩:=trodAll_cons k2
 obtain⟨v4,vs4,d4,ds4,p4,q4,rfl,rfl,rfl,h4,k4⟩:=trodAll_cons k3
 obtain⟨rfl,rfl,rfl⟩:=trodAll_nil k4
 obtain rfl:args=#[v0,v1,v2,v3,v4]:=by cases args;simp_all
 clear hA0 hval0 hwt0
 obtain⟨a0,w0,r0⟩:=Go.AX.open_struct Tryz.underlying24 (reads24 (enc:=enc)) (hval 0 24 v0 rfl rfl) h0 (hwt 0 24 d0 rfl rfl)
 obtain⟨a1,w1,r1⟩:=Go.AX.open_one Tryz.underlying25 rfl (reads25 (enc:=enc)) (hval 1 25 v1 rfl rfl) h1 (hwt 1 25 d1 rfl rfl)
 obtain⟨a2,w2,r2⟩:=Go.AX.open_one Tryz.underlying3 rfl (reads3 (enc:=enc)) (hval 2 3 v2 rfl rfl) h2 (hwt 2 3 d2 rfl rfl)
 obtain⟨a3,w3,r3⟩:=Go.AX.open_one Tryz.underlying3 rfl (reads3 (enc:=enc)) (hval 3 3 v3 rfl rfl) h3 (hwt 3 3 d3 rfl rfl)
 obtain⟨a4,w4,r4⟩:=Go.AX.open_one Tryz.underlying3 rfl (reads3 (enc:=enc)) (hval 4 3 v4 rfl rfl) h4 (hwt 4 3 d4 rfl rfl)
 exact⟨_,.cons r0 (.cons r1 (.cons r2 (.cons r3 (.cons r4 .nil)))),Go.AX.Q33.law33_RestartRecords_ok (Oa a0 a1 a2 a3 a4 w0 w1 w2 w3 w4),Go.AX.Q33.glob_ok hX⟩
theorem over:Rows.restartRecordsRow.holds Tryz.pinned (OpenSpec.ofChange Rows.restartRecordsSpec):=
 OpenClaim.holds_of_wide 3 Tryz.f3 rfl rfl rfl rfl rfl rfl rfl ⟨rfl,rfl,rfl,rfl,rfl⟩ rfl rfl rfl rfl rfl (by kernel_rfl) Tryz.func3 (by kernel_rfl)
  (of_decide_eq_true (by kernel_rfl)) (by unfold Func.isWrapper;first | (rw[if_pos (by decide +kernel)];kernel_rfl)|(rw[if_neg (by decide +kernel)];exact⟨rfl,rfl⟩))
  (fun os started H enc _=>lifted os started H enc)
theorem card_holds:Rows.RestartRecordsCardSaid:=
 Claim7.holds_tied_plain_at .later [] [.mapped, .funcs] true (true, "7ba527fe62679be1b3b54af6ddbe7ec0b656edfcf6c65002a665bbb09a13e7b1") false over (fun _ h => by cases h) (by kernel_rfl) (fun _ h => by cases h) restartRecords_row_tie rfl ⟨rfl, rfl⟩ (by kernel_rfl) rfl
  (fun f fn hf hfn=>by
   obtain rfl : f = 3 := X25 ((show Tryz.prog.funcNamed "exchangepoint/exchangepointlaw33.RestartRecords" = some 3 by kernel_rfl).symm.trans hf) |>.symm
   obtain rfl:fn=Tryz.f3:=(X25 (Tryz.func3.symm.trans hfn)).symm
   exact⟨by kernel_rfl,fun j t ht=>by
    rw[Tryz.params3] at ht
    have hm:t ∈ [24,25,3,3,3]:=by simpa using Array.mem_of_getElem? ht
    have hall:([24,25,3,3,3].all fun u=>!Tryz.prog.wantsStandIn u)=true:=by kernel_rfl
    exact (show Tryz.prog.wantsStandIn t=false by simpa using List.all_eq_true.1 hall t hm)⟩)
  (by kernel_rfl)
theorem proved:Rows.RestartRecordsCardSaid:=card_holds
#print axioms proved
end Go.Proofs.YtdljbnbckcecdaaGreatDoor.restartRecords
end
