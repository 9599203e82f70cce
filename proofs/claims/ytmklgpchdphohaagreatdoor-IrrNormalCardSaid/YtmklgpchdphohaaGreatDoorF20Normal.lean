/-
  Texts of one proof, packed: F20Normal.
-/
import Derived.Test.YtmklgpchdphohaaGreatDoorK2
import Derived.Test.YtmklgpchdphohaaGreatDoorK3
import Derived.Test.YtmklgpchdphohaaGreatDoorK4
import Derived.Below
import Derived.ChangeOld
import Derived.LaidMore
import Derived.Lay
import Derived.MakeChecks
import Derived.OpenShut
import Derived.ProofKit
import Derived.SevenTiedAt
import Derived.ShutString
import Derived.Test.YtmklgpchdphohaaGreatDoorCards
import Derived.Test.YtmklgpchdphohaaGreatDoorRows
import Derived.Test.YtmklgpchdphohaaGreatDoorTie
import Derived.WalkKit
set_option linter.all false
section
namespace Go.Proofs.YtmklgpchdphohaaGreatDoor.irrNormal
open Go.ChangeShapes Go.WideShapes Go.ChangeAt Go.RowKit Go.AX Go.AX.Q20
set_option linter.unusedVariables false
theorem own:ownKnob Tryz.prog.godebug=none:=by kernel_rfl
theorem laidOut:laidOutB Tryz.prog=true:=by kernel_rfl
theorem reads3 {H:Type} {enc:TypeId×Value→H} {w:World}:Go.AX.Reads enc Tryz.prog w 3 (fun x:Int=>[D.i x]) (fun a:Int=>I64 a):=
 Go.AX.reads_i64 Tryz.underlying3
theorem reads26 {H:Type} {enc:TypeId×Value→H} {w:World}:Go.AX.Reads enc Tryz.prog w 26 (fun x:List Int=>[D.l 1 D.i x]) (fun a:List Int=>(a.length ≤ maxLen∧a.length * 8 ≤ reachBytes∧∀y0 ∈ a,I64 y0)):=
 Go.AX.reads_slice (el:=D.i) (sz:=1) (by':=8) Tryz.underlying26 (by kernel_rfl) (by decide) (by kernel_rfl) reads3
set_option maxRecDepth 100000 in
theorem lifted (os:Os) (started:os.Started) (H:Type) (enc:TypeId×Value→H) :
  ReturnsInHanded {} Tryz.checked os 5 .any (fun w args=>(Rows.irrNormalSpec.pre enc Tryz.prog Tryz.f5 Rows.irrNormalRow.domain false w args∧laidMetH Tryz.prog Rows.irrNormalRow.laid w)∧sizedMet enc Tryz.prog Tryz.f5 (OpenSpec.ofChange Rows.irrNormalSpec) false w args) (Rows.irrNormalSpec.post enc Tryz.prog Tryz.f5 false true false false):=by
 refine returnsInHanded_of_change_and (C:=Tryz.checked) (X:=fun w _=>laidMetH Tryz.prog Rows.irrNormalRow.laid w) (fun _ _ _ hh h=>h.of_heap hh) own started (by kernel_rfl) Tryz.func5
  (ChangeSpec.witness_shaped (enc:=enc) (C:=Tryz.checked) (os:=os) (X:=fun w _=>laidMetH Tryz.prog Rows.irrNormalRow.laid w) false (World.laidAll Tryz.prog os Rows.irrNormalRow.laid) #[.slice none 0 0,.int .i64 0] 12 (World.laidAll_os _ _ _)
   (World.shaped_of_ZipB (by kernel_rfl) (by kernel_rfl)) (by kernel_rfl) (by kernel_rfl) (by kernel_rfl)
   (by rw [MakeChecks.laidMetH_plain _ _ _ (by kernel_rfl)];exact laidMet_laidAll _ (by kernel_rfl) (by kernel_rfl))) ?_
 intro W base args ds gs before hval0 hW _ hwt0 hlaid _
 refine Go.AX.frame_contract (C:=Tryz.checked) (b:=4) laidOut rfl ?_ rfl Tryz.underlying4 (by kernel_rfl) ?_ W base args ds gs before hval0 hW hwt0
 ·intro ds hd
  match ds,hd with
  | [_,_],_=>rfl
 intro W base args ds p hval0 hA0 hwt0
 have hval :∀(j:Nat) t v,Tryz.f5.params[j]?=some t→args[j]?=some v→Value.okWide Tryz.prog W .any base t v:=hval0
 have hA:DataW.TrodAll enc Tryz.prog W 0 (fun _=>true) true Tryz.f5.params.toList args.toList ds p:=hA0
 have hwt :∀(j:Nat) t d,Tryz.f5.params.toList[j]?=some t→ds[j]?=some d→Wt Tryz.prog t d:=hwt0
 rw [Tryz.params5] at hA hval hwt
 obtain ⟨v0,vs0,d0,ds0,p0,q0,hargs,rfl,rfl,h0,k0⟩:=trodAll_cons hA
 obtain ⟨v1,vs1,d1,ds1,p1,q1,rfl,rfl,rfl,h1,k1⟩:=trodAll_cons k0
 obtain ⟨rfl,rfl,rfl⟩:=trodAll_nil k1
 obtain rfl:args=#[v0,v1]:=by cases args;simp_all
 clear hA0 hval0 hwt0
 obtain ⟨a0,w0,r0⟩:=Go.AX.open_one Tryz.underlying26 rfl (reads26 (enc:=enc)) (hval 0 26 v0 rfl rfl) h0 (hwt 0 26 d0 rfl rfl)
 obtain ⟨a1,w1,r1⟩:=Go.AX.open_one Tryz.underlying3 rfl (reads3 (enc:=enc)) (hval 1 3 v1 rfl rfl) h1 (hwt 1 3 d1 rfl rfl)
 exact ⟨_,.cons r0 (.cons r1 .nil),Go.AX.Q20.law20_IrrNormal_ok (Go.AX.Q20.IrrNormal_true a0 a1 w0 w1)⟩
theorem over:Rows.irrNormalRow.holds Tryz.pinned (OpenSpec.ofChange Rows.irrNormalSpec):=
 OpenClaim.holds_of_wide 5 Tryz.f5 rfl rfl rfl rfl rfl rfl rfl ⟨rfl,rfl,rfl,rfl,rfl⟩ rfl rfl rfl rfl rfl (by kernel_rfl) Tryz.func5 (by kernel_rfl)
  (of_decide_eq_true (by kernel_rfl)) (by unfold Func.isWrapper;first | (rw [if_pos (by decide +kernel)];kernel_rfl) | (rw [if_neg (by decide +kernel)];exact ⟨rfl,rfl⟩))
  (fun os started H enc _=>lifted os started H enc)
theorem card_holds:Rows.IrrNormalCardSaid:=
 Claim7.holds_tied_plain_at .later [] [.data, .pinned] true (true, "8d8ce9588eb5678697da9d33c18d172fa62e2bbbc002ffa9c30e7236d331ba6d") false over (fun _ h => by cases h) (by kernel_rfl) (fun _ h => by cases h) irrNormal_row_tie rfl ⟨rfl, rfl⟩ (by kernel_rfl) rfl
  (fun f fn hf hfn=>by
   obtain rfl : f = 5 := Option.some.inj ((show Tryz.prog.funcNamed "exchangepoint/exchangepointlaw20.IrrNormal" = some 5 by kernel_rfl).symm.trans hf) |>.symm
   obtain rfl:fn=Tryz.f5:=(Option.some.inj (Tryz.func5.symm.trans hfn)).symm
   exact ⟨by kernel_rfl,fun j t ht=>by
    rw [Tryz.params5] at ht
    have hm:t ∈ [26,3]:=by simpa using Array.mem_of_getElem? ht
    have hall:([26,3].all fun u=>!Tryz.prog.wantsStandIn u)=true:=by kernel_rfl
    exact (show Tryz.prog.wantsStandIn t=false by simpa using List.all_eq_true.1 hall t hm)⟩)
  (by kernel_rfl)
theorem proved:Rows.IrrNormalCardSaid:=card_holds
#print axioms proved
end Go.Proofs.YtmklgpchdphohaaGreatDoor.irrNormal
end
