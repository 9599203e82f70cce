/-
  Texts of one proof, packed: F20Permitted.
-/
import Derived.Test.YtmklgpchdphohaaGreatDoorK2
import Derived.Test.YtmklgpchdphohaaGreatDoorK3
import Derived.Test.YtmklgpchdphohaaGreatDoorK4
import Derived.Below
import Derived.ChangeOld
import Derived.LaidMore
import Derived.Lay
import Derived.MakeChecks
import Derived.OpenShut
import Derived.ProofKit
import Derived.SevenTiedAt
import Derived.ShutString
import Derived.Test.YtmklgpchdphohaaGreatDoorCards
import Derived.Test.YtmklgpchdphohaaGreatDoorRows
import Derived.Test.YtmklgpchdphohaaGreatDoorTie
import Derived.WalkKit
set_option linter.all false
section
namespace Go.Proofs.YtmklgpchdphohaaGreatDoor.irrPermitted
open Go.ChangeShapes Go.WideShapes Go.ChangeAt Go.RowKit Go.AX Go.AX.Q20
set_option linter.unusedVariables false
theorem own:ownKnob Tryz.prog.godebug=none:=by kernel_rfl
theorem laidOut:laidOutB Tryz.prog=true:=by kernel_rfl
theorem reads9 {H:Type} {enc:TypeId×Value→H} {w:World}:Go.AX.Reads enc Tryz.prog w 9 (fun x:ByteArray=>[D.s x]) (fun a:ByteArray=>(a.size ≤ maxLen∧a.size ≤ reachBytes)):=
 Go.AX.reads_string Tryz.underlying9
theorem reads3 {H:Type} {enc:TypeId×Value→H} {w:World}:Go.AX.Reads enc Tryz.prog w 3 (fun x:Int=>[D.i x]) (fun a:Int=>I64 a):=
 Go.AX.reads_i64 Tryz.underlying3
theorem reads26 {H:Type} {enc:TypeId×Value→H} {w:World}:Go.AX.Reads enc Tryz.prog w 26 (fun x:List Int=>[D.l 1 D.i x]) (fun a:List Int=>(a.length ≤ maxLen∧a.length * 8 ≤ reachBytes∧∀y0 ∈ a,I64 y0)):=
 Go.AX.reads_slice (el:=D.i) (sz:=1) (by':=8) Tryz.underlying26 (by kernel_rfl) (by decide) (by kernel_rfl) reads3
theorem reads34 {H:Type} {enc:TypeId×Value→H} {w:World}:Go.AX.Reads enc Tryz.prog w 34 (fun x:List ByteArray=>[D.l 1 D.s x]) (fun a:List ByteArray=>(a.length ≤ maxLen∧a.length * 16 ≤ reachBytes∧∀y0 ∈ a,(y0.size ≤ maxLen∧y0.size ≤ reachBytes))):=
 Go.AX.reads_slice (el:=D.s) (sz:=1) (by':=16) Tryz.underlying34 (by kernel_rfl) (by decide) (by kernel_rfl) reads9
theorem reads43 {H:Type} {enc:TypeId×Value→H} {w:World}:Go.AX.Reads enc Tryz.prog w 43 (fun x:Go.AX.Q20.Set=>[D.s x.Name,D.l 1 D.i x.ASNs,D.l 1 D.s x.Sets]) (fun a:Go.AX.Q20.Set=>Go.AX.Q20.Set.wf a):=
 Go.AX.Reads.map' (Go.AX.reads_struct Tryz.underlying43 (by kernel_rfl) (Go.AX.readsF_cons (sz:=1) reads9 (Go.AX.readsF_cons (sz:=1) reads26 (Go.AX.readsF_cons (sz:=1) reads34 (Go.AX.readsF_nil))))) (fun x=>(⟨x.1,x.2.1,x.2.2.1⟩:Go.AX.Q20.Set)) (fun _ _=>rfl) (fun _ h=>h)
theorem reads22 {H:Type} {enc:TypeId×Value→H} {w:World}:Go.AX.Reads enc Tryz.prog w 22 (fun x:List Go.AX.Q20.Set=>[D.l 3 Go.AX.Q20.Set.toD x]) (fun a:List Go.AX.Q20.Set=>(a.length ≤ maxLen∧a.length * 64 ≤ reachBytes∧∀y0 ∈ a,Go.AX.Q20.Set.wf y0)):=
 Go.AX.reads_slice (el:=Go.AX.Q20.Set.toD) (sz:=3) (by':=64) Tryz.underlying22 (by kernel_rfl) (by decide) (by kernel_rfl) reads43
theorem reads4 {H:Type} {enc:TypeId×Value→H} {w:World}:Go.AX.Reads enc Tryz.prog w 4 (fun x:Bool=>[D.b x]) (fun a:Bool=>True):=
 Go.AX.reads_bool Tryz.underlying4
theorem reads47 {H:Type} {enc:TypeId×Value→H} {w:World}:Go.AX.Reads enc Tryz.prog w 47 (fun x:UInt64=>[D.u64 x]) (fun a:UInt64=>True):=
 Go.AX.reads_u64 Tryz.underlying47
theorem reads49 {H:Type} {enc:TypeId×Value→H} {w:World}:Go.AX.Reads enc Tryz.prog w 49 (fun x:Go.AX.Q20.Addr=>[D.b x.V6,D.u64 x.Hi,D.u64 x.Lo]) (fun a:Go.AX.Q20.Addr=>Go.AX.Q20.Addr.wf a):=
 Go.AX.Reads.map' (Go.AX.reads_struct Tryz.underlying49 (by kernel_rfl) (Go.AX.readsF_cons (sz:=1) reads4 (Go.AX.readsF_cons (sz:=1) reads47 (Go.AX.readsF_cons (sz:=1) reads47 (Go.AX.readsF_nil))))) (fun x=>(⟨x.1,x.2.1,x.2.2.1⟩:Go.AX.Q20.Addr)) (fun _ _=>rfl) (fun _ h=>h)
theorem reads51 {H:Type} {enc:TypeId×Value→H} {w:World}:Go.AX.Reads enc Tryz.prog w 51 (fun x:Go.AX.Q20.Prefix=>[D.b x.Addr.V6,D.u64 x.Addr.Hi,D.u64 x.Addr.Lo,D.i x.Len]) (fun a:Go.AX.Q20.Prefix=>Go.AX.Q20.Prefix.wf a):=
 Go.AX.Reads.map' (Go.AX.reads_struct Tryz.underlying51 (by kernel_rfl) (Go.AX.readsF_cons (sz:=3) reads49 (Go.AX.readsF_cons (sz:=1) reads3 (Go.AX.readsF_nil)))) (fun x=>(⟨x.1,x.2.1⟩:Go.AX.Q20.Prefix)) (fun _ _=>rfl) (fun _ h=>h)
theorem reads55 {H:Type} {enc:TypeId×Value→H} {w:World}:Go.AX.Reads enc Tryz.prog w 55 (fun x:Go.AX.Q20.Object=>[D.b x.Prefix.Addr.V6,D.u64 x.Prefix.Addr.Hi,D.u64 x.Prefix.Addr.Lo,D.i x.Prefix.Len,D.i x.Max,D.i x.ASN]) (fun a:Go.AX.Q20.Object=>Go.AX.Q20.Object.wf a):=
 Go.AX.Reads.map' (Go.AX.reads_struct Tryz.underlying55 (by kernel_rfl) (Go.AX.readsF_cons (sz:=4) reads51 (Go.AX.readsF_cons (sz:=1) reads3 (Go.AX.readsF_cons (sz:=1) reads3 (Go.AX.readsF_nil))))) (fun x=>(⟨x.1,x.2.1,x.2.2.1⟩:Go.AX.Q20.Object)) (fun _ _=>rfl) (fun _ h=>h)
theorem reads23 {H:Type} {enc:TypeId×Value→H} {w:World}:Go.AX.Reads enc Tryz.prog w 23 (fun x:List Go.AX.Q20.Object=>[D.l 6 Go.AX.Q20.Object.toD x]) (fun a:List Go.AX.Q20.Object=>(a.length ≤ maxLen∧a.length * 48 ≤ reachBytes∧∀y0 ∈ a,Go.AX.Q20.Object.wf y0)):=
 Go.AX.reads_slice (el:=Go.AX.Q20.Object.toD) (sz:=6) (by':=48) Tryz.underlying23 (by kernel_rfl) (by decide) (by kernel_rfl) reads55
theorem reads25 {H:Type} {enc:TypeId×Value→H} {w:World}:Go.AX.Reads enc Tryz.prog w 25 (fun x:Go.AX.Q20.Registry=>[D.l 3 Go.AX.Q20.Set.toD x.Sets,D.l 6 Go.AX.Q20.Object.toD x.Objects]) (fun a:Go.AX.Q20.Registry=>Go.AX.Q20.Registry.wf a):=
 Go.AX.Reads.map' (Go.AX.reads_struct Tryz.underlying25 (by kernel_rfl) (Go.AX.readsF_cons (sz:=1) reads22 (Go.AX.readsF_cons (sz:=1) reads23 (Go.AX.readsF_nil)))) (fun x=>(⟨x.1,x.2.1⟩:Go.AX.Q20.Registry)) (fun _ _=>rfl) (fun _ h=>h)
set_option maxRecDepth 100000 in
theorem lifted (os:Os) (started:os.Started) (H:Type) (enc:TypeId×Value→H) :
  ReturnsInHanded {} Tryz.checked os 8 .any (fun w args=>(Rows.irrPermittedSpec.pre enc Tryz.prog Tryz.f8 Rows.irrPermittedRow.domain false w args∧laidMetH Tryz.prog Rows.irrPermittedRow.laid w)∧sizedMet enc Tryz.prog Tryz.f8 (OpenSpec.ofChange Rows.irrPermittedSpec) false w args) (Rows.irrPermittedSpec.post enc Tryz.prog Tryz.f8 false true false false):=by
 refine returnsInHanded_of_change_and (C:=Tryz.checked) (X:=fun w _=>laidMetH Tryz.prog Rows.irrPermittedRow.laid w) (fun _ _ _ hh h=>h.of_heap hh) own started (by kernel_rfl) Tryz.func8
  (ChangeSpec.witness_shaped (enc:=enc) (C:=Tryz.checked) (os:=os) (X:=fun w _=>laidMetH Tryz.prog Rows.irrPermittedRow.laid w) false (World.laidAll Tryz.prog os Rows.irrPermittedRow.laid) #[.agg #[.slice none 0 0,.slice none 0 0],.slice none 0 0,.int .i64 0,.int .i64 0,.int .i64 0,.int .i64 0] 12 (World.laidAll_os _ _ _)
   (World.shaped_of_ZipB (by kernel_rfl) (by kernel_rfl)) (by kernel_rfl) (by kernel_rfl) (by kernel_rfl)
   (by rw [MakeChecks.laidMetH_plain _ _ _ (by kernel_rfl)];exact laidMet_laidAll _ (by kernel_rfl) (by kernel_rfl))) ?_
 intro W base args ds gs before hval0 hW _ hwt0 hlaid _
 refine Go.AX.frame_contract (C:=Tryz.checked) (b:=4) laidOut rfl ?_ rfl Tryz.underlying4 (by kernel_rfl) ?_ W base args ds gs before hval0 hW hwt0
 ·intro ds hd
  match ds,hd with
  | [_,_,_,_,_,_],_=>rfl
 intro W base args ds p hval0 hA0 hwt0
 have hval :∀(j:Nat) t v,Tryz.f8.params[j]?=some t→args[j]?=some v→Value.okWide Tryz.prog W .any base t v:=hval0
 have hA:DataW.TrodAll enc Tryz.prog W 0 (fun _=>true) true Tryz.f8.params.toList args.toList ds p:=hA0
 have hwt :∀(j:Nat) t d,Tryz.f8.params.toList[j]?=some t→ds[j]?=some d→Wt Tryz.prog t d:=hwt0
 rw [Tryz.params8] at hA hval hwt
 obtain ⟨v0,vs0,d0,ds0,p0,q0,hargs,rfl,rfl,h0,k0⟩:=trodAll_cons hA
 obtain ⟨v1,vs1,d1,ds1,p1,q1,rfl,rfl,rfl,h1,k1⟩:=trodAll_cons k0
 obtain ⟨v2,vs2,d2,ds2,p2,q2,rfl,rfl,rfl,h2,k2⟩:=trodAll_cons k1
 obtain ⟨v3,vs3,d3,ds3,p3,q3,rfl,rfl,rfl,h3,k3⟩:=trodAll_cons k2
 obtain ⟨v4,vs4,d4,ds4,p4,q4,rfl,rfl,rfl,h4,k4⟩:=trodAll_cons k3
 obtain ⟨v5,vs5,d5,ds5,p5,q5,rfl,rfl,rfl,h5,k5⟩:=trodAll_cons k4
 obtain ⟨rfl,rfl,rfl⟩:=trodAll_nil k5
 obtain rfl:args=#[v0,v1,v2,v3,v4,v5]:=by cases args;simp_all
 clear hA0 hval0 hwt0
 obtain ⟨a0,w0,r0⟩:=Go.AX.open_struct Tryz.underlying25 (reads25 (enc:=enc)) (hval 0 25 v0 rfl rfl) h0 (hwt 0 25 d0 rfl rfl)
 obtain ⟨a1,w1,r1⟩:=Go.AX.open_one Tryz.underlying26 rfl (reads26 (enc:=enc)) (hval 1 26 v1 rfl rfl) h1 (hwt 1 26 d1 rfl rfl)
 obtain ⟨a2,w2,r2⟩:=Go.AX.open_one Tryz.underlying3 rfl (reads3 (enc:=enc)) (hval 2 3 v2 rfl rfl) h2 (hwt 2 3 d2 rfl rfl)
 obtain ⟨a3,w3,r3⟩:=Go.AX.open_one Tryz.underlying3 rfl (reads3 (enc:=enc)) (hval 3 3 v3 rfl rfl) h3 (hwt 3 3 d3 rfl rfl)
 obtain ⟨a4,w4,r4⟩:=Go.AX.open_one Tryz.underlying3 rfl (reads3 (enc:=enc)) (hval 4 3 v4 rfl rfl) h4 (hwt 4 3 d4 rfl rfl)
 obtain ⟨a5,w5,r5⟩:=Go.AX.open_one Tryz.underlying3 rfl (reads3 (enc:=enc)) (hval 5 3 v5 rfl rfl) h5 (hwt 5 3 d5 rfl rfl)
 exact ⟨_,.cons r0 (.cons r1 (.cons r2 (.cons r3 (.cons r4 (.cons r5 .nil))))),Go.AX.Q20.law20_IrrPermitted_ok (Go.AX.Q20.IrrPermitted_true a0 a1 a2 a3 a4 a5 w0 w1 w2 w3 w4 w5)⟩
theorem over:Rows.irrPermittedRow.holds Tryz.pinned (OpenSpec.ofChange Rows.irrPermittedSpec):=
 OpenClaim.holds_of_wide 8 Tryz.f8 rfl rfl rfl rfl rfl rfl rfl ⟨rfl,rfl,rfl,rfl,rfl⟩ rfl rfl rfl rfl rfl (by kernel_rfl) Tryz.func8 (by kernel_rfl)
  (of_decide_eq_true (by kernel_rfl)) (by unfold Func.isWrapper;first | (rw [if_pos (by decide +kernel)];kernel_rfl) | (rw [if_neg (by decide +kernel)];exact ⟨rfl,rfl⟩))
  (fun os started H enc _=>lifted os started H enc)
theorem card_holds:Rows.IrrPermittedCardSaid:=
 Claim7.holds_tied_plain_at .later [] [.data, .pinned] true (true, "8d8ce9588eb5678697da9d33c18d172fa62e2bbbc002ffa9c30e7236d331ba6d") false over (fun _ h => by cases h) (by kernel_rfl) (fun _ h => by cases h) irrPermitted_row_tie rfl ⟨rfl, rfl⟩ (by kernel_rfl) rfl
  (fun f fn hf hfn=>by
   obtain rfl : f = 8 := Option.some.inj ((show Tryz.prog.funcNamed "exchangepoint/exchangepointlaw20.IrrPermitted" = some 8 by kernel_rfl).symm.trans hf) |>.symm
   obtain rfl:fn=Tryz.f8:=(Option.some.inj (Tryz.func8.symm.trans hfn)).symm
   exact ⟨by kernel_rfl,fun j t ht=>by
    rw [Tryz.params8] at ht
    have hm:t ∈ [25,26,3,3,3,3]:=by simpa using Array.mem_of_getElem? ht
    have hall:([25,26,3,3,3,3].all fun u=>!Tryz.prog.wantsStandIn u)=true:=by kernel_rfl
    exact (show Tryz.prog.wantsStandIn t=false by simpa using List.all_eq_true.1 hall t hm)⟩)
  (by kernel_rfl)
theorem proved:Rows.IrrPermittedCardSaid:=card_holds
#print axioms proved
end Go.Proofs.YtmklgpchdphohaaGreatDoor.irrPermitted
end
