/-
  Texts of one proof, packed.
-/
import Derived.Test.YtckndjeehbfpkaaGreatDoorK4
import Derived.Test.YtckndjeehbfpkaaGreatDoorK5
import Derived.Test.YtckndjeehbfpkaaGreatDoorK8
import Derived.Test.YtckndjeehbfpkaaGreatDoorK9
import Derived.Below
import Derived.ChangeOld
import Derived.Deep.DeepHandedRow
import Derived.Deep.DeepWitnessRowRef
import Derived.LaidMore
import Derived.Lay
import Derived.MakeChecks
import Derived.OpenShut
import Derived.ProofKit
import Derived.SevenTiedAt
import Derived.ShutString
import Derived.Test.YtckndjeehbfpkaaGreatDoorCards
import Derived.Test.YtckndjeehbfpkaaGreatDoorRows
import Derived.Test.YtckndjeehbfpkaaGreatDoorTie
import Derived.WalkKit
set_option linter.all false
set_option maxRecDepth 100000
set_option maxHeartbeats 4000000
open List renaming length_cons→X12
open Option.some renaming inj→X25
open Bool renaming and_eq_true→X27
section
namespace Go.Proofs.YtckndjeehbfpkaaGreatDoor.filterFirst
open Go.ChangeShapes Go.WideShapes Go.ChangeAt Go.RowKit Go.AX Go.AX.Q24
set_option linter.unusedVariables false
theorem own:ownKnob Tryz.prog.godebug=none:=by kernel_rfl
theorem laidOut:laidOutB Tryz.prog=true:=by kernel_rfl
theorem one_le {H:Type} (d:DataW H):1<=Rows.uptoBulk d:=by
 cases d with
 | lit l=>cases l<;>simp[Rows.uptoBulk]
 | nil=>simp[Rows.uptoBulk]
 | ptr d=>simp[Rows.uptoBulk]
 | slice elems spare=>simp[Rows.uptoBulk]
 | agg parts=>simp[Rows.uptoBulk]
 | iface t d=>simp[Rows.uptoBulk]
 | map entries=>simp[Rows.uptoBulk]
 | held h=>simp[Rows.uptoBulk]
theorem part_le {H:Type} {d:DataW H} {l:List (DataW H)} (h:d ∈ l):Rows.uptoBulk d<=Rows.uptoBulkAll l:=by
 induction l with
 | nil=>cases h
 | cons x r ih=>
  simp only[Rows.uptoBulkAll]
  cases List.mem_cons.1 h with
  | inl e=>subst e;omega
  | inr e=>have:=ih e;omega
theorem length_le {H:Type} (l:List (DataW H)):l.length<=Rows.uptoBulkAll l:=by
 induction l with
 | nil=>simp[Rows.uptoBulkAll]
 | cons x r ih=>have:=one_le x;simp only[Rows.uptoBulkAll,X12];omega
def lim (H:Type) (P:Program):Go.AX.Lim H P where
 W _ d:=Rows.uptoBulk d<=1048576
 S _ n:=n<=1048576
 B:=1048576
 slice {t e el sp} _ h:=by
  simp only[Rows.uptoBulk] at h
  have:=length_le el
  exact⟨by omega,fun d hd=>by have:=part_le hd;omega⟩
 string {t b} h:=by
  simp only[Rows.uptoBulk] at h
  omega
 agg {t F ds} _ h i f d _ hd:=by
  simp only[Rows.uptoBulk] at h
  have:=part_le (List.mem_of_getElem? hd)
  omega
theorem bulk_each {H:Type} {ts:List TypeId} {ds gs:List (DataW H)} (h:Rows.uptoSmall H (ds++gs)=true) (j:Nat) (t:TypeId) (d:DataW H) (_:ts[j]?=some t) (hd:ds[j]?=some d):(lim H Tryz.prog).W t d:=by
 have h':Rows.uptoBulkAll (ds++gs)<=1048576:=of_decide_eq_true h
 have:=part_le (List.mem_append_left gs (List.mem_of_getElem? hd))
 exact Nat.le_trans this h'
theorem reads4 {H:Type} {enc:TypeId×Value->H} {w:World}:Go.AX.ReadsL (lim H Tryz.prog) enc w 4 (fun x:Bool=>[D.b x]) (fun a:Bool=>True):=
 Go.AX.reads_bool Tryz.underlying4
theorem reads39 {H:Type} {enc:TypeId×Value->H} {w:World}:Go.AX.ReadsL (lim H Tryz.prog) enc w 39 (fun x:UInt64=>[D.u64 x]) (fun a:UInt64=>True):=
 Go.AX.reads_u64 Tryz.underlying39
theorem reads41 {H:Type} {enc:TypeId×Value->H} {w:World}:Go.AX.ReadsL (lim H Tryz.prog) enc w 41 (fun x:Go.AX.Q24.Addr=>[D.b x.V6,D.u64 x.Hi,D.u64 x.Lo]) (fun a:Go.AX.Q24.Addr=>Go.AX.Q24.Addr.wfU a):=
 Go.AX.ReadsL.map' (Go.AX.reads_struct Tryz.underlying41 (by kernel_rfl) (Go.AX.readsF_cons (sz:=1) reads4 (Go.AX.readsF_cons (sz:=1) reads39 (Go.AX.readsF_cons (sz:=1) reads39 (Go.AX.readsF_nil))))) (fun x=>(⟨x.1,x.2.1,x.2.2.1⟩:Go.AX.Q24.Addr)) (fun _ _=>rfl) (fun _ h=>h)
theorem reads3 {H:Type} {enc:TypeId×Value->H} {w:World}:Go.AX.ReadsL (lim H Tryz.prog) enc w 3 (fun x:Int=>[D.i x]) (fun a:Int=>I64 a):=
 Go.AX.reads_i64 Tryz.underlying3
theorem reads43 {H:Type} {enc:TypeId×Value->H} {w:World}:Go.AX.ReadsL (lim H Tryz.prog) enc w 43 (fun x:Go.AX.Q24.JAA=>[D.b x.Addr.V6,D.u64 x.Addr.Hi,D.u64 x.Addr.Lo,D.i x.Len]) (fun a:Go.AX.Q24.JAA=>Go.AX.Q24.JAA.wfU a):=
 Go.AX.ReadsL.map' (Go.AX.reads_struct Tryz.underlying43 (by kernel_rfl) (Go.AX.readsF_cons (sz:=3) reads41 (Go.AX.readsF_cons (sz:=1) reads3 (Go.AX.readsF_nil)))) (fun x=>(⟨x.1,x.2.1⟩:Go.AX.Q24.JAA)) (fun _ _=>rfl) (fun _ h=>h)
theorem reads22 {H:Type} {enc:TypeId×Value->H} {w:World}:Go.AX.ReadsL (lim H Tryz.prog) enc w 22 (fun x:List Int=>[D.l 1 D.i x]) (fun a:List Int=>(a.length<=maxLen/\a.length<=1048576/\∀y0 ∈ a,I64 y0)):=
 Go.AX.readsL_slice (L:=lim H Tryz.prog) (sok:=fun n=>n<=1048576) (el:=D.i) (sz:=1) Tryz.underlying22 (by kernel_rfl) (by decide) (by decide) (fun _ h=>h) reads3
theorem reads89 {H:Type} {enc:TypeId×Value->H} {w:World}:Go.AX.ReadsL (lim H Tryz.prog) enc w 89 (fun x:Go.AX.Q24.JAE=>[D.b x.Set,D.l 1 D.i x.ASNs]) (fun a:Go.AX.Q24.JAE=>Go.AX.Q24.JAE.wfU a):=
 Go.AX.ReadsL.map' (Go.AX.reads_struct Tryz.underlying89 (by kernel_rfl) (Go.AX.readsF_cons (sz:=1) reads4 (Go.AX.readsF_cons (sz:=1) reads22 (Go.AX.readsF_nil)))) (fun x=>(⟨x.1,x.2.1⟩:Go.AX.Q24.JAE)) (fun _ _=>rfl) (fun _ h=>h)
theorem reads44 {H:Type} {enc:TypeId×Value->H} {w:World}:Go.AX.ReadsL (lim H Tryz.prog) enc w 44 (fun x:List Go.AX.Q24.JAE=>[D.l 2 Go.AX.Q24.JAE.toD x]) (fun a:List Go.AX.Q24.JAE=>(a.length<=maxLen/\a.length<=1048576/\∀y0 ∈ a,Go.AX.Q24.JAE.wfU y0)):=
 Go.AX.readsL_slice (L:=lim H Tryz.prog) (sok:=fun n=>n<=1048576) (el:=Go.AX.Q24.JAE.toD) (sz:=2) Tryz.underlying44 (by kernel_rfl) (by decide) (by decide) (fun _ h=>h) reads89
theorem reads94 {H:Type} {enc:TypeId×Value->H} {w:World}:Go.AX.ReadsL (lim H Tryz.prog) enc w 94 (fun x:Go.AX.Q24.JAC=>[D.i x.A,D.i x.B]) (fun a:Go.AX.Q24.JAC=>Go.AX.Q24.JAC.wfU a):=
 Go.AX.ReadsL.map' (Go.AX.reads_struct Tryz.underlying94 (by kernel_rfl) (Go.AX.readsF_cons (sz:=1) reads3 (Go.AX.readsF_cons (sz:=1) reads3 (Go.AX.readsF_nil)))) (fun x=>(⟨x.1,x.2.1⟩:Go.AX.Q24.JAC)) (fun _ _=>rfl) (fun _ h=>h)
theorem reads45 {H:Type} {enc:TypeId×Value->H} {w:World}:Go.AX.ReadsL (lim H Tryz.prog) enc w 45 (fun x:List Go.AX.Q24.JAC=>[D.l 2 Go.AX.Q24.JAC.toD x]) (fun a:List Go.AX.Q24.JAC=>(a.length<=maxLen/\a.length<=1048576/\∀y0 ∈ a,Go.AX.Q24.JAC.wfU y0)):=
 Go.AX.readsL_slice (L:=lim H Tryz.prog) (sok:=fun n=>n<=1048576) (el:=Go.AX.Q24.JAC.toD) (sz:=2) Tryz.underlying45 (by kernel_rfl) (by decide) (by decide) (fun _ h=>h) reads94
theorem reads154 {H:Type} {enc:TypeId×Value->H} {w:World}:Go.AX.ReadsL (lim H Tryz.prog) enc w 154 (fun x:Go.AX.Q24.JAH=>[D.i x.A,D.i x.B,D.i x.C]) (fun a:Go.AX.Q24.JAH=>Go.AX.Q24.JAH.wfU a):=
 Go.AX.ReadsL.map' (Go.AX.reads_struct Tryz.underlying154 (by kernel_rfl) (Go.AX.readsF_cons (sz:=1) reads3 (Go.AX.readsF_cons (sz:=1) reads3 (Go.AX.readsF_cons (sz:=1) reads3 (Go.AX.readsF_nil))))) (fun x=>(⟨x.1,x.2.1,x.2.2.1⟩:Go.AX.Q24.JAH)) (fun _ _=>rfl) (fun _ h=>h)
theorem reads46 {H:Type} {enc:TypeId×Value->H} {w:World}:Go.AX.ReadsL (lim H Tryz.prog) enc w 46 (fun x:List Go.AX.Q24.JAH=>[D.l 3 Go.AX.Q24.JAH.toD x]) (fun a:List Go.AX.Q24.JAH=>(a.length<=maxLen/\a.length<=1048576/\∀y0 ∈ a,Go.AX.Q24.JAH.wfU y0)):=
 Go.AX.readsL_slice (L:=lim H Tryz.prog) (sok:=fun n=>n<=1048576) (el:=Go.AX.Q24.JAH.toD) (sz:=3) Tryz.underlying46 (by kernel_rfl) (by decide) (by decide) (fun _ h=>h) reads154
theorem reads5 {H:Type} {enc:TypeId×Value->H} {w:World}:Go.AX.ReadsL (lim H Tryz.prog) enc w 5 (fun x:UInt8=>[D.u8 x]) (fun a:UInt8=>True):=
 Go.AX.reads_u8 Tryz.underlying5
theorem reads97 {H:Type} {enc:TypeId×Value->H} {w:World}:Go.AX.ReadsL (lim H Tryz.prog) enc w 97 (fun x:List UInt8=>[D.l 1 D.u8 x]) (fun a:List UInt8=>(a.length<=maxLen/\a.length<=1048576/\∀y0 ∈ a,True)):=
 Go.AX.readsL_slice (L:=lim H Tryz.prog) (sok:=fun n=>n<=1048576) (el:=D.u8) (sz:=1) Tryz.underlying97 (by kernel_rfl) (by decide) (by decide) (fun _ h=>h) reads5
theorem reads99 {H:Type} {enc:TypeId×Value->H} {w:World}:Go.AX.ReadsL (lim H Tryz.prog) enc w 99 (fun x:Go.AX.Q24.JAJ=>[D.i x.Flags,D.i x.Type_,D.l 1 D.u8 x.Data]) (fun a:Go.AX.Q24.JAJ=>Go.AX.Q24.JAJ.wfU a):=
 Go.AX.ReadsL.map' (Go.AX.reads_struct Tryz.underlying99 (by kernel_rfl) (Go.AX.readsF_cons (sz:=1) reads3 (Go.AX.readsF_cons (sz:=1) reads3 (Go.AX.readsF_cons (sz:=1) reads97 (Go.AX.readsF_nil))))) (fun x=>(⟨x.1,x.2.1,x.2.2.1⟩:Go.AX.Q24.JAJ)) (fun _ _=>rfl) (fun _ h=>h)
theorem reads47 {H:Type} {enc:TypeId×Value->H} {w:World}:Go.AX.ReadsL (lim H Tryz.prog) enc w 47 (fun x:List Go.AX.Q24.JAJ=>[D.l 3 Go.AX.Q24.JAJ.toD x]) (fun a:List Go.AX.Q24.JAJ=>(a.length<=maxLen/\a.length<=1048576/\∀y0 ∈ a,Go.AX.Q24.JAJ.wfU y0)):=
 Go.AX.readsL_slice (L:=lim H Tryz.prog) (sok:=fun n=>n<=1048576) (el:=Go.AX.Q24.JAJ.toD) (sz:=3) Tryz.underlying47 (by kernel_rfl) (by decide) (by decide) (fun _ h=>h) reads99
theorem reads49 {H:Type} {enc:TypeId×Value->H} {w:World}:Go.AX.ReadsL (lim H Tryz.prog) enc w 49 (fun x:Go.AX.Q24.JAG=>[D.i x.Origin,D.l 2 Go.AX.Q24.JAE.toD x.Path,D.b x.Next.V6,D.u64 x.Next.Hi,D.u64 x.Next.Lo,D.i x.MED,D.i x.Pref,D.i x.OTC,D.l 2 Go.AX.Q24.JAC.toD x.Communities,D.l 3 Go.AX.Q24.JAH.toD x.JAH,D.l 3 Go.AX.Q24.JAJ.toD x.Other]) (fun a:Go.AX.Q24.JAG=>Go.AX.Q24.JAG.wfU a):=
 Go.AX.ReadsL.map' (Go.AX.reads_struct Tryz.underlying49 (by kernel_rfl) (Go.AX.readsF_cons (sz:=1) reads3 (Go.AX.readsF_cons (sz:=1) reads44 (Go.AX.readsF_cons (sz:=3) reads41 (Go.AX.readsF_cons (sz:=1) reads3 (Go.AX.readsF_cons (sz:=1) reads3 (Go.AX.readsF_cons (sz:=1) reads3 (Go.AX.readsF_cons (sz:=1) reads45 (Go.AX.readsF_cons (sz:=1) reads46 (Go.AX.readsF_cons (sz:=1) reads47 (Go.AX.readsF_nil))))))))))) (fun x=>(⟨x.1,x.2.1,x.2.2.1,x.2.2.2.1,x.2.2.2.2.1,x.2.2.2.2.2.1,x.2.2.2.2.2.2.1,x.2.2.2.2.2.2.2.1,x.2.2.2.2.2.2.2.2.1⟩:Go.AX.Q24.JAG)) (fun _ _=>rfl) (fun _ h=>h)
theorem reads51 {H:Type} {enc:TypeId×Value->H} {w:World}:Go.AX.ReadsL (lim H Tryz.prog) enc w 51 (fun x:Go.AX.Q24.JAK=>[D.b x.JAA.Addr.V6,D.u64 x.JAA.Addr.Hi,D.u64 x.JAA.Addr.Lo,D.i x.JAA.Len,D.i x.From,D.i x.JAG.Origin,D.l 2 Go.AX.Q24.JAE.toD x.JAG.Path,D.b x.JAG.Next.V6,D.u64 x.JAG.Next.Hi,D.u64 x.JAG.Next.Lo,D.i x.JAG.MED,D.i x.JAG.Pref,D.i x.JAG.OTC,D.l 2 Go.AX.Q24.JAC.toD x.JAG.Communities,D.l 3 Go.AX.Q24.JAH.toD x.JAG.JAH,D.l 3 Go.AX.Q24.JAJ.toD x.JAG.Other]) (fun a:Go.AX.Q24.JAK=>Go.AX.Q24.JAK.wfU a):=
 Go.AX.ReadsL.map' (Go.AX.reads_struct Tryz.underlying51 (by kernel_rfl) (Go.AX.readsF_cons (sz:=4) reads43 (Go.AX.readsF_cons (sz:=1) reads3 (Go.AX.readsF_cons (sz:=11) reads49 (Go.AX.readsF_nil))))) (fun x=>(⟨x.1,x.2.1,x.2.2.1⟩:Go.AX.Q24.JAK)) (fun _ _=>rfl) (fun _ h=>h)
noncomputable def pinW (os : Os) : World := (World.doorLaid Tryz.prog 600 os).layVars Tryz.prog [("unicode/utf8.first", Rows.laid_unicode_utf8_first)]
theorem door_met (os:Os) (args:Array Value):laidMetH Tryz.prog Rows.filterFirstUptoRow.laid ((pinW os).forCall (fun _ _=>0) ⟨#[],args,[]⟩).memory:=by
 rw[MakeChecks.laidMetH_plain _ _ _ (by kernel_rfl)]
 have h : laidMet Tryz.prog Rows.filterFirstUptoRow.laid (pinW os) := laidMet_layVars (w0 := World.doorLaid Tryz.prog 600 os) ["unicode/utf8.first"] ((List.range (World.doorLaid Tryz.prog 600 os).heap.size).filter fun x => x != 1)
  (by rw [show (Rows.filterFirstUptoRow.laid.filter fun x => (["unicode/utf8.first"] : List String).contains x.1) = [("unicode/utf8.first", Rows.laid_unicode_utf8_first)] by kernel_rfl]; rfl)
  (by kernel_rfl) (by kernel_rfl) (LaidIn.of_run _ 8 (by kernel_rfl) (by kernel_rfl) (by kernel_rfl) (by kernel_rfl))
 exact h.of_heap (by simp[World.memory,World.forCall,Input.heap])
theorem whole (os:Os) {H:Type} (enc:TypeId×Value->H) :∃places,DataW.whole enc Tryz.prog ((pinW os).forCall (fun _ _=>0) ⟨#[],#[.agg #[.bool false,.int .u64 0,.int .u64 0,.int .i64 0,.int .i64 0,.int .i64 0,.slice none 0 0,.bool false,.int .u64 0,.int .u64 0,.int .i64 0,.int .i64 0,.int .i64 0,.slice none 0 0,.slice none 0 0,.slice none 0 0],.slice none 0 0],[]⟩).memory Tryz.f5.params.toList Rows.filterFirstSpec.vars false (#[.agg #[.bool false,.int .u64 0,.int .u64 0,.int .i64 0,.int .i64 0,.int .i64 0,.slice none 0 0,.bool false,.int .u64 0,.int .u64 0,.int .i64 0,.int .i64 0,.int .i64 0,.slice none 0 0,.slice none 0 0,.slice none 0 0],.slice none 0 0]:Array Value).toList 12=some ([.agg [.agg [.agg [.lit (.bool false),.lit (.int .u64 0),.lit (.int .u64 0)],.lit (.int .i64 0)],.lit (.int .i64 0),.agg [.lit (.int .i64 0),.nil,.agg [.lit (.bool false),.lit (.int .u64 0),.lit (.int .u64 0)],.lit (.int .i64 0),.lit (.int .i64 0),.lit (.int .i64 0),.nil,.nil,.nil]],.nil],[],places):=
 ⟨[],by kernel_rfl⟩
set_option maxRecDepth 100000 in
theorem lifted (os:Os) (started:os.Started) (H:Type) (enc:TypeId×Value->H) (F:Stop.Interp) :
  ReturnsInHanded {} Tryz.checked os 5 .any ((Rows.OpenSpec.upto Rows.filterFirstSpec).preRow enc Tryz.prog Tryz.f5 Rows.filterFirstUptoRow.domain false Rows.filterFirstUptoRow.laid) (((Rows.OpenSpec.upto Rows.filterFirstSpec).at F).post enc Tryz.prog Tryz.f5 false true false false):=by
 obtain⟨places,hx⟩:=whole os enc
 refine returnsInHanded_of_row (C:=Tryz.checked) (s:=(Rows.OpenSpec.upto Rows.filterFirstSpec)) own started (by kernel_rfl) Tryz.func5
  (witness_row_atRef (enc:=enc) (C:=Tryz.checked) false (pinW os) #[.agg #[.bool false,.int .u64 0,.int .u64 0,.int .i64 0,.int .i64 0,.int .i64 0,.slice none 0 0,.bool false,.int .u64 0,.int .u64 0,.int .i64 0,.int .i64 0,.int .i64 0,.slice none 0 0,.slice none 0 0,.slice none 0 0],.slice none 0 0] (World.layVars_os _ _ _) (by kernel_rfl) (by kernel_rfl) (by kernel_rfl)
   (OpenSpec.preRow_of_cond 12 hx (by kernel_rfl) (fun k hk=>by cases hk;kernel_rfl) (by kernel_rfl) (door_met os _))) ?_
 intro W base args ds gs before hval0 hW _ hcond _ hlaid _ _
 refine Go.AX.frame_contractL (s:=Rows.filterFirstSpec) (L:=lim H Tryz.prog) (X:=laidMetH Tryz.prog Rows.filterFirstUptoRow.laid) (wl:=Go.AX.Q24.Wl True) (C:=Tryz.checked) (b:=4) laidOut rfl ?_ rfl Tryz.underlying4 (by kernel_rfl) ?_ W hlaid base args ds gs before hval0 hW (bulk_each (hcond _ rfl))
 ·intro ds hd
  match ds,hd with
  | [_,_],_=>rfl
 intro W hX base args ds p hval0 hA0 hwt0
 have hval :∀(j:Nat) t v,Tryz.f5.params[j]?=some t->args[j]?=some v->Value.okWide Tryz.prog W .any base t v:=hval0
 have hA:DataW.TrodAll enc Tryz.prog W 0 (fun _=>true) true Tryz.f5.params.toList args.toList ds p:=hA0
 have hwt :∀(j:Nat) t d,Tryz.f5.params.toList[j]?=some t->ds[j]?=some d->(lim H Tryz.prog).W t d:=hwt0
 rw[Tryz.params5] at hA hval hwt
 obtain⟨v0,vs0,d0,ds0,p0,q0,hargs,rfl,rfl,h0,k0⟩:=trodAll_cons hA
 obtain⟨v1,vs1,d1,ds1,p1,q1,rfl,rfl,rfl,h1,k1⟩:=trodAll_cons k0
 obtain⟨rfl,rfl,rfl⟩:=trodAll_nil k1
 obtain rfl:args=#[v0,v1]:=by cases args;simp_all
 clear hA0 hval0 hwt0
 obtain⟨a0,w0,r0⟩:=Go.AX.open_struct Tryz.underlying51 (reads51 (enc:=enc)) (hval 0 51 v0 rfl rfl) h0 (hwt 0 51 d0 rfl rfl)
 obtain⟨a1,w1,r1⟩:=Go.AX.open_one Tryz.underlying22 rfl (reads22 (enc:=enc)) (hval 1 22 v1 rfl rfl) h1 (hwt 1 22 d1 rfl rfl)
 exact⟨_,.cons r0 (.cons r1 .nil),Go.AX.Q24.law24_FilterFirst_ok (cT a0 a1 w0 w1),Go.AX.Q24.glob_ok hX⟩
theorem facts1:((Rows.filterFirstUptoRow.inPlace==Tryz.prog.inPlace 5)&&(Rows.filterFirstUptoRow.unfollowed==Tryz.prog.unfollowed 5)&&(Rows.filterFirstUptoRow.recurses==Tryz.prog.recurses 5)&&(Rows.filterFirstUptoRow.named==Tryz.prog.varsNamed 5))=true:=by kernel_rfl
theorem facts2:(Tryz.prog.stopsHeard&&Tryz.prog.mayEnter&&(Rows.filterFirstUptoRow.lifted==Tryz.prog.liftsFinal)&&(Tryz.prog.make==some Rows.filterFirstUptoRow.make))=true:=by kernel_rfl
theorem facts3:(laidOutB Tryz.prog&&mapsRowed Tryz.prog&&(Rows.filterFirstUptoRow.plainKeys==Tryz.prog.plainKeys))=true:=by kernel_rfl
theorem facts:joinedFacts Tryz.prog 5 Tryz.f5 (Rows.OpenSpec.upto Rows.filterFirstSpec).bare Rows.filterFirstUptoRow=true:=by
 have h1:=facts1;have h2:=facts2;have h3:=facts3
 simp only[X27] at h1 h2 h3
 unfold joinedFacts
 rw[h1.1.1.1,h1.1.1.2,h1.1.2,h1.2,h2.1.1.1,h2.1.1.2,h2.1.2,h2.2,h3.1.1,h3.1.2,h3.2]
 clear h1 h2 h3
 refine (?_:@Eq Bool _ true)
 kernel_rfl
theorem over:Rows.filterFirstUptoRow.holds Tryz.pinned (Rows.OpenSpec.upto Rows.filterFirstSpec):=
 OpenClaim.holds_of_cond 5 Tryz.f5 rfl rfl rfl rfl rfl rfl rfl ⟨rfl,rfl,rfl,rfl,rfl⟩ rfl rfl rfl rfl rfl (by kernel_rfl) Tryz.func5 facts
  (of_decide_eq_true (by kernel_rfl)) (by unfold Func.isWrapper;first | (rw[if_pos (by decide +kernel)];kernel_rfl)|(rw[if_neg (by decide +kernel)];exact⟨rfl,rfl⟩))
  (fun os started H enc _ F=>by rw[OpenClaim.pre_eq_preRow];exact lifted os started H enc F)
theorem card1 : Tryz.prog.mainIs = some ((true, "bd37f3eb1d165f40e7c083baf7a0a4a28f9a0c5951331e09bf0ecf6536612cd9").1, (true, "bd37f3eb1d165f40e7c083baf7a0a4a28f9a0c5951331e09bf0ecf6536612cd9").2.toList) := by kernel_rfl
theorem card2:false=Tryz.prog.looks []:=by kernel_rfl
theorem card3:false=Rows.filterFirstUptoRow.goesBy Tryz.prog:=by kernel_rfl
theorem card_holds:Rows.FilterFirstUptoCardSaid:=
 Claim7.holds_tied_plain_at .later [] [.data, .mapped, .pinned] true (true, "bd37f3eb1d165f40e7c083baf7a0a4a28f9a0c5951331e09bf0ecf6536612cd9") false over (fun _ h => by cases h) (by kernel_rfl) (fun _ h => by cases h) filterFirstUpto_row_tie rfl ⟨rfl, rfl⟩ card1 rfl
  (fun f fn hf hfn=>by
   obtain rfl : f = 5 := X25 ((show Tryz.prog.funcNamed "exchangepoint/exchangepointlaw24.FilterFirst" = some 5 by kernel_rfl).symm.trans hf) |>.symm
   obtain rfl:fn=Tryz.f5:=(X25 (Tryz.func5.symm.trans hfn)).symm
   exact⟨card2,fun j t ht=>by
    rw[Tryz.params5] at ht
    have hm:t ∈ [51,22]:=by simpa using Array.mem_of_getElem? ht
    have hall:([51,22].all fun u=>!Tryz.prog.wantsStandIn u)=true:=by kernel_rfl
    exact (show Tryz.prog.wantsStandIn t=false by simpa using List.all_eq_true.1 hall t hm)⟩)
  card3
theorem proved:Rows.FilterFirstUptoCardSaid:=card_holds
#print axioms proved
end Go.Proofs.YtckndjeehbfpkaaGreatDoor.filterFirst
end
