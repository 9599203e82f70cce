/-
  Texts of one proof, packed.
-/
import Derived.Test.YtppcmaidcgimpaaGreatDoorF25CReturns
import Derived.Test.YtppcmaidcgimpaaGreatDoorU14
import Derived.Test.YtppcmaidcgimpaaGreatDoorU18
import Derived.Test.YtppcmaidcgimpaaGreatDoorU36
import Derived.Test.YtppcmaidcgimpaaGreatDoorU37
import Derived.Below
import Derived.ChangeOld
import Derived.Deep.DeepHandedRow
import Derived.Deep.DeepWitnessRowRef
import Derived.LaidMore
import Derived.Lay
import Derived.MakeChecks
import Derived.OpenShut
import Derived.ProofKit
import Derived.SevenTiedAt
import Derived.ShutString
import Derived.Test.YtppcmaidcgimpaaGreatDoorCards
import Derived.Test.YtppcmaidcgimpaaGreatDoorRows
import Derived.Test.YtppcmaidcgimpaaGreatDoorTie
import Derived.WalkKit
set_option linter.all false
set_option maxRecDepth 100000
set_option maxHeartbeats 4000000
open List renaming length_map→X10,length_append→X11,length_cons→X12,length_drop→X17,length_take→X18,length_replicate→X20,length_set→X21
open Option.some renaming inj→X25
open Bool renaming and_eq_true→X27
section
namespace Go.Proofs.YtppcmaidcgimpaaGreatDoor.ribinReturns
open Go.ChangeShapes Go.WideShapes Go.ChangeAt Go.RowKit Go.AX Go.AX.Q25
set_option linter.unusedVariables false
theorem own:ownKnob Tryz.prog.godebug=none:=by kernel_rfl
theorem laidOut:laidOutB Tryz.prog=true:=by kernel_rfl
theorem one_le {H:Type} (d:DataW H):1<=Rows.uptoBulk d:=by
 cases d with
 | lit l=>cases l<;>simp[Rows.uptoBulk]
 | nil=>simp[Rows.uptoBulk]
 | ptr d=>simp[Rows.uptoBulk]
 | slice elems spare=>simp[Rows.uptoBulk]
 | agg parts=>simp[Rows.uptoBulk]
 | iface t d=>simp[Rows.uptoBulk]
 | map entries=>simp[Rows.uptoBulk]
 | held h=>simp[Rows.uptoBulk]
theorem part_le {H:Type} {d:DataW H} {l:List (DataW H)} (h:d ∈ l):Rows.uptoBulk d<=Rows.uptoBulkAll l:=by
 induction l with
 | nil=>cases h
 | cons x r ih=>
  simp only[Rows.uptoBulkAll]
  cases List.mem_cons.1 h with
  | inl e=>subst e;omega
  | inr e=>have:=ih e;omega
theorem length_le {H:Type} (l:List (DataW H)):l.length<=Rows.uptoBulkAll l:=by
 induction l with
 | nil=>simp[Rows.uptoBulkAll]
 | cons x r ih=>have:=one_le x;simp only[Rows.uptoBulkAll,X12];omega
def lim (H:Type) (P:Program):Go.AX.Bu H P where
 W _ d:=Rows.uptoBulk d<=1048576
 S _ n:=n<=1048576
 B:=1048576
 slice {t e el sp} _ h:=by
  simp only[Rows.uptoBulk] at h
  have:=length_le el
  exact⟨by omega,fun d hd=>by have:=part_le hd;omega⟩
 string {t b} h:=by
  simp only[Rows.uptoBulk] at h
  omega
 agg {t F ds} _ h i f d _ hd:=by
  simp only[Rows.uptoBulk] at h
  have:=part_le (List.mem_of_getElem? hd)
  omega
theorem bulk_each {H:Type} {ts:List TypeId} {ds gs:List (DataW H)} (h:Rows.uptoSmall H (ds++gs)=true) (j:Nat) (t:TypeId) (d:DataW H) (_:ts[j]?=some t) (hd:ds[j]?=some d):(lim H Tryz.prog).W t d:=by
 have h':Rows.uptoBulkAll (ds++gs)<=1048576:=of_decide_eq_true h
 have:=part_le (List.mem_append_left gs (List.mem_of_getElem? hd))
 exact Nat.le_trans this h'
theorem reads3 {H:Type} {enc:TypeId×Value->H} {w:World}:Go.AX.n4 (lim H Tryz.prog) enc w 3 (fun x:Int=>[D.i x]) (fun a:Int=>wv a):=
 Go.AX.xD Tryz.underlying3
theorem reads40 {H:Type} {enc:TypeId×Value->H} {w:World}:Go.AX.n4 (lim H Tryz.prog) enc w 40 (fun x:List Int=>[D.l 1 D.i x]) (fun a:List Int=>(a.length<=maxLen/\a.length<=1048576/\∀y0 ∈ a,wv y0)):=
 Go.AX.sv (L:=lim H Tryz.prog) (sok:=fun n=>n<=1048576) (el:=D.i) (sz:=1) Tryz.underlying40 (by kernel_rfl) (by decide) (by decide) (fun _ h=>h) reads3
noncomputable def xo (os : Os) : World := (World.doorLaid Tryz.prog 600 os).layVars Tryz.prog [("unicode/utf8.first", Rows.laid_unicode_utf8_first)]
theorem door_met (os:Os) (args:Array Value):laidMetH Tryz.prog Rows.ribinReturnsUptoRow.laid ((xo os).forCall (fun _ _=>0) ⟨#[],args,[]⟩).memory:=by
 rw[MakeChecks.laidMetH_plain _ _ _ (by kernel_rfl)]
 have h : laidMet Tryz.prog Rows.ribinReturnsUptoRow.laid (xo os) := laidMet_layVars (w0 := World.doorLaid Tryz.prog 600 os) ["unicode/utf8.first"] ((List.range (World.doorLaid Tryz.prog 600 os).heap.size).filter fun x => x != 1)
  (by rw [show (Rows.ribinReturnsUptoRow.laid.filter fun x => (["unicode/utf8.first"] : List String).contains x.1) = [("unicode/utf8.first", Rows.laid_unicode_utf8_first)] by kernel_rfl]; rfl)
  (by kernel_rfl) (by kernel_rfl) (LaidIn.of_run _ 8 (by kernel_rfl) (by kernel_rfl) (by kernel_rfl) (by kernel_rfl))
 exact h.of_heap (by simp[World.memory,World.forCall,Input.heap])
theorem whole (os:Os) {H:Type} (enc:TypeId×Value->H) :∃places,DataW.whole enc Tryz.prog ((xo os).forCall (fun _ _=>0) ⟨#[],#[.slice none 0 0,.int .i64 0],[]⟩).memory Tryz.f6.params.toList Rows.ribinReturnsSpec.vars false (#[.slice none 0 0,.int .i64 0]:Array Value).toList 12=some ([.nil,.lit (.int .i64 0)],[],places):=
 ⟨[],by kernel_rfl⟩
set_option maxRecDepth 100000 in
theorem lifted (os:Os) (started:os.Started) (H:Type) (enc:TypeId×Value->H) (F:Stop.Interp) :
  ReturnsInHanded {} Tryz.checked os 6 .any ((Rows.OpenSpec.upto Rows.ribinReturnsSpec).preRow enc Tryz.prog Tryz.f6 Rows.ribinReturnsUptoRow.domain false Rows.ribinReturnsUptoRow.laid) (((Rows.OpenSpec.upto Rows.ribinReturnsSpec).at F).post enc Tryz.prog Tryz.f6 false true false false):=by
 obtain⟨places,hx⟩:=whole os enc
 refine returnsInHanded_of_row (C:=Tryz.checked) (s:=(Rows.OpenSpec.upto Rows.ribinReturnsSpec)) own started (by kernel_rfl) Tryz.func6
  (witness_row_atRef (enc:=enc) (C:=Tryz.checked) false (xo os) #[.slice none 0 0,.int .i64 0] (World.layVars_os _ _ _) (by kernel_rfl) (by kernel_rfl) (by kernel_rfl)
   (OpenSpec.preRow_of_cond 12 hx (by kernel_rfl) (fun k hk=>by cases hk;kernel_rfl) (by kernel_rfl) (door_met os _))) ?_
 intro W base args ds gs before hval0 hW _ hcond _ hlaid _ _
 refine Go.AX.wO (s:=Rows.ribinReturnsSpec) (L:=lim H Tryz.prog) (X:=laidMetH Tryz.prog Rows.ribinReturnsUptoRow.laid) (wl:=Go.AX.Q25.Wl True) (C:=Tryz.checked) (b:=4) laidOut rfl ?_ rfl Tryz.underlying4 (by kernel_rfl) ?_ W hlaid base args ds gs before hval0 hW (bulk_each (hcond _ rfl))
 ·intro ds hd
  match ds,hd with
  | [_,_],_=>rfl
 intro W hX base args ds p hval0 hA0 hwt0
 have hval :∀(j:Nat) t v,Tryz.f6.params[j]?=some t->args[j]?=some v->Value.okWide Tryz.prog W .any base t v:=hval0
 have hA:DataW.TrodAll enc Tryz.prog W 0 (fun _=>true) true Tryz.f6.params.toList args.toList ds p:=hA0
 have hwt :∀(j:Nat) t d,Tryz.f6.params.toList[j]?=some t->ds[j]?=some d->(lim H Tryz.prog).W t d:=hwt0
 rw[Tryz.params6] at hA hval hwt
 obtain⟨v0,vs0,d0,ds0,p0,q0,hargs,rfl,rfl,h0,k0⟩:=trodAll_cons hA
 obtain⟨v1,vs1,d1,ds1,p1,q1,rfl,rfl,rfl,h1,k1⟩:=trodAll_cons k0
 obtain⟨rfl,rfl,rfl⟩:=trodAll_nil k1
 obtain rfl:args=#[v0,v1]:=by cases args;simp_all
 clear hA0 hval0 hwt0
 obtain⟨a0,w0,r0⟩:=Go.AX.wK Tryz.underlying40 rfl (reads40 (enc:=enc)) (hval 0 40 v0 rfl rfl) h0 (hwt 0 40 d0 rfl rfl)
 obtain⟨a1,w1,r1⟩:=Go.AX.wK Tryz.underlying3 rfl (reads3 (enc:=enc)) (hval 1 3 v1 rfl rfl) h1 (hwt 1 3 d1 rfl rfl)
 exact⟨_,.cons r0 (.cons r1 .nil),Go.AX.Q25.xt (j5 a0 a1 w0 w1),Go.AX.Q25.yf hX⟩
theorem facts1:((Rows.ribinReturnsUptoRow.inPlace==Tryz.prog.inPlace 6)&&(Rows.ribinReturnsUptoRow.unfollowed==Tryz.prog.unfollowed 6)&&(Rows.ribinReturnsUptoRow.recurses==Tryz.prog.recurses 6)&&(Rows.ribinReturnsUptoRow.named==Tryz.prog.varsNamed 6))=true:=by kernel_rfl
theorem facts2:(Tryz.prog.stopsHeard&&Tryz.prog.mayEnter&&(Rows.ribinReturnsUptoRow.lifted==Tryz.prog.liftsFinal)&&(Tryz.prog.make==some Rows.ribinReturnsUptoRow.make))=true:=by kernel_rfl
theorem facts3:(laidOutB Tryz.prog&&mapsRowed Tryz.prog&&(Rows.ribinReturnsUptoRow.plainKeys==Tryz.prog.plainKeys))=true:=by kernel_rfl
theorem facts:joinedFacts Tryz.prog 6 Tryz.f6 (Rows.OpenSpec.upto Rows.ribinReturnsSpec).bare Rows.ribinReturnsUptoRow=true:=by
 have h1:=facts1;have h2:=facts2;have h3:=facts3
 simp only[X27] at h1 h2 h3
 unfold joinedFacts
 rw[h1.1.1.1,h1.1.1.2,h1.1.2,h1.2,h2.1.1.1,h2.1.1.2,h2.1.2,h2.2,h3.1.1,h3.1.2,h3.2]
 clear h1 h2 h3
 refine (?_:@Eq Bool _ true)
 kernel_rfl
theorem over:Rows.ribinReturnsUptoRow.holds Tryz.pinned (Rows.OpenSpec.upto Rows.ribinReturnsSpec):=
 OpenClaim.holds_of_cond 6 Tryz.f6 rfl rfl rfl rfl rfl rfl rfl ⟨rfl,rfl,rfl,rfl,rfl⟩ rfl rfl rfl rfl rfl (by kernel_rfl) Tryz.func6 facts
  (of_decide_eq_true (by kernel_rfl)) (by unfold Func.isWrapper;first | (rw[if_pos (by decide +kernel)];kernel_rfl)|(rw[if_neg (by decide +kernel)];exact⟨rfl,rfl⟩))
  (fun os started H enc _ F=>by rw[OpenClaim.pre_eq_preRow];exact lifted os started H enc F)
theorem card_holds:Rows.RibinReturnsUptoCardSaid:=
 Claim7.holds_tied_plain_at .later [] [.data, .mapped, .pinned] true (true, "2a7c648d695288c2a2089ea855bf01ad73ba385e4901d298dd13b77bb45bcca1") false over (fun _ h => by cases h) (by kernel_rfl) (fun _ h => by cases h) ribinReturnsUpto_row_tie rfl ⟨rfl, rfl⟩ card1 rfl
  (fun f fn hf hfn=>by
   obtain rfl : f = 6 := X25 ((show Tryz.prog.funcNamed "exchangepoint/exchangepointlaw25.RibinReturns" = some 6 by kernel_rfl).symm.trans hf) |>.symm
   obtain rfl:fn=Tryz.f6:=(X25 (Tryz.func6.symm.trans hfn)).symm
   exact⟨card2,fun j t ht=>by
    rw[Tryz.params6] at ht
    have hm:t ∈ [40,3]:=by simpa using Array.mem_of_getElem? ht
    have hall:([40,3].all fun u=>!Tryz.prog.wantsStandIn u)=true:=by kernel_rfl
    exact (show Tryz.prog.wantsStandIn t=false by simpa using List.all_eq_true.1 hall t hm)⟩)
  card3
theorem proved:Rows.RibinReturnsUptoCardSaid:=card_holds
#print axioms proved
end Go.Proofs.YtppcmaidcgimpaaGreatDoor.ribinReturns
end
