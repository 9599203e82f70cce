/-
  Texts of one proof, packed: Ax12 Ax13 Ax14 Ax15 Ax16 Ax17 Ax18 Ax19 Ax21 AxG Ax20 Ax22 AxN Q33Tab AxB3 Q33Sp Q33P0 L33G2.
-/
import Derived.Test.YtdljbnbckcecdaaGreatDoorK1
import Derived.Below
import Derived.Carry
import Derived.ChangeOld
import Derived.Deep.Slices
import Derived.IntWalk
import Derived.KernelRfl
import Derived.LaidHandle
import Derived.LaidMore
import Derived.LaidSub
import Derived.MakeChecks
import Derived.OpenShut
import Derived.ProofKit
import Derived.Shelf.SlSortCmp.Insertion
import Derived.SizedLaws
import Derived.Sort.AssemblyPlain
import Derived.Test.YtdljbnbckcecdaaGreatDoorProg
import Derived.Test.YtdljbnbckcecdaaGreatDoorRows
import Derived.WalkKit
import Derived.WideKeyElems2
set_option linter.all false
open List renaming length_map→X10,length_append→X11,length_cons→X12,length_nil→X13,mem_singleton→X14,getElem?_eq_getElem→X15,getElem?_eq_some_iff→X16,length_drop→X17,length_take→X18,mem_cons_of_mem→X19,length_replicate→X20,length_set→X21,length_singleton→X22,mem_append→X23
open Option.some renaming injEq→X24,inj→X25
open Prod.mk renaming injEq→X26
open Bool renaming and_eq_true→X27,eq_iff_iff→X28
open Nat renaming le_of_ble_eq_true→X29,eq_of_beq_eq_true→X30,mul_le_mul_right→X31,add_mul→X32
section
namespace Go.AX
def Gs (np:Nat) (o:Oper) (av:Operand->AV):List Nat:=
 (match FK o.op with
  | true=>[np + o.dst.getD 0]
  | false=>[])++(PP o.op).flatMap fun x=>(av x).refs
def Ox (cx:Cx) (o:Oper) (av:Operand->AV) (ob:List (Option OB)) (K:AV->W->Prop):Prop:=
 ∃v w,K v w/\(FK o.op=false->w=[])/\(∀q ∈ w,q.1 ∈ Gs cx.np o av)/\
  ∀av' ob',(∀x ∈ o.op.operands.toList,av' x=av x)->Agree (Gs cx.np o av) ob ob'->∀K':AV->W->Prop,K' v w->opK cx o av' ob' K'
theorem Ox.pure {cx:Cx} {o:Oper} {av:Operand->AV} {ob:List (Option OB)} {K:AV->W->Prop} (v:AV) (hK:K v [])
  (h :∀av' ob',(∀x ∈ o.op.operands.toList,av' x=av x)->Agree (Gs cx.np o av) ob ob'->∀K':AV->W->Prop,K' v []->opK cx o av' ob' K'):Ox cx o av ob K:=
 ⟨v,[],hK,fun _=>rfl,fun q hq=>by simp at hq,h⟩
theorem DU {np:Nat} {o:Oper} {av:Operand->AV} {x:Operand} (hx:x ∈ o.op.operands.toList) (hf:PP o.op=o.op.operands.toList) :∀r ∈ (av x).refs,r ∈ Gs np o av:=fun _ hr=>
 List.mem_append_right _ (List.mem_flatMap.2 ⟨x,hf ▸ hx,hr⟩)
theorem Ds {np:Nat} {o:Oper} {av:Operand->AV} (h:FK o.op=true):np + o.dst.getD 0 ∈ Gs np o av:=by
 unfold Gs;rw[h];simp
theorem JJ {av av':Operand->AV} :∀(l:List (Nat×Operand)),(∀x ∈ l.map (·.2),av' x=av x)->(l.map fun (i,x)=>(i,av' x))=l.map fun (i,x)=>(i,av x)
 | [],_=>rfl
 | (i,x)::l,h=>by
  simp only[List.map_cons,List.mem_cons,forall_eq_or_imp] at h ⊢
  rw[h.1,JJ l h.2]
theorem RN {asz:List AV} {r:Nat}:r ∈ AV.refs.refsL asz ↔∃a ∈ asz,r ∈ a.refs:=by
 induction asz with
 | nil=>simp[AV.refs.refsL]
 | cons a l ih=>simp[AV.refs.refsL,ih]
theorem Pe {av:Operand->AV} {r:Nat} :∀{l:List (Nat×Operand)},r ∈ AV.refs.refsL ((l.map fun (i,x)=>(i,av x)).map (·.2))->∃x ∈ l.map (·.2),r ∈ (av x).refs
 | [],h=>by simp[AV.refs.refsL] at h
 | (i,x)::l,h=>by
  simp only[List.map_cons,AV.refs.refsL,X23] at h
  rcases h with h | h
  ·exact⟨x,by simp,h⟩
  obtain⟨y,hy,h⟩:=Pe h
  exact⟨y,by simp only[List.map_cons,List.mem_cons];exact .inr hy,h⟩
theorem Ez {T:TT} {t:Nat} {a:AV} :∀r ∈ (Eb T t a).refs,r ∈ a.refs:=by
 intro r hr
 unfold Eb at hr
 split at hr
 ·split at hr
  ·simp[AV.refs] at hr
  exact hr
 exact hr
theorem OQ {T:TT} {av av':Operand->AV} :∀(l:List Operand) (ts:List Nat),(∀x ∈ l,av' x=av x)->F4 T av' l ts=F4 T av l ts
 | [],ts,_=>by simp[F4]
 | x::xs,[],h=>by
  simp only[F4]
  exact List.map_congr_left h
 | x::xs,t::ts,h=>by
  simp only[F4]
  rw[h x (by simp),OQ xs ts fun y hy=>h y (by simp[hy])]
theorem PL {T:TT} {av:Operand->AV} {a:AV} :∀{l:List Operand} {ts:List Nat},a ∈ F4 T av l ts->∃x ∈ l,∀r ∈ a.refs,r ∈ (av x).refs
 | [],ts,h=>by simp[F4] at h
 | x::xs,[],h=>by
  simp only[F4] at h
  obtain⟨y,hy,rfl⟩:=List.mem_map.1 h
  exact⟨y,hy,fun r hr=>hr⟩
 | x::xs,t::ts,h=>by
  simp only[F4,List.mem_cons] at h
  rcases h with rfl | h
  ·exact⟨x,by simp,Ez⟩
  obtain⟨y,hy,hr⟩:=PL h
  exact⟨y,by simp[hy],hr⟩
theorem cI {cx:Cx} {o:Oper} {av:Operand->AV} {ob:List (Option OB)} {K:AV->W->Prop} (h:opK cx o av ob K):Ox cx o av ob K:=by
 have self :∀{ob':List (Option OB)},FK o.op=true->Agree (Gs cx.np o av) ob ob'->ob'[cx.np + o.dst.getD 0]?=ob[cx.np + o.dst.getD 0]?:=fun hr ha=>ha _ (Ds hr)
 have opd :∀{ob':List (Option OB)} (x:Operand),x ∈ o.op.operands.toList->PP o.op=o.op.operands.toList->Agree (Gs cx.np o av) ob ob'->Agree (av x).refs ob ob':=fun x hx hf ha=>ha.mono (DU hx hf)
 unfold opK at h
 split at h<;>rename_i heq
 ·rename_i x
  split at h
  ·rename_i cv
   obtain⟨v,w,h1,h2,h3⟩:=Ww h
   have hrw:FK o.op=true:=by rw[heq];rfl
   refine⟨v,w,h1,fun e=>by rw[hrw] at e;simp at e,fun q hq=>by rw[h2 q hq];exact Ds hrw,fun av' ob' hav ha K' hK=>?_⟩
   unfold opK;rw[heq]
   simp only
   rw[hav (.const cv) (by rw[heq];simp[Op.operands])]
   exact h3 ob' (self hrw ha) _ hK
  rename_i hnc
  obtain⟨v,h1,h2⟩:=Gx h
  refine .pure v h1 fun av' ob' hav ha K' hK=>?_
  unfold opK;rw[heq]
  simp only
  rw[hav x (by rw[heq];simp[Op.operands])]
  exact h2 (fun v=>K' v []) hK
 ·rename_i x
  split at h
  ·rename_i cv
   obtain⟨v,w,h1,h2,h3⟩:=Ww h
   have hrw:FK o.op=true:=by rw[heq];rfl
   refine⟨v,w,h1,fun e=>by rw[hrw] at e;simp at e,fun q hq=>by rw[h2 q hq];exact Ds hrw,fun av' ob' hav ha K' hK=>?_⟩
   unfold opK;rw[heq]
   simp only
   rw[hav (.const cv) (by rw[heq];simp[Op.operands])]
   exact h3 ob' (self hrw ha) _ hK
  rename_i hnc
  obtain⟨v,h1,h2⟩:=Gx h
  refine .pure v h1 fun av' ob' hav ha K' hK=>?_
  unfold opK;rw[heq]
  simp only
  rw[hav x (by rw[heq];simp[Op.operands])]
  exact h2 (fun v=>K' v []) hK
 ·rename_i c a b
  obtain⟨v,h1,h2⟩:=Zf h
  refine .pure v h1 fun av' ob' hav ha K' hK=>?_
  unfold opK;rw[heq];simp only
  rw[hav c (by rw[heq];simp[Op.operands]),hav a (by rw[heq];simp[Op.operands]),hav b (by rw[heq];simp[Op.operands])]
  exact h2 (fun v=>K' v []) hK
 ·rename_i t
  have hrw:FK o.op=true:=by rw[heq];rfl
  rw[AH] at h
  obtain⟨hk,h⟩:=h
  have h0:=h
  rw[B2] at h
  refine⟨_,_,h.2,fun e=>by rw[hrw] at e;simp at e,fun q hq=>by simp only[X14] at hq;rw[hq];exact Ds hrw,fun av' ob' hav ha K' hK=>?_⟩
  unfold opK;rw[heq];simp only
  exact (AH _ _).2 ⟨hk,Ju h0 (self hrw ha) hK⟩
 ·rename_i t x
  have hrw:FK o.op=true:=by rw[heq];rfl
  have h0:=h
  rw[B2,Ef] at h
  obtain⟨hs,l,hl,h⟩:=h
  rw[AH] at h
  refine⟨_,_,h.2,fun e=>by rw[hrw] at e;simp at e,fun q hq=>by simp only[X14] at hq;rw[hq];exact Ds hrw,fun av' ob' hav ha K' hK=>?_⟩
  unfold opK;rw[heq];simp only
  refine Ju h0 (self hrw ha) ?_
  rw[hav x (by rw[heq];simp[Op.operands]),Ef]
  exact⟨l,hl,(AH _ _).2 ⟨h.1,hK⟩⟩
 ·rename_i t ps
  obtain⟨v,h1,h2⟩:=Y1 h
  refine .pure v h1 fun av' ob' hav ha K' hK=>?_
  unfold opK;rw[heq];simp only
  rw[JJ (av:=av) ps.toList fun x hx=>hav x (by rw[heq];simpa[Op.operands] using hx)]
  exact h2 (fun v=>K' v []) hK
 ·rename_i t len ps
  have hrw:FK o.op=true:=by rw[heq];rfl
  obtain⟨v,w,h1,h2,h3⟩:=Qm h
  have hfp :∀r ∈ (cx.np + o.dst.getD 0)::AV.refs.refsL ((ps.toList.map fun (i,x)=>(i,av x)).map (·.2)),r ∈ Gs cx.np o av:=by
   intro r hr
   rcases List.mem_cons.1 hr with hr | hr
   ·rw[hr];exact Ds hrw
   obtain⟨x,hx,hr⟩:=Pe hr
   exact DU (by rw[heq];simpa[Op.operands] using hx) (by rw[heq];rfl) r hr
  refine⟨v,w,h1,fun e=>by rw[hrw] at e;simp at e,fun q hq=>hfp _ (h2 q hq),fun av' ob' hav ha K' hK=>?_⟩
  unfold opK;rw[heq];simp only
  rw[JJ (av:=av) ps.toList fun x hx=>hav x (by rw[heq];simpa[Op.operands] using hx)]
  exact h3 ob' (ha.mono hfp) _ hK
 ·rename_i t x
  obtain⟨v,h1,h2⟩:=aH h
  refine .pure v h1 fun av' ob' hav ha K' hK=>?_
  unfold opK;rw[heq];simp only
  rw[hav x (by rw[heq];simp[Op.operands])]
  exact h2 ob' (opd x (by rw[heq];simp[Op.operands]) (by rw[heq];rfl) ha) (fun v=>K' v []) hK
 ·rename_i t a x
  have hrw:FK o.op=true:=by rw[heq];rfl
  obtain⟨v,w,h1,h2,h3⟩:=Ya h
  have hnx :∀r ∈ (Eb cx.T t (av x)).refs,r ∈ (av x).refs:=by
   intro r hr
   unfold Eb at hr
   split at hr
   ·split at hr
    ·simp[AV.refs] at hr
    exact hr
   exact hr
  have hfp :∀r ∈ (av a).refs++(Eb cx.T t (av x)).refs,r ∈ Gs cx.np o av:=by
   intro r hr
   rcases X23.1 hr with hr | hr
   ·exact DU (x:=a) (by rw[heq];simp[Op.operands]) (by rw[heq];rfl) r hr
   exact DU (x:=x) (by rw[heq];simp[Op.operands]) (by rw[heq];rfl) r (hnx r hr)
  refine⟨v,w,h1,fun e=>by rw[hrw] at e;simp at e,fun q hq=>hfp _ (h2 q hq),fun av' ob' hav ha K' hK=>?_⟩
  unfold opK;rw[heq];simp only
  rw[hav a (by rw[heq];simp[Op.operands]),hav x (by rw[heq];simp[Op.operands])]
  exact h3 ob' (ha.mono hfp) _ hK
 ·rename_i x
  split at h
  all_goals first | exact h.elim | skip
  all_goals
   rename_i hx
   refine .pure _ h fun av' ob' hav ha K' hK=>?_
   unfold opK;rw[heq];simp only
   rw[hav x (by rw[heq];simp[Op.operands]),hx]
   exact hK
 ·rename_i op t x y _
  obtain⟨v,h1,h2⟩:=aT h
  refine .pure v h1 fun av' ob' hav ha K' hK=>?_
  unfold opK;rw[heq];simp only
  rw[hav x (by rw[heq];simp[Op.operands]),hav y (by rw[heq];simp[Op.operands])]
  exact h2 (fun v=>K' v []) hK
 ·rename_i op t x
  obtain⟨v,h1,h2⟩:=bz h
  refine .pure v h1 fun av' ob' hav ha K' hK=>?_
  unfold opK;rw[heq];simp only
  rw[hav x (by rw[heq];simp[Op.operands])]
  exact h2 (fun v=>K' v []) hK
 ·rename_i src dst x
  obtain⟨v,h1,h2⟩:=aI h
  refine .pure v h1 fun av' ob' hav ha K' hK=>?_
  unfold opK;rw[heq];simp only
  rw[hav x (by rw[heq];simp[Op.operands])]
  exact h2 ob' (opd x (by rw[heq];simp[Op.operands]) (by rw[heq];rfl) ha) (fun v=>K' v []) hK
 ·rename_i t x i
  obtain⟨a,b,c,h,hf⟩:=Vu h
  split at h
  ·rename_i r off hx
   refine .pure _ h fun av' ob' hav ha K' hK=>?_
   unfold opK;rw[heq];simp only
   rw[hav x (by rw[heq];simp[Op.operands]),hx]
   exact hf _ hK
  ·rename_i cs hx
   rw[Dl,C6] at h
   refine .pure _ h fun av' ob' hav ha K' hK=>?_
   unfold opK;rw[heq];simp only
   rw[hav x (by rw[heq];simp[Op.operands]),hx]
   refine hf _ ?_
   simp only
   rw[Dl,C6]
   exact hK
  ·rename_i r n i k hx
   obtain⟨q,h,ho⟩:=B1 h
   cases q with
   | box=>exact h.elim
   | map=>exact h.elim
   | amap=>exact h.elim
   | gone=>exact h.elim
   | row e sz es f=>
    refine .pure _ h.2 fun av' ob' hav ha K' hK=>?_
    unfold opK;rw[heq];simp only
    rw[hav x (by rw[heq];simp[Op.operands]),hx]
    exact hf _ (ho ob' (opd x (by rw[heq];simp[Op.operands]) (by rw[heq];rfl) ha r (by rw[hx];simp[AV.refs])) _ ⟨h.1,hK⟩)
  exact h.elim
 ·rename_i t x i
  obtain⟨v,h1,h2⟩:=ZA h
  refine .pure v h1 fun av' ob' hav ha K' hK=>?_
  unfold opK;rw[heq];simp only
  rw[hav x (by rw[heq];simp[Op.operands])]
  exact h2 (fun v=>K' v []) hK
 ·rename_i t x y
  obtain⟨v,h1,h2⟩:=TG h
  refine .pure v h1 fun av' ob' hav ha K' hK=>?_
  unfold opK;rw[heq];simp only
  rw[hav x (by rw[heq];simp[Op.operands]),hav y (by rw[heq];simp[Op.operands])]
  exact h2 ob' (opd x (by rw[heq];simp[Op.operands]) (by rw[heq];rfl) ha) (fun v=>K' v []) hK
 ·rename_i t x y
  obtain⟨v,h1,h2⟩:=Xw h
  refine .pure v h1 fun av' ob' hav ha K' hK=>?_
  unfold opK;rw[heq];simp only
  rw[hav x (by rw[heq];simp[Op.operands]),hav y (by rw[heq];simp[Op.operands])]
  exact h2 (fun v=>K' v []) hK
 ·rename_i t
  have hrw:FK o.op=true:=by rw[heq];rfl
  split at h
  ·rename_i k e hk
   have h0:=h
   rw[B2] at h
   obtain⟨_,h⟩:=h
   refine⟨_,_,h,fun e=>by rw[hrw] at e;simp at e,fun q hq=>by simp only[X14] at hq;rw[hq];exact Ds hrw,fun av' ob' hav ha K' hK=>?_⟩
   unfold opK;rw[heq];simp only[hk]
   exact Ju h0 (self hrw ha) hK
  exact h.elim
 ·rename_i t x y ok
  obtain⟨v,h1,h2⟩:=ZY h
  refine .pure v h1 fun av' ob' hav ha K' hK=>?_
  unfold opK;rw[heq];simp only
  rw[hav x (by rw[heq];simp[Op.operands]),hav y (by rw[heq];simp[Op.operands])]
  exact h2 ob' (opd x (by rw[heq];simp[Op.operands]) (by rw[heq];rfl) ha) (fun v=>K' v []) hK
 ·rename_i t mm k v
  have hrw:FK o.op=true:=by rw[heq];rfl
  obtain⟨u,w,h1,h2,h3⟩:=RU h
  have hfp :∀r ∈ (av mm).refs++(av v).refs,r ∈ Gs cx.np o av:=by
   intro r hr
   rcases X23.1 hr with hr | hr
   ·exact DU (x:=mm) (by rw[heq];simp[Op.operands]) (by rw[heq];rfl) r hr
   exact DU (x:=v) (by rw[heq];simp[Op.operands]) (by rw[heq];rfl) r hr
  refine⟨u,w,h1,fun e=>by rw[hrw] at e;simp at e,fun q hq=>hfp _ (h2 q hq),fun av' ob' hav ha K' hK=>?_⟩
  unfold opK;rw[heq];simp only
  rw[hav mm (by rw[heq];simp[Op.operands]),hav k (by rw[heq];simp[Op.operands]),hav v (by rw[heq];simp[Op.operands])]
  exact h3 ob' (ha.mono hfp) _ hK
 ·rename_i t mm k v
  have hrw:FK o.op=true:=by rw[heq];rfl
  obtain⟨u,w,h1,h2,h3⟩:=RU h
  have hfp :∀r ∈ (av mm).refs++(av v).refs,r ∈ Gs cx.np o av:=by
   intro r hr
   rcases X23.1 hr with hr | hr
   ·exact DU (x:=mm) (by rw[heq];simp[Op.operands]) (by rw[heq];rfl) r hr
   exact DU (x:=v) (by rw[heq];simp[Op.operands]) (by rw[heq];rfl) r hr
  refine⟨u,w,h1,fun e=>by rw[hrw] at e;simp at e,fun q hq=>hfp _ (h2 q hq),fun av' ob' hav ha K' hK=>?_⟩
  unfold opK;rw[heq];simp only
  rw[hav mm (by rw[heq];simp[Op.operands]),hav k (by rw[heq];simp[Op.operands]),hav v (by rw[heq];simp[Op.operands])]
  exact h3 ob' (ha.mono hfp) _ hK
 ·rename_i t x lo hi
  have hrw:FK o.op=true:=by rw[heq];rfl
  obtain⟨v,w,h1,_,h2,h3⟩:=UH h
  have hfp :∀r ∈ (cx.np + o.dst.getD 0)::(Eb cx.T t (av x)).refs,r ∈ Gs cx.np o av:=by
   intro r hr
   rcases List.mem_cons.1 hr with hr | hr
   ·rw[hr];exact Ds hrw
   refine DU (x:=x) (by rw[heq];simp[Op.operands]) (by rw[heq];rfl) r ?_
   unfold Eb at hr
   split at hr
   ·split at hr
    ·simp[AV.refs] at hr
    exact hr
   exact hr
  refine⟨v,w,h1,fun e=>by rw[hrw] at e;simp at e,fun q hq=>hfp _ (h2 q hq),fun av' ob' hav ha K' hK=>?_⟩
  unfold opK;rw[heq];simp only
  have e1:Eb cx.T t (av' x)=Eb cx.T t (av x):=by rw[hav x (by rw[heq];simp[Op.operands])]
  have e2:lo.map av'=lo.map av:=by
   cases lo with
   | none=>rfl
   | some y=>simp only[Option.map_some];rw[hav y (by rw[heq];simp[Op.operands])]
  have e3:hi.map av'=hi.map av:=by
   cases hi with
   | none=>rfl
   | some y=>simp only[Option.map_some];rw[hav y (by rw[heq];simp[Op.operands])]
  rw[e1,e2,e3]
  exact h3 ob' (ha.mono hfp) _ hK
 ·rename_i t x lo hi mx
  have hrw:FK o.op=true:=by rw[heq];rfl
  obtain⟨v,w,h1,_,h2,h3⟩:=Rk h
  have hfp :∀r ∈ (cx.np + o.dst.getD 0)::(av x).refs,r ∈ Gs cx.np o av:=by
   intro r hr
   rcases List.mem_cons.1 hr with hr | hr
   ·rw[hr];exact Ds hrw
   exact DU (x:=x) (by rw[heq];simp[Op.operands]) (by rw[heq];rfl) r hr
  refine⟨v,w,h1,fun e=>by rw[hrw] at e;simp at e,fun q hq=>hfp _ (h2 q hq),fun av' ob' hav ha K' hK=>?_⟩
  unfold opK;rw[heq];simp only
  have e1:av' x=av x:=hav x (by rw[heq];simp[Op.operands])
  have e2:lo.map av'=lo.map av:=by
   cases lo with
   | none=>rfl
   | some y=>simp only[Option.map_some];rw[hav y (by rw[heq];simp[Op.operands])]
  have e3:hi.map av'=hi.map av:=by
   cases hi with
   | none=>rfl
   | some y=>simp only[Option.map_some];rw[hav y (by rw[heq];simp[Op.operands])]
  have e4:av' mx=av mx:=hav mx (by rw[heq];simp[Op.operands])
  rw[e1,e2,e3,e4]
  exact h3 ob' (ha.mono hfp) _ hK
 ·rename_i t n c
  have hrw:FK o.op=true:=by rw[heq];rfl
  unfold UN at h
  split at h
  ·rename_i e n' c' hk hn hc
   have h0:=h
   rw[B2] at h
   obtain⟨_,h⟩:=h
   rw[AH] at h
   obtain⟨h1,hb,z,hz,zs,hzs,h⟩:=h
   refine⟨_,_,h,fun e=>by rw[hrw] at e;simp at e,fun q hq=>by simp only[X14] at hq;rw[hq];exact Ds hrw,fun av' ob' hav ha K' hK=>?_⟩
   unfold opK;rw[heq];simp only
   unfold UN
   rw[hav n (by rw[heq];simp[Op.operands]),hav c (by rw[heq];simp[Op.operands]),hk,hn,hc]
   simp only
   refine Ju h0 (self hrw ha) ?_
   exact (AH _ _).2 ⟨h1,hb,z,hz,zs,hzs,hK⟩
  exact h.elim
 ·rename_i x i
  split at h
  ·rename_i vs hx
   split at h
   ·rename_i a hi
    obtain⟨v,h1,h2⟩:=Gx h
    refine .pure v h1 fun av' ob' hav ha K' hK=>?_
    unfold opK;rw[heq];simp only
    rw[hav x (by rw[heq];simp[Op.operands]),hx]
    simp only[hi]
    exact h2 (fun v=>K' v []) hK
   exact h.elim
  exact h.elim
 ·rename_i f first caps
  split at h
  ·rename_i hf
   refine .pure _ h fun av' ob' hav ha K' hK=>?_
   unfold opK;rw[heq];simp only[hf]
   rw[List.map_congr_left (g:=av) fun x hx=>hav x (by rw[heq];simp only[Op.operands,Array.toList_append,X23];exact .inr hx)]
   exact hK
  exact h.elim
 ·rename_i c
  split at h
  ·rename_i x hc
   have hops:o.op.operands.toList=x::c.args.toList:=by rw[heq];simp[Op.operands,Call.operands,hc]
   have hrw:FK o.op=true:=by rw[heq];simp[FK,hc]
   obtain⟨f,caps,h,hx⟩:=Om h
   obtain⟨v,w,h1,h2,h3⟩:=Zr h
   have hxr :∀r ∈ AV.refs.refsL caps,r ∈ (av x).refs:=by
    intro r hr
    rcases hx with hx | ⟨hx,rfl⟩
    ·rw[hx];exact hr
    simp[AV.refs.refsL] at hr
   have hfp :∀r ∈ (cx.np + o.dst.getD 0)::AV.refs.refsL (F4 cx.T av c.args.toList c.argTypes.toList++caps),r ∈ Gs cx.np o av:=by
    intro r hr
    rcases List.mem_cons.1 hr with hr | hr
    ·rw[hr];exact Ds hrw
    obtain⟨a,ha,hr⟩:=RN.1 hr
    rcases X23.1 ha with ha | ha
    ·obtain⟨y,hy,hr2⟩:=PL ha
     exact DU (x:=y) (by rw[hops];simp only[List.mem_cons];exact .inr hy) (by rw[heq];rfl) r (hr2 r hr)
    exact DU (x:=x) (by rw[hops];simp) (by rw[heq];rfl) r (hxr r (RN.2 ⟨a,ha,hr⟩))
   refine⟨v,w,h1,fun e=>by rw[hrw] at e;simp at e,fun q hq=>hfp _ (h2 q hq),fun av' ob' hav ha K' hK=>?_⟩
   unfold opK;rw[heq];simp only[hc]
   rw[hav x (by rw[hops];simp),OQ (av:=av) _ _ fun y hy=>hav y (by rw[hops];simp only[List.mem_cons];exact .inr hy)]
   exact bM (h3 ob' (ha.mono hfp) _ hK) hx
  ·rename_i hc
   have hops:o.op.operands.toList=c.args.toList:=by rw[heq];simp[Op.operands,Call.operands,hc]
   split at h
   ·rename_i x t hx ht
    obtain⟨v,h1,h2⟩:=bD h
    refine .pure v h1 fun av' ob' hav ha K' hK=>?_
    unfold opK;rw[heq];simp only[hc,hx,ht]
    rw[hav x (by rw[hops,hx];simp)]
    exact h2 (fun v=>K' v []) hK
   exact h.elim
  ·rename_i hc
   have hops:o.op.operands.toList=c.args.toList:=by rw[heq];simp[Op.operands,Call.operands,hc]
   have hrw:FK o.op=true:=by rw[heq];simp[FK,hc]
   split at h
   ·rename_i x y t u hx ht
    split at h
    rotate_left
    ·rename_i htu
     obtain⟨v,w,h1,h2,h3⟩:=Wq h
     have hfp :∀r ∈ (cx.np + o.dst.getD 0)::(Eb cx.T t (av x)).refs,r ∈ Gs cx.np o av:=by
      intro r hr
      rcases List.mem_cons.1 hr with hr | hr
      ·rw[hr];exact Ds hrw
      exact DU (x:=x) (by rw[hops,hx];simp) (by rw[heq];rfl) r (Ez r hr)
     refine⟨v,w,h1,fun e=>by rw[hrw] at e;simp at e,fun q hq=>hfp _ (h2 q hq),fun av' ob' hav ha K' hK=>?_⟩
     unfold opK;rw[heq];simp only[hc,hx,ht]
     rw[htu,hav x (by rw[hops,hx];simp),hav y (by rw[hops,hx];simp)]
     exact h3 ob' (ha.mono hfp) _ hK
    rename_i h0
    obtain⟨v,w,h1,h2,h3⟩:=Rj h
    have hfp :∀r ∈ (cx.np + o.dst.getD 0)::((Eb cx.T t (av x)).refs++(Eb cx.T t (av y)).refs),r ∈ Gs cx.np o av:=by
     intro r hr
     rcases List.mem_cons.1 hr with hr | hr
     ·rw[hr];exact Ds hrw
     rcases X23.1 hr with hr | hr
     ·exact DU (x:=x) (by rw[hops,hx];simp) (by rw[heq];rfl) r (Ez r hr)
     exact DU (x:=y) (by rw[hops,hx];simp) (by rw[heq];rfl) r (Ez r hr)
    refine⟨v,w,h1,fun e=>by rw[hrw] at e;simp at e,fun q hq=>hfp _ (by
     rcases List.mem_cons.1 (h2 q hq) with e | e
     ·rw[e];simp
     exact X19 _ (List.mem_append_left _ e)),fun av' ob' hav ha K' hK=>?_⟩
    unfold opK;rw[heq];simp only[hc,hx,ht]
    rw[hav x (by rw[hops,hx];simp),hav y (by rw[hops,hx];simp)]
    rw[h0]
    exact h3 ob' (ha.mono hfp) _ hK
   exact h.elim
  ·rename_i hc
   have hops:o.op.operands.toList=c.args.toList:=by rw[heq];simp[Op.operands,Call.operands,hc]
   split at h
   ·rename_i x t hx ht
    obtain⟨v,h1,h2⟩:=ac h
    refine .pure v h1 fun av' ob' hav ha K' hK=>?_
    unfold opK;rw[heq];simp only[hc,hx,ht]
    rw[hav x (by rw[hops,hx];simp)]
    exact h2 (fun v=>K' v []) hK
   exact h.elim
  ·rename_i hc
   have hops:o.op.operands.toList=c.args.toList:=by rw[heq];simp[Op.operands,Call.operands,hc]
   have hrw:FK o.op=true:=by rw[heq];simp[FK,hc]
   split at h
   ·rename_i x t hx ht
    split at h
    ·rename_i r a n m hxo
     obtain⟨v,w,h1,h2,h3⟩:=ZG h
     have hfp :∀q ∈ [r],q ∈ Gs cx.np o av:=by
      intro q hq
      refine DU (x:=x) (by rw[hops,hx];simp) (by rw[heq];rfl) q ?_
      rw[hxo];simpa[AV.refs] using hq
     refine⟨v,w,h1,fun e=>by rw[hrw] at e;simp at e,fun q hq=>hfp _ (h2 q hq),fun av' ob' hav ha K' hK=>?_⟩
     unfold opK;rw[heq];simp only[hc,hx,ht]
     rw[hav x (by rw[hops,hx];simp),hxo]
     exact h3 ob' (ha.mono hfp) _ hK
    exact h.elim
   exact h.elim
  ·rename_i hc
   have hops:o.op.operands.toList=c.args.toList:=by rw[heq];simp[Op.operands,Call.operands,hc]
   have hrw:FK o.op=true:=by rw[heq];simp[FK,hc]
   split at h
   ·rename_i x y t u hx ht
    obtain⟨v,w,h1,h2,h3⟩:=aC h
    have hfp :∀q ∈ (av x).refs++(av y).refs,q ∈ Gs cx.np o av:=by
     intro q hq
     rcases X23.1 hq with hq | hq
     ·exact DU (x:=x) (by rw[hops,hx];simp) (by rw[heq];rfl) q hq
     exact DU (x:=y) (by rw[hops,hx];simp) (by rw[heq];rfl) q hq
    refine⟨v,w,h1,fun e=>by rw[hrw] at e;simp at e,fun q hq=>hfp _ (List.mem_append_left _ (h2 q hq)),fun av' ob' hav ha K' hK=>?_⟩
    unfold opK;rw[heq];simp only[hc,hx,ht]
    rw[hav x (by rw[hops,hx];simp),hav y (by rw[hops,hx];simp)]
    exact h3 ob' (ha.mono hfp) _ hK
   exact h.elim
  ·rename_i hc
   have hops:o.op.operands.toList=c.args.toList:=by rw[heq];simp[Op.operands,Call.operands,hc]
   split at h
   ·rename_i x y hx
    obtain⟨v,h1,h2⟩:=aX h
    refine .pure v h1 fun av' ob' hav ha K' hK=>?_
    unfold opK;rw[heq];simp only[hc,hx]
    rw[hav x (by rw[hops,hx];simp),hav y (by rw[hops,hx];simp)]
    exact h2 (fun v=>K' v []) hK
   exact h.elim
  ·rename_i hc
   have hops:o.op.operands.toList=c.args.toList:=by rw[heq];simp[Op.operands,Call.operands,hc]
   split at h
   ·rename_i x y hx
    obtain⟨v,h1,h2⟩:=am h
    refine .pure v h1 fun av' ob' hav ha K' hK=>?_
    unfold opK;rw[heq];simp only[hc,hx]
    rw[hav x (by rw[hops,hx];simp),hav y (by rw[hops,hx];simp)]
    exact h2 (fun v=>K' v []) hK
   exact h.elim
  exact h.elim
 exact h.elim
theorem ap {cx:Cx} {o:Oper} {av:Operand->AV} {ob:List (Option OB)} {K:AV->W->Prop} (h:opK cx o av ob K) :
  ∃v w,K v w/\(FK o.op=false->w=[])/\(Zx o.op=true->v.isOsl=true->w=[])/\(∀x,apX o.op=some x->∀q ∈ w,q.1 ∈ (cx.np + o.dst.getD 0)::(av x).refs)/\(∀q ∈ w,q.1 ∈ Gs cx.np o av)/\
   ∀av' ob',(∀x ∈ o.op.operands.toList,av' x=av x)->Agree (Gs cx.np o av) ob ob'->∀K':AV->W->Prop,K' v w->opK cx o av' ob' K':=by
 by_cases hs:Zx o.op=true
 case neg=>
  cases hap:apX o.op with
  | none=>
   obtain⟨v,w,h1,h2,h3,h4⟩:=cI h
   exact⟨v,w,h1,h2,fun e=>absurd e hs,fun x e=>by simp at e,h3,h4⟩
  | some x=>
   obtain⟨c,y,heq,hc,hx⟩ :∃c y,o.op=.call c/\c.callee=.builtin .append/\c.args.toList=[x,y]:=by
    unfold apX at hap
    split at hap
    ·rename_i c heq
     split at hap
     ·rename_i x' y' hc hx
      simp only[X24] at hap
      subst hap
      exact⟨c,_,heq,hc,hx⟩
     simp at hap
    simp at hap
   have hops:o.op.operands.toList=c.args.toList:=by rw[heq];simp[Op.operands,Call.operands,hc]
   have hrw:FK o.op=true:=by rw[heq];simp[FK,hc]
   unfold opK at h
   rw[heq] at h
   simp only[hc,hx] at h
   split at h
   ·rename_i x' y' t u hx' ht
    simp only[List.cons.injEq,and_true] at hx'
    obtain⟨rfl,rfl⟩:=hx'
    split at h
    rotate_left
    ·rename_i htu
     obtain⟨v,w,h1,h2,h3⟩:=Wq h
     have hfp :∀r ∈ (cx.np + o.dst.getD 0)::(Eb cx.T t (av x)).refs,r ∈ Gs cx.np o av:=by
      intro r hr
      rcases List.mem_cons.1 hr with hr | hr
      ·rw[hr];exact Ds hrw
      exact DU (x:=x) (by rw[hops,hx];simp) (by rw[heq];rfl) r (Ez r hr)
     refine⟨v,w,h1,fun e=>by rw[hrw] at e;simp at e,fun e=>absurd e hs,fun x2 e q hq=>?_,fun q hq=>hfp _ (h2 q hq),fun av' ob' hav ha K' hK=>?_⟩
     ·simp only[X24] at e
      subst e
      rcases List.mem_cons.1 (h2 q hq) with e | e
      ·rw[e];simp
      exact X19 _ (Ez _ e)
     unfold opK;rw[heq];simp only[hc,hx,ht]
     rw[htu,hav x (by rw[hops,hx];simp),hav y (by rw[hops,hx];simp)]
     exact h3 ob' (ha.mono hfp) _ hK
    rename_i h0
    obtain⟨v,w,h1,h2,h3⟩:=Rj h
    have hfp :∀r ∈ (cx.np + o.dst.getD 0)::((Eb cx.T t (av x)).refs++(Eb cx.T t (av y)).refs),r ∈ Gs cx.np o av:=by
     intro r hr
     rcases List.mem_cons.1 hr with hr | hr
     ·rw[hr];exact Ds hrw
     rcases X23.1 hr with hr | hr
     ·exact DU (x:=x) (by rw[hops,hx];simp) (by rw[heq];rfl) r (Ez r hr)
     exact DU (x:=y) (by rw[hops,hx];simp) (by rw[heq];rfl) r (Ez r hr)
    refine⟨v,w,h1,fun e=>by rw[hrw] at e;simp at e,fun e=>absurd e hs,fun x2 e q hq=>?_,fun q hq=>hfp _ (by
     rcases List.mem_cons.1 (h2 q hq) with e | e
     ·rw[e];simp
     exact X19 _ (List.mem_append_left _ e)),fun av' ob' hav ha K' hK=>?_⟩
    ·simp only[X24] at e
     subst e
     rcases List.mem_cons.1 (h2 q hq) with e | e
     ·rw[e];simp
     exact X19 _ (Ez _ e)
    unfold opK;rw[heq];simp only[hc,hx,ht]
    rw[hav x (by rw[hops,hx];simp),hav y (by rw[hops,hx];simp)]
    rw[h0]
    exact h3 ob' (ha.mono hfp) _ hK
   exact h.elim
 obtain⟨t,x,lo,hi,mx,heq⟩ :∃t x lo hi mx,o.op=.slice t x lo hi mx:=by
  revert hs
  cases o.op<;>simp[Zx]
 cases mx with
 | some y=>
  unfold opK at h
  rw[heq] at h
  simp only at h
  have hrw:FK o.op=true:=by rw[heq];rfl
  obtain⟨v,w,h1,hos,h2,h3⟩:=Rk h
  have hfp :∀r ∈ (cx.np + o.dst.getD 0)::(av x).refs,r ∈ Gs cx.np o av:=by
   intro r hr
   rcases List.mem_cons.1 hr with hr | hr
   ·rw[hr];exact Ds hrw
   exact DU (x:=x) (by rw[heq];simp[Op.operands]) (by rw[heq];rfl) r hr
  refine⟨v,w,h1,fun e=>by rw[hrw] at e;simp at e,fun _=>hos,fun x2 e=>by rw[heq] at e;simp[apX] at e,fun q hq=>hfp _ (h2 q hq),fun av' ob' hav ha K' hK=>?_⟩
  unfold opK;rw[heq];simp only
  have e1:av' x=av x:=hav x (by rw[heq];simp[Op.operands])
  have e2:lo.map av'=lo.map av:=by
   cases lo with
   | none=>rfl
   | some y=>simp only[Option.map_some];rw[hav y (by rw[heq];simp[Op.operands])]
  have e3:hi.map av'=hi.map av:=by
   cases hi with
   | none=>rfl
   | some y=>simp only[Option.map_some];rw[hav y (by rw[heq];simp[Op.operands])]
  have e4:av' y=av y:=hav y (by rw[heq];simp[Op.operands])
  rw[e1,e2,e3,e4]
  exact h3 ob' (ha.mono hfp) _ hK
 | none=>
 unfold opK at h
 rw[heq] at h
 simp only at h
 have hrw:FK o.op=true:=by rw[heq];rfl
 obtain⟨v,w,h1,hos,h2,h3⟩:=UH h
 have hfp :∀r ∈ (cx.np + o.dst.getD 0)::(Eb cx.T t (av x)).refs,r ∈ Gs cx.np o av:=by
  intro r hr
  rcases List.mem_cons.1 hr with hr | hr
  ·rw[hr];exact Ds hrw
  refine DU (x:=x) (by rw[heq];simp[Op.operands]) (by rw[heq];rfl) r ?_
  unfold Eb at hr
  split at hr
  ·split at hr
   ·simp[AV.refs] at hr
   exact hr
  exact hr
 refine⟨v,w,h1,fun e=>by rw[hrw] at e;simp at e,fun _=>hos,fun x2 e=>by rw[heq] at e;simp[apX] at e,fun q hq=>hfp _ (h2 q hq),fun av' ob' hav ha K' hK=>?_⟩
 unfold opK;rw[heq];simp only
 have e1:Eb cx.T t (av' x)=Eb cx.T t (av x):=by rw[hav x (by rw[heq];simp[Op.operands])]
 have e2:lo.map av'=lo.map av:=by
  cases lo with
  | none=>rfl
  | some y=>simp only[Option.map_some];rw[hav y (by rw[heq];simp[Op.operands])]
 have e3:hi.map av'=hi.map av:=by
  cases hi with
  | none=>rfl
  | some y=>simp only[Option.map_some];rw[hav y (by rw[heq];simp[Op.operands])]
 rw[e1,e2,e3]
 exact h3 ob' (ha.mono hfp) _ hK
end Go.AX
end
section
namespace Go.AX
def app (dst:Option Nat) (v:AV) (w:W) (st:ASt):ASt:=⟨JI st.tm dst v,wrL st.ob w⟩
def Look (ops:Array Oper) (o:Oper) (st st':ASt):Prop:=∀t ∈ o.looksAt ops,st'.tm.getD t .dead=st.tm.getD t .dead
structure StpE (cx:Cx) (ops:Array Oper) (o:Oper) (st:ASt) (e:List Nat×List Nat) (v:AV) (w:W):Prop where
 ee:e.1=QA cx.np o st.tm
 wr :∀q ∈ w,q.1 ∈ e.2
 sub :∀q ∈ w,q.1 ∈ e.1
 go :∀st',Look ops o st st'->Agree e.1 st.ob st'.ob->∀K:ASt->Prop,K (app o.dst v w st')->Ky cx ops o st' K
theorem U1 {ops:Array Oper} {o:Oper} {st st':ASt} (h:Look ops o st st') :∀x ∈ o.op.operands.toList,evO st'.tm x=evO st.tm x:=by
 intro x hx
 cases x with
 | tmp t=>exact h t (List.mem_append_left _ (List.mem_filterMap.2 ⟨.tmp t,hx,rfl⟩))
 | _=>rfl
theorem J0 {α β:Type} {f g:α->List β} :∀{l:List α},(∀x ∈ l,f x=g x)->l.flatMap f=l.flatMap g
 | [],_=>rfl
 | x::l,h=>by
  simp only[List.flatMap_cons]
  rw[h x (by simp),J0 fun y hy=>h y (by simp[hy])]
theorem Zs {np:Nat} {ops:Array Oper} {o:Oper} {st st':ASt} (h:Look ops o st st'):QA np o st'.tm=QA np o st.tm:=by
 unfold QA
 congr 1
 refine J0 fun x hx=>?_
 have hm:x ∈ o.op.operands.toList:=by
  unfold PP at hx
  split at hx
  all_goals first
   | (simp at hx;done)
   | exact hx
 rw[U1 h x hm]
theorem Look.trans {ops:Array Oper} {o:Oper} {a b c:ASt} (h:Look ops o a b) (k:Look ops o b c):Look ops o a c:=fun t ht=>(k t ht).trans (h t ht)
theorem Agree.trans {rs:List Nat} {a b c:List (Option OB)} (h:Agree rs a b) (k:Agree rs b c):Agree rs a c:=fun t ht=>(k t ht).trans (h t ht)
theorem Look.symm {ops:Array Oper} {o:Oper} {a b:ASt} (h:Look ops o a b):Look ops o b a:=fun t ht=>(h t ht).symm
theorem Agree.symm {rs:List Nat} {a b:List (Option OB)} (h:Agree rs a b):Agree rs b a:=fun t ht=>(h t ht).symm
theorem StpE.move {cx:Cx} {ops:Array Oper} {o:Oper} {st st2:ASt} {e:List Nat×List Nat} {v:AV} {w:W} (h:StpE cx ops o st e v w) (hl:Look ops o st st2) (ha:Agree e.1 st.ob st2.ob):StpE cx ops o st2 e v w:=
 ⟨by rw[Zs hl];exact h.ee,h.wr,h.sub,fun st' hl' ha' K hK=>h.go st' (hl.trans hl') (ha.trans ha') K hK⟩
theorem Xf {tm:List AV} {t:Nat} {a:AV} (h:tm.getD t .dead=a):tm.set t a=tm:=by
 by_cases ht:t<tm.length
 ·have:tm[t]=a:=by simpa[ht] using h
  rw[<- this];exact List.set_getElem_self ht
 exact List.set_eq_of_length_le (by omega)
theorem YL {ops:Array Oper} {o:Oper} {tm:List AV} {yes no:List AV->Prop} (h:I1 ops o tm yes no) :
  (yes tm/\∀tm' yes' no',(∀t ∈ o.looksAt ops,tm'.getD t .dead=tm.getD t .dead)->yes' tm'->I1 ops o tm' yes' no') \/
  (no tm/\∀tm' yes' no',(∀t ∈ o.looksAt ops,tm'.getD t .dead=tm.getD t .dead)->no' tm'->I1 ops o tm' yes' no'):=by
 unfold I1 at h ⊢
 cases hg:o.guard with
 | none=>simp only[hg] at h ⊢;exact .inl ⟨h,fun _ _ _ _ hy=>hy⟩
 | some g=>
  obtain⟨j,want⟩:=g
  simp only[hg] at h ⊢
  cases hd:(ops[j]?).bind (·.dst) with
  | none=>simp only[hd] at h
  | some t=>
   simp only[hd] at h ⊢
   have hm:t ∈ o.looksAt ops:=List.mem_append_right _ (by rw[hg];simp[hd])
   split at h
   ·rename_i b hb
    have hs :∀{tm':List AV},tm'.getD t .dead=tm.getD t .dead->tm'.set t (.b b)=tm':=fun hq=>Xf (hq.trans hb)
    have hs0:=hs (tm':=tm) rfl
    cases b<;>cases want<;>simp only[M5,FM] at h<;>rw[hs0] at h
    ·exact .inl ⟨h,fun tm' yes' no' hl hy=>by rw[hl t hm,hb];simp only[M5,FM];rw[hs (hl t hm)];exact hy⟩
    ·exact .inr ⟨h,fun tm' yes' no' hl hy=>by rw[hl t hm,hb];simp only[M5,FM];rw[hs (hl t hm)];exact hy⟩
    ·exact .inr ⟨h,fun tm' yes' no' hl hy=>by rw[hl t hm,hb];simp only[M5,FM];rw[hs (hl t hm)];exact hy⟩
    exact .inl ⟨h,fun tm' yes' no' hl hy=>by rw[hl t hm,hb];simp only[M5,FM];rw[hs (hl t hm)];exact hy⟩
   ·rename_i vs hb
    exact .inr ⟨h,fun tm' yes' no' hl hy=>by rw[hl t hm,hb];exact hy⟩
   exact h.elim
theorem Ze {cx:Cx} {ops:Array Oper} {o:Oper} {st:ASt} {K:ASt->Prop} (h:Ky cx ops o st K) :
  ∃v w,K (app o.dst v w st)/\StpE cx ops o st (QA cx.np o st.tm,X2 cx.np o st.tm (app o.dst v w st).tm) v w:=by
 obtain⟨tm,ob⟩:=st
 simp only[Ky] at h
 rcases YL h with ⟨h,hg⟩|⟨h,hg⟩
 ·obtain⟨v,w,h1,h2,hos,hap,h3,h4⟩:=ap h
  rw[Gn,On] at h1
  refine⟨v,w,h1,rfl,fun q hq=>?_,h3,fun st' hl ha K hK=>?_⟩
  ·simp only[X2]
   split
   ·rename_i hs
    split
    ·rename_i d hd
     split
     ·rename_i e
      have:=hos hs (by
       simp only[app,hd,JI,List.getD_eq_getElem?_getD] at e
       by_cases hlt:d<tm.length
       ·rw[List.getElem?_set_self (by simpa using hlt)] at e
        exact e
       rw[List.getElem?_eq_none (by simpa using hlt)] at e
       simp[AV.isOsl] at e)
      rw[this] at hq;simp at hq
     exact h3 q hq
    exact h3 q hq
   split
   ·split
    ·rename_i x hx;exact hap x hx q hq
    exact h3 q hq
   rename_i e;rw[h2 e] at hq;simp at hq
  obtain⟨tm',ob'⟩:=st'
  simp only[Ky]
  refine hg tm' _ _ hl (h4 _ ob' (U1 hl) ha _ ?_)
  rw[Gn,On]
  exact hK
 rw[Gn] at h
 refine⟨.tup [],[],h,rfl,fun q hq=>by simp at hq,fun q hq=>by simp at hq,fun st' hl ha K hK=>?_⟩
 obtain⟨tm',ob'⟩:=st'
 simp only[Ky]
 refine hg tm' _ _ hl ?_
 rw[Gn]
 exact hK
def Run (cx:Cx) (ops:Array Oper) (f:Nat->List Nat×List Nat) (fin:ASt):List Nat->ASt->Prop
 | [],st=>st=fin
 | i::l,st=>∃o v w,ops[i]?=some o/\StpE cx ops o st (f i) v w/\Run cx ops f fin l (app o.dst v w st)
structure Free (ops:Array Oper) (f:Nat->List Nat×List Nat) (j i:Nat):Prop where
 apart :∀a b,ops[j]?=some a->ops[i]?=some b->a.apart ops b=true
 conf:(∀r ∈ (f j).2,r ∉ (f i).1)/\∀r ∈ (f j).1,r ∉ (f i).2
theorem Re {tm:List AV} {d:Option Nat} {v:AV} {t:Nat} (h :∀x,d=some x->x≠t):(JI tm d v).getD t .dead=tm.getD t .dead:=by
 cases d with
 | none=>rfl
 | some x=>
  simp only[JI,List.getD_eq_getElem?_getD]
  rw[List.getElem?_set_ne (h x rfl)]
theorem Nx {r:Nat} :∀(w:W) (ob:List (Option OB)),(∀q ∈ w,q.1≠r)->(wrL ob w)[r]?=ob[r]?
 | [],ob,_=>rfl
 | (x,o)::w,ob,h=>by
  simp only[wrL]
  rw[Nx w _ fun q hq=>h q (by simp[hq]),List.getElem?_set_ne (h (x,o) (by simp))]
theorem MB {r:Nat} {o:Option OB} :∀(w:W) (ob:List (Option OB)),(∀q ∈ w,q.1≠r)->wrL (ob.set r o) w=(wrL ob w).set r o
 | [],ob,_=>rfl
 | (x,y)::w,ob,h=>by
  simp only[wrL]
  rw[List.set_comm _ _ (Ne.symm (h (x,y) (by simp))),MB w _ fun q hq=>h q (by simp[hq])]
theorem Ud :∀(w w':W) (ob:List (Option OB)),(∀q ∈ w,∀q' ∈ w',q.1≠q'.1)->wrL (wrL ob w) w'=wrL (wrL ob w') w
 | [],w',ob,_=>rfl
 | (x,y)::w,w',ob,h=>by
  simp only[wrL]
  rw[Ud w w' _ fun q hq q' hq'=>h q (by simp[hq]) q' hq',MB w' ob fun q' hq'=>Ne.symm (h (x,y) (by simp) q' hq')]
theorem Xq (tm:List AV) {x y:Option Nat} (v u:AV) (h :∀d,x=some d->y≠some d):JI (JI tm x v) y u=JI (JI tm y u) x v:=by
 cases x with
 | none=>rfl
 | some d=>
  cases y with
  | none=>rfl
  | some e=>
   have hne:d≠e:=fun he=>h d rfl (he ▸ rfl)
   simp only[JI]
   rw[List.set_comm _ _ hne]
theorem WH {cx:Cx} {ops:Array Oper} {f:Nat->List Nat×List Nat} {fin:ASt} {i:Nat} {post:List Nat} :∀(pre:List Nat) {st:ASt},(∀j ∈ pre,Free ops f j i)->Run cx ops f fin (pre++i::post) st->
  ∃o v w,ops[i]?=some o/\StpE cx ops o st (f i) v w/\Run cx ops f fin (pre++post) (app o.dst v w st)
 | [],st,_,h=>h
 | j::pre,st,hf,h=>by
  obtain⟨a,va,wa,ha,sa,h⟩:=h
  obtain⟨b,vb,wb,hb,sb,h⟩:=WH pre (fun k hk=>hf k (by simp[hk])) h
  have hF:=hf j (by simp)
  obtain⟨p1,p2,p3⟩:=Oper.apart_spec (hF.apart a b ha hb)
  have lb:Look ops b st (app a.dst va wa st):=fun t ht=>Re fun x hx e=>p1 x hx (e ▸ ht)
  have ab:Agree (f i).1 st.ob (app a.dst va wa st).ob:=fun r hr=>Nx wa _ fun q hq e=>hF.conf.1 q.1 (sa.wr q hq) (e ▸ hr)
  have sb0:StpE cx ops b st (f i) vb wb:=sb.move lb.symm ab.symm
  have la:Look ops a st (app b.dst vb wb st):=fun t ht=>Re fun x hx e=>p3 x hx (e ▸ ht)
  have aa:Agree (f j).1 st.ob (app b.dst vb wb st).ob:=fun r hr=>Nx wb _ fun q hq e=>hF.conf.2 r hr (e ▸ sb.wr q hq)
  have sa':StpE cx ops a (app b.dst vb wb st) (f j) va wa:=sa.move la aa
  refine⟨b,vb,wb,hb,sb0,a,va,wa,ha,sa',?_⟩
  have he:app a.dst va wa (app b.dst vb wb st)=app b.dst vb wb (app a.dst va wa st):=by
   simp only[app]
   rw[Xq st.tm va vb p2,Ud wa wb]
   intro q hq q' hq' e
   exact hF.conf.1 q.1 (sa.wr q hq) (e ▸ sb.sub q' hq')
  rw[he]
  exact h
end Go.AX
end
section
namespace Go.AX
theorem VC :∀(l:List Oper) (done:List Oper) (acc:List (List Nat)),acc.length=done.length->
  (∀p (hp:p<done.length),(CO done[p]).all (fun j=>Nat.blt j p)=true->∀k ∈ acc.getD (acc.length - 1 - p) [],k ∈ CO done[p] \/∃q ∈ CO done[p],k ∈ acc.getD (acc.length - 1 - q) [])->
  (Hn l acc).length=(done++l).length/\∀p (hp:p<(done++l).length),(CO (done++l)[p]).all (fun j=>Nat.blt j p)=true->∀k ∈ (Hn l acc).getD ((Hn l acc).length - 1 - p) [],k ∈ CO (done++l)[p] \/∃q ∈ CO (done++l)[p],k ∈ (Hn l acc).getD ((Hn l acc).length - 1 - q) []
 | [],done,acc,hlen,h=>by simpa[Hn,hlen] using h
 | o::l,done,acc,hlen,h=>by
  simp only[Hn]
  have:=VC l (done++[o]) (((CO o).flatMap fun j=>j::acc.getD (acc.length - 1 - j) [])::acc) (by simp[hlen]) ?_
  ·simpa using this
  intro p hp hb k hk
  simp only[X11,X12,X13,Nat.zero_add] at hp
  have old :∀q,q<acc.length->(((CO o).flatMap fun j=>j::acc.getD (acc.length - 1 - j) [])::acc).getD ((((CO o).flatMap fun j=>j::acc.getD (acc.length - 1 - j) [])::acc).length - 1 - q) []=acc.getD (acc.length - 1 - q) []:=by
   intro q hq
   have:(((CO o).flatMap fun j=>j::acc.getD (acc.length - 1 - j) [])::acc).length - 1 - q=(acc.length - 1 - q) + 1:=by simp only[X12];omega
   rw[this,List.getD_cons_succ]
  rcases Nat.lt_or_ge p done.length with hlt | hge
  ·rw[old p (by omega)] at hk
   have hb':(CO done[p]).all (fun j=>Nat.blt j p)=true:=by simpa[List.getElem_append_left hlt] using hb
   rw[List.getElem_append_left hlt]
   rcases h p hlt hb' k hk with h1 | ⟨q,h1,h2⟩
   ·exact .inl h1
   refine .inr ⟨q,h1,?_⟩
   have:=List.all_eq_true.1 hb' q h1
   have hqp:q<p:=by simpa using this
   rw[old q (by omega)]
   exact h2
  have hpe:p=done.length:=by omega
  subst hpe
  have hge':(done++[o])[done.length]'(by simp)=o:=by simp
  rw[hge'] at hb ⊢
  have:(((CO o).flatMap fun j=>j::acc.getD (acc.length - 1 - j) [])::acc).length - 1 - done.length=0:=by simp only[X12];omega
  rw[this,List.getD_cons_zero] at hk
  obtain⟨q,hq,hk⟩:=List.mem_flatMap.1 hk
  rcases List.mem_cons.1 hk with rfl | hk
  ·exact .inl hq
  refine .inr ⟨q,hq,?_⟩
  have:=List.all_eq_true.1 hb q hq
  have hqp:q<done.length:=by simpa using this
  rw[old q (by omega)]
  exact hk
theorem Ig {ops:Array Oper} {p:Nat} {o:Oper} (ho:ops[p]?=some o) (hb:(CO o).all (fun j=>Nat.blt j p)=true) {k:Nat} (hk:k ∈ Fg ops p) :
  k ∈ CO o \/∃q ∈ CO o,k ∈ Fg ops q:=by
 obtain⟨h1,h2⟩:=VC ops.toList [] [] rfl (fun p hp=>by simp at hp)
 obtain⟨hp,hpo⟩:=Array.getElem?_eq_some_iff.1 ho
 simp only[List.nil_append,Array.length_toList] at h1 h2
 have:=h2 p (by simpa using hp)
 simp only[Array.getElem_toList,hpo,h1] at this
 unfold Fg at hk ⊢
 exact this hb k hk
theorem Ri {ops:Array Oper} {f:Nat->List Nat×List Nat} {i:Nat} {fp wr:List Nat} :∀(n j:Nat),FG.conf ops i fp wr j ((List.range' j n).map f)=true->
  ∀k,j<=k->k<j + n->i ∈ Fg ops k\/((∀r ∈ wr,r ∉ (f k).1)/\∀r ∈ fp,r ∉ (f k).2)
 | 0,j,_,k,h1,h2=>by omega
 | n + 1,j,h,k,h1,h2=>by
  simp only[List.range'_succ,List.map_cons,FG.conf] at h
  rw[show f j=((f j).1,(f j).2) from rfl] at h
  simp only[X27,Bool.or_eq_true] at h
  rcases Nat.eq_or_lt_of_le h1 with rfl | hlt
  ·rcases h.1 with h0 | h0
   ·exact .inl (by simpa using h0)
   refine .inr ⟨fun r hr=>?_,fun r hr=>?_⟩
   ·have:=List.all_eq_true.1 h0.1 r hr
    simpa using this
   have:=List.all_eq_true.1 h0.2 r hr
   simpa using this
  exact Ri n (j + 1) h.2 k (by omega) (by omega)
theorem Jh {ops:Array Oper} {f:Nat->List Nat×List Nat} :∀(n i:Nat),FG ops i ((List.range' i n).map f)=true->
  ∀j k,i<=j->j<k->k<i + n->j ∈ Fg ops k\/((∀r ∈ (f j).2,r ∉ (f k).1)/\∀r ∈ (f j).1,r ∉ (f k).2)
 | 0,i,_,j,k,h1,h2,h3=>by omega
 | n + 1,i,h,j,k,h1,h2,h3=>by
  simp only[List.range'_succ,List.map_cons] at h
  rw[show f i=((f i).1,(f i).2) from rfl] at h
  simp only[FG,X27] at h
  rcases Nat.eq_or_lt_of_le h1 with rfl | hlt
  ·exact Ri n (i + 1) h.1 k (by omega) (by omega)
  exact Jh n (i + 1) h.2 j k (by omega) h2 (by omega)
theorem NJ {cx:Cx} {ops:Array Oper} :∀(os:List Oper) (i:Nat) (evs:List (List Nat×List Nat)) {st:ASt} {K:List (List Nat×List Nat)->ASt->Prop},
  (∀k (hk:k<os.length),ops[i + k]?=some os[k])->PT cx ops os evs st K->
  ∃(es:List (List Nat×List Nat)) (fin:ASt),es.length=os.length/\K (evs.reverse++es) fin/\∀f:Nat->List Nat×List Nat,(∀k (hk:k<es.length),f (i + k)=es[k])->Run cx ops f fin (List.range' i os.length) st
 | [],i,evs,st,K,_,h=>⟨[],st,rfl,by simpa[PT] using h,fun f _=>rfl⟩
 | o::os,i,evs,st,K,hi,h=>by
  have h:Ky cx ops o st fun st'=>PT cx ops os ((QA cx.np o st.tm,X2 cx.np o st.tm st'.tm)::evs) st' K:=by
   obtain⟨tm,ob⟩:=st;exact h
  obtain⟨v,w,h,hs⟩:=Ze h
  obtain⟨es,fin,h1,h2,h3⟩:=NJ os (i + 1) _ (fun k hk=>by
   have:=hi (k + 1) (by simpa using hk)
   rw[show i + 1 + k=i + (k + 1) by omega,this];rfl) h
  refine⟨(QA cx.np o st.tm,X2 cx.np o st.tm (app o.dst v w st).tm)::es,fin,by simp[h1],by simpa using h2,fun f hf=>?_⟩
  simp only[X12,List.range'_succ]
  refine⟨o,v,w,hi 0 (by simp),?_,h3 f fun k hk=>?_⟩
  ·have:=hf 0 (by simp)
   simp only[Nat.add_zero,List.getElem_cons_zero] at this
   rw[this];exact hs
  have:=hf (k + 1) (by simpa using hk)
  rw[show i + 1 + k=i + (k + 1) by omega,this];rfl
theorem Dp {ops:Array Oper} (h:HW ops=true) {i:Nat} {o:Oper} (ho:ops[i]?=some o) :
  (CO o).all (fun j=>Nat.blt j i)=true/\∀j,j<i->j ∈ Fg ops i \/∀q,ops[j]?=some q->q.apart ops o=true:=by
 obtain⟨hi,_⟩:=Array.getElem?_eq_some_iff.1 ho
 have h1:=List.all_eq_true.1 h i (List.mem_range.2 hi)
 simp only[ho,X27] at h1
 refine⟨h1.1.1,fun j hj=>?_⟩
 have h2:=List.all_eq_true.1 h1.2 j (List.mem_range.2 hj)
 simp only[Bool.or_eq_true] at h2
 rcases h2 with h2 | h2
 ·exact .inl (by simpa using h2)
 refine .inr fun q hq=>?_
 simpa[hq] using h2
theorem Ii {ops:Array Oper} (hd:HW ops=true) {listed:Nat->Prop} (hdown :∀i o,ops[i]?=some o->listed i->∀j ∈ CO o,listed j) :
  ∀(n i:Nat),i<n->i<ops.size->listed i->∀k ∈ Fg ops i,listed k
 | 0,i,h,_,_=>by omega
 | n + 1,i,h,hi,hl=>by
  intro k hk
  have ho:ops[i]?=some ops[i]:=by simp[hi]
  obtain⟨hb,_⟩:=Dp hd ho
  rcases Ig ho hb hk with h1 | ⟨q,h1,h2⟩
  ·exact hdown i _ ho hl k h1
  have:=List.all_eq_true.1 hb q h1
  have hq:q<i:=by simpa using this
  exact Ii hd hdown n q (by omega) (by omega) (hdown i _ ho hl q h1) k h2
theorem IT {ops:Array Oper} {listed:Array Bool} {i:Nat} (h:i ∈ Region.ready .any ops listed) :
  i<ops.size/\listed.getD i true=false/\∃o,ops[i]?=some o/\∀j ∈ CO o,listed.getD j false=true:=by
 unfold Region.ready at h
 rw[List.mem_filter,List.mem_range] at h
 obtain⟨hi,h⟩:=h
 have ho:ops[i]?=some ops[i]:=by simp[hi]
 simp only[X27,ho,Option.map_some,Option.getD_some] at h
 refine⟨hi,by simpa using h.1,_,ho,fun j hj=>?_⟩
 unfold CO at hj
 obtain⟨e,he,rfl⟩:=List.mem_map.1 hj
 obtain⟨he1,he2⟩:=List.mem_filter.1 he
 have:=Array.all_eq_true'.1 h.2 e (by simpa using he1)
 simpa[he2] using this
theorem mem_ready {ops:Array Oper} {listed:Array Bool} {i:Nat} {o:Oper} (ho:ops[i]?=some o) (hl:listed.getD i true=false) (hp :∀j ∈ CO o,listed.getD j false=true):i ∈ Region.ready .any ops listed:=by
 obtain⟨hi,_⟩:=Array.getElem?_eq_some_iff.1 ho
 unfold Region.ready
 rw[List.mem_filter,List.mem_range]
 refine⟨hi,?_⟩
 simp only[X27,ho,Option.map_some,Option.getD_some]
 refine⟨by simp[hl],Array.all_eq_true'.2 fun e he=>?_⟩
 cases hb:Region.binds .any e with
 | false=>rfl
 | true=>
  simp only[Bool.not_true,Bool.false_or]
  exact hp e.on (List.mem_map.2 ⟨e,List.mem_filter.2 ⟨by simpa using he,hb⟩,rfl⟩)
section
variable {P:Program} {E:Env} {tr:Trk}
theorem RJ {cx:Cx} (hT:TabOk P cx.T) (hC:OU E.wl P cx) {ops:Array Oper} {f:Nat->List Nat×List Nat} {fin:ASt} {Q:Exit->Act->World->Prop}
  (hd:HW ops=true) (hc :∀j k,j<k->k<ops.size->j ∈ Fg ops k\/((∀r ∈ (f j).2,r ∉ (f k).1)/\∀r ∈ (f j).1,r ∉ (f k).2))
  (hQ :∀a w,RR E tr fin a w->Q .normal a w) :∀(fuel:Nat) (L:List Nat) (listed:Array Bool) {st:ASt} {a:Act} {w:World},
  L.length=fuel->listed.size=ops.size->L.Pairwise (·<·)->(∀k,k ∈ L↔k<ops.size/\listed.getD k true=false)->(∀i o,ops[i]?=some o->listed.getD i false=true->∀j ∈ CO o,listed.getD j false=true)->
  Run cx ops f fin L st->RR E tr st a w->wpAny P .any ops Q fuel listed a w
 | 0,L,listed,st,a,w,hL,hsz,hp,hm,hdown,hrun,hR=>by
  have:L=[]:=List.length_eq_zero_iff.1 hL
  subst this
  refine⟨?_,hQ _ _ (by rw[<- (show st=fin from hrun)];exact hR)⟩
  cases hr:Region.ready .any ops listed with
  | nil=>rfl
  | cons i l=>
   obtain⟨h1,h2,_⟩:=IT (i:=i) (by rw[hr];simp)
   exact absurd ((hm i).2 ⟨h1,h2⟩) (by simp)
 | fuel + 1,L,listed,st,a,w,hL,hsz,hp,hm,hdown,hrun,hR=>by
  have gd :∀k,k<ops.size->listed.getD k true=listed.getD k false:=fun k hk=>by simp[Array.getD,hsz,hk]
  refine⟨fun hr=>?_,fun i hi=>?_⟩
  ·exfalso
   cases L with
   | nil=>simp at hL
   | cons i l=>
    obtain⟨h1,h2⟩:=(hm i).1 (by simp)
    have ho:ops[i]?=some ops[i]:=by simp[h1]
    have:i ∈ Region.ready .any ops listed:=mem_ready ho h2 fun j hj=>by
     obtain⟨hb,_⟩:=Dp hd ho
     have:=List.all_eq_true.1 hb j hj
     have hji:j<i:=by simpa using this
     cases hx:listed.getD j false with
     | true=>rfl
     | false=>
      have hjL:=(hm j).2 ⟨by omega,by rw[gd j (by omega)];exact hx⟩
      rcases List.mem_cons.1 hjL with e | e
      ·omega
      have:=(List.pairwise_cons.1 hp).1 j e
      omega
    rw[hr] at this
    simp at this
  obtain⟨h1,h2,o,ho,h3⟩:=IT hi
  have hiL:=(hm i).2 ⟨h1,h2⟩
  obtain⟨pre,post,rfl⟩:=List.append_of_mem hiL
  obtain⟨hp1,hp2,hp3⟩:=List.pairwise_append.1 hp
  have hfree :∀j ∈ pre,Free ops f j i:=by
   intro j hj
   have hji:j<i:=hp3 j hj i (by simp)
   have hnl:¬ listed.getD j false=true:=by
    obtain⟨q1,q2⟩:=(hm j).1 (by simp[hj])
    rw[gd j q1] at q2
    rw[q2];simp
   have hna:j ∉ Fg ops i:=by
    intro hja
    obtain⟨hb,_⟩:=Dp hd ho
    rcases Ig ho hb hja with e | ⟨q,e1,e2⟩
    ·exact hnl (h3 j e)
    have:=List.all_eq_true.1 hb q e1
    have hq:q<i:=by simpa using this
    exact hnl (Ii hd (listed:=fun k=>listed.getD k false=true) hdown (q + 1) q (by omega) (by omega) (h3 q e1) j e2)
   refine⟨fun x y hx hy=>?_,?_⟩
   ·rw[ho] at hy
    cases hy
    exact ((Dp hd ho).2 j hji).resolve_left hna x hx
   exact (hc j i hji h1).resolve_left hna
  obtain⟨o',v,wr,ho',hs,hrun'⟩:=WH pre hfree hrun
  rw[ho] at ho'
  cases ho'
  have hstep:Ky cx ops o st fun st'=>Run cx ops f fin (pre++post) st':=hs.go st (fun _ _=>rfl) (fun _ _=>rfl) _ hrun'
  have hnext :∀st' a' w',Run cx ops f fin (pre++post) st'->RR E tr st' a' w'->wpAny P .any ops Q fuel (listed.setIfInBounds i true) a' w':=by
   intro st' a' w' hr' hR'
   have gs :∀k b,(listed.setIfInBounds i true).getD k b=if k=i then true else listed.getD k b:=by
    intro k b
    by_cases hk:k=i
    ·subst hk;simp[Array.getD,hsz,h1]
    have:¬ i=k:=fun e=>hk e.symm
    simp only[hk,if_false,Array.getD,Array.size_setIfInBounds]
    split
    ·rename_i hlt
     exact Array.getElem_setIfInBounds_ne hlt this
    rfl
   refine RJ hT hC hd hc hQ fuel (pre++post) (listed.setIfInBounds i true) (by simp at hL ⊢;omega) (by simpa using hsz) ?_ (fun k=>?_) ?_ hr' hR'
   ·exact List.pairwise_append.2 ⟨hp1,(List.pairwise_cons.1 hp2).2,fun x hx y hy=>hp3 x hx y (by simp[hy])⟩
   ·rw[gs]
    have:=hm k
    by_cases hk:k=i
    ·subst hk
     simp only[if_true]
     constructor
     ·intro hh
      rcases X23.1 hh with hh | hh
      ·exact absurd (hp3 k hh k (by simp)) (by omega)
      exact absurd ((List.pairwise_cons.1 hp2).1 k hh) (by omega)
     intro hh;simp at hh
    simp only[hk,if_false]
    rw[<- this]
    simp[hk]
   intro j q hq hl p hpq
   rw[gs] at hl ⊢
   split
   ·rfl
   by_cases hj:j=i
   ·subst hj
    rw[ho] at hq;cases hq
    exact h3 p hpq
   simp only[hj,if_false] at hl
   exact hdown j q hq hl p hpq
  unfold wpOp
  simp only[ho]
  have:=PZ (Q:=Q) hT hC hstep hR (next:=wpAny P .any ops Q fuel (listed.setIfInBounds i true)) hnext
  split
  ·rename_i hw;rw[if_pos hw] at this;exact .inl this
  rename_i hw;rw[if_neg hw] at this;exact this
theorem O8 {cx:Cx} (hT:TabOk P cx.T) (hC:OU E.wl P cx) {ops:Array Oper} {f:Nat->List Nat×List Nat} {fin:ASt} {Q:Exit->Act->World->Prop} {t:Nat} (ht:t + 1=ops.size) (hanc :∀j,j<t->j ∈ Fg ops t)
  (hd:HW ops=true) (hc :∀j k,j<k->k<t->j ∈ Fg ops k\/((∀r ∈ (f j).2,r ∉ (f k).1)/\∀r ∈ (f j).1,r ∉ (f k).2))
  (hQ :∀a w,RR E tr fin a w->wpOp P ops Q t (Q .normal) a w) :∀(fuel:Nat) (L:List Nat) (listed:Array Bool) {st:ASt} {a:Act} {w:World},
  L.length=fuel->listed.size=ops.size->L.Pairwise (·<·)->listed.getD t true=false->(∀k,k ∈ L↔k<t/\listed.getD k true=false)->(∀i o,ops[i]?=some o->listed.getD i false=true->∀j ∈ CO o,listed.getD j false=true)->
  Run cx ops f fin L st->RR E tr st a w->wpAny P .any ops Q (fuel + 1) listed a w
 | 0,L,listed,st,a,w,hL,hsz,hp,htl,hm,hdown,hrun,hR=>by
  have:L=[]:=List.length_eq_zero_iff.1 hL
  subst this
  have gd :∀k,k<ops.size->listed.getD k true=listed.getD k false:=fun k hk=>by simp[Array.getD,hsz,hk]
  have hall :∀k,k<t->listed.getD k true=true:=by
   intro k hk
   cases hx:listed.getD k true with
   | true=>rfl
   | false=>exact absurd ((hm k).2 ⟨hk,hx⟩) (by simp)
  have hot:ops[t]?=some (ops[t]'(by omega)):=by simp[show t<ops.size by omega]
  have hpt :∀j ∈ CO (ops[t]'(by omega)),listed.getD j false=true:=by
   intro j hj
   obtain⟨hb,_⟩:=Dp hd hot
   have:=List.all_eq_true.1 hb j hj
   have hji:j<t:=by simpa using this
   rw[<- gd j (by omega)];exact hall j hji
  have htr:t ∈ Region.ready .any ops listed:=mem_ready hot htl hpt
  refine⟨fun hr=>?_,fun i hi=>?_⟩
  ·rw[hr] at htr;simp at htr
  obtain⟨h1,h2,_⟩:=IT hi
  have hit:i=t:=by
   refine Nat.le_antisymm (by omega) (Nat.le_of_not_lt fun hlt=>?_)
   rw[hall i hlt] at h2
   simp at h2
  subst hit
  refine wpOp_mono (fun a' w' hq=>⟨?_,hq⟩) (hQ a w (by rw[<- (show st=fin from hrun)];exact hR))
  cases hr:Region.ready .any ops (listed.setIfInBounds i true) with
  | nil=>rfl
  | cons k l=>
   exfalso
   obtain⟨h3,h4,_⟩:=IT (i:=k) (by rw[hr];simp)
   by_cases hk:k=i
   ·subst hk;simp[Array.getD,hsz,h1] at h4
   have h5:(listed.setIfInBounds i true).getD k true=listed.getD k true:=by
    have:¬ i=k:=fun e=>hk e.symm
    simp only[Array.getD,Array.size_setIfInBounds]
    split
    ·rename_i hlt
     exact Array.getElem_setIfInBounds_ne hlt this
    rfl
   rw[h5,hall k (by omega)] at h4
   simp at h4
 | fuel + 1,L,listed,st,a,w,hL,hsz,hp,htl,hm,hdown,hrun,hR=>by
  have gd :∀k,k<ops.size->listed.getD k true=listed.getD k false:=fun k hk=>by simp[Array.getD,hsz,hk]
  refine⟨fun hr=>?_,fun i hi=>?_⟩
  ·exfalso
   cases L with
   | nil=>simp at hL
   | cons i l=>
    obtain⟨h1',h2⟩:=(hm i).1 (by simp)
    have h1:i<ops.size:=by omega
    have ho:ops[i]?=some ops[i]:=by simp[h1]
    have:i ∈ Region.ready .any ops listed:=mem_ready ho h2 fun j hj=>by
     obtain⟨hb,_⟩:=Dp hd ho
     have:=List.all_eq_true.1 hb j hj
     have hji:j<i:=by simpa using this
     cases hx:listed.getD j false with
     | true=>rfl
     | false=>
      have hjL:=(hm j).2 ⟨by omega,by rw[gd j (by omega)];exact hx⟩
      rcases List.mem_cons.1 hjL with e | e
      ·omega
      have:=(List.pairwise_cons.1 hp).1 j e
      omega
    rw[hr] at this
    simp at this
  obtain⟨h1,h2,o,ho,h3⟩:=IT hi
  have hit:i≠t:=by
   intro e
   subst e
   cases L with
   | nil=>simp at hL
   | cons j l=>
    obtain⟨q1,q2⟩:=(hm j).1 (by simp)
    have hja:=hanc j q1
    obtain⟨hb,_⟩:=Dp hd ho
    rw[gd j (by omega)] at q2
    rcases Ig ho hb hja with e | ⟨q,e1,e2⟩
    ·rw[h3 j e] at q2;simp at q2
    have:=List.all_eq_true.1 hb q e1
    have hq:q<i:=by simpa using this
    have:=Ii hd (listed:=fun k=>listed.getD k false=true) hdown (q + 1) q (by omega) (by omega) (h3 q e1) j e2
    rw[this] at q2;simp at q2
  have hlt:i<t:=by omega
  have hiL:=(hm i).2 ⟨hlt,h2⟩
  obtain⟨pre,post,rfl⟩:=List.append_of_mem hiL
  obtain⟨hp1,hp2,hp3⟩:=List.pairwise_append.1 hp
  have hfree :∀j ∈ pre,Free ops f j i:=by
   intro j hj
   have hji:j<i:=hp3 j hj i (by simp)
   have hnl:¬ listed.getD j false=true:=by
    obtain⟨q1,q2⟩:=(hm j).1 (by simp[hj])
    rw[gd j (by omega)] at q2
    rw[q2];simp
   have hna:j ∉ Fg ops i:=by
    intro hja
    obtain⟨hb,_⟩:=Dp hd ho
    rcases Ig ho hb hja with e | ⟨q,e1,e2⟩
    ·exact hnl (h3 j e)
    have:=List.all_eq_true.1 hb q e1
    have hq:q<i:=by simpa using this
    exact hnl (Ii hd (listed:=fun k=>listed.getD k false=true) hdown (q + 1) q (by omega) (by omega) (h3 q e1) j e2)
   refine⟨fun x y hx hy=>?_,?_⟩
   ·rw[ho] at hy
    cases hy
    exact ((Dp hd ho).2 j hji).resolve_left hna x hx
   exact (hc j i hji hlt).resolve_left hna
  obtain⟨o',v,wr,ho',hs,hrun'⟩:=WH pre hfree hrun
  rw[ho] at ho'
  cases ho'
  have hstep:Ky cx ops o st fun st'=>Run cx ops f fin (pre++post) st':=hs.go st (fun _ _=>rfl) (fun _ _=>rfl) _ hrun'
  have hnext :∀st' a' w',Run cx ops f fin (pre++post) st'->RR E tr st' a' w'->wpAny P .any ops Q (fuel + 1) (listed.setIfInBounds i true) a' w':=by
   intro st' a' w' hr' hR'
   have gs :∀k b,(listed.setIfInBounds i true).getD k b=if k=i then true else listed.getD k b:=by
    intro k b
    by_cases hk:k=i
    ·subst hk;simp[Array.getD,hsz,h1]
    have:¬ i=k:=fun e=>hk e.symm
    simp only[hk,if_false,Array.getD,Array.size_setIfInBounds]
    split
    ·rename_i hlt
     exact Array.getElem_setIfInBounds_ne hlt this
    rfl
   refine O8 hT hC ht hanc hd hc hQ fuel (pre++post) (listed.setIfInBounds i true) (by simp at hL ⊢;omega) (by simpa using hsz) ?_ (by rw[gs,if_neg (Ne.symm hit)];exact htl) (fun k=>?_) ?_ hr' hR'
   ·exact List.pairwise_append.2 ⟨hp1,(List.pairwise_cons.1 hp2).2,fun x hx y hy=>hp3 x hx y (by simp[hy])⟩
   ·rw[gs]
    have:=hm k
    by_cases hk:k=i
    ·subst hk
     simp only[if_true]
     constructor
     ·intro hh
      rcases X23.1 hh with hh | hh
      ·exact absurd (hp3 k hh k (by simp)) (by omega)
      exact absurd ((List.pairwise_cons.1 hp2).1 k hh) (by omega)
     intro hh;simp at hh
    simp only[hk,if_false]
    rw[<- this]
    simp[hk]
   intro j q hq hl p hpq
   rw[gs] at hl ⊢
   split
   ·rfl
   by_cases hj:j=i
   ·subst hj
    rw[ho] at hq;cases hq
    exact h3 p hpq
   simp only[hj,if_false] at hl
   exact hdown j q hq hl p hpq
  unfold wpOp
  simp only[ho]
  have:=PZ (Q:=Q) hT hC hstep hR (next:=wpAny P .any ops Q (fuel + 1) (listed.setIfInBounds i true)) hnext
  split
  ·rename_i hw;rw[if_pos hw] at this;exact .inl this
  rename_i hw;rw[if_neg hw] at this;exact this
theorem Ql {wl:WL} {cx:Cx} (hT:TabOk P cx.T) (hC:OU wl P cx) (hm:P.follows .mixedOrders=true) :∀(E:Env),E.wl=wl->∀(tr:Trk) (id:Nat) (ops:Array Oper) (st:ASt) (a:Act) (w:World) (K:ASt->Prop) (Q:Exit->Act->World->Prop),tr.np=cx.np->
 HW ops=true->PT cx ops ops.toList [] st (fun evs st'=>FG ops 0 evs=true/\K st')->RR E tr st a w->(∀st' a' w',K st'->RR E tr st' a' w'->Q .normal a' w')->(Code.region id ops true).wp P Q a w:=by
 intro E hwl tr id ops st a w K Q hnp hd h hR hQ
 subst hwl
 obtain⟨es,fin,hlen,⟨hconf,hK⟩,hrun⟩:=NJ ops.toList 0 [] (fun k hk=>by simp at hk;simp[hk]) h
 have hrun:=hrun (fun k=>es.getD k default) fun k hk=>by simp[hk]
 simp only[Array.length_toList] at hlen hrun
 have hes:es=(List.range' 0 ops.size).map fun k=>es.getD k default:=by
  apply List.ext_getElem
  ·simp[hlen]
  intro k h1 h2;simp[h1]
 rw[List.reverse_nil,List.nil_append,hes] at hconf
 have hspec:=Jh ops.size 0 hconf
 refine wp_region_any hm ?_
 obtain⟨S,φ,hR1,htr⟩:=hR
 obtain⟨md,kd⟩:=hR1.mem.drew
 have hR':RR E tr st a w.drew:=⟨S,φ,⟨hR1.sz,fun i hi=>⟨kd.rep (hR1.tm i hi).2 (hR1.tm i hi).1,(hR1.tm i hi).2⟩,hR1.df,md⟩,htr⟩
 refine RJ hT hC hd (f:=fun k=>es.getD k default) (fun j k h1 h2=>hspec j k (by omega) h1 (by omega)) (fun a w hR=>hQ fin a w hK hR) ops.size (List.range' 0 ops.size) _ (by simp) (by simp) List.pairwise_lt_range' (fun k=>?_) ?_ hrun hR'
 ·simp[Array.getD]
 intro i o ho hl
 simp[Array.getD] at hl
theorem Rq :∀(l:List Oper),(Ji l).length=l.length - 1/\∀k (hk:k<(Ji l).length),∃hk':k<l.length,(Ji l)[k]=l[k]
 | []=>⟨rfl,fun k hk=>by simp[Ji] at hk⟩
 | [_]=>⟨rfl,fun k hk=>by simp[Ji] at hk⟩
 | o::p::l=>by
  obtain⟨h1,h2⟩:=Rq (p::l)
  refine⟨by simp only[Ji,X12] at *;omega,fun k hk=>?_⟩
  cases k with
  | zero=>exact⟨by simp,rfl⟩
  | succ k=>
   obtain⟨q1,q2⟩:=h2 k (by simpa[Ji] using hk)
   exact⟨by simpa using q1,by simpa[Ji] using q2⟩
theorem Rb {cx:Cx} {ops:Array Oper} {st:ASt} {K:ASt->Prop} :∀{l:List Oper},YV cx ops st K l->∃o,l[l.length - 1]?=some o/\WJ cx ops o st K
 | [],h=>h.elim
 | [o],h=>⟨o,rfl,h⟩
 | _::p::l,h=>by
  obtain⟨o,h1,h2⟩:=Rb (l:=p::l) h
  exact⟨o,by simpa using h1,h2⟩
theorem MC {wl:WL} {cx:Cx} (hT:TabOk P cx.T) (hC:OU wl P cx) (hm:P.follows .mixedOrders=true):Sz wl P cx:=by
 intro E hwl tr id ops st a w K Q hnp h hR hQ
 rcases h with ⟨hd,h⟩|⟨⟨hd,ht⟩,h⟩
 ·exact Ql hT hC hm E hwl tr id ops st a w K Q hnp hd h hR hQ
 subst hwl
 simp only[Xx,X27,List.all_eq_true,List.mem_range] at ht
 obtain⟨ht0,hanc⟩:=ht
 have hpos:0<ops.size:=X29 ht0
 obtain⟨il,ig⟩:=Rq ops.toList
 simp only[Array.length_toList] at il
 obtain⟨es,fin,hlen,⟨hconf,hK⟩,hrun⟩:=NJ (Ji ops.toList) 0 [] (fun k hk=>by
  obtain⟨q1,q2⟩:=ig k hk
  rw[q2]
  simp only[Array.length_toList] at q1
  simp[q1]) h
 have hrun:=hrun (fun k=>es.getD k default) fun k hk=>by simp[hk]
 rw[il] at hlen hrun
 have hes:es=(List.range' 0 (ops.size - 1)).map fun k=>es.getD k default:=by
  apply List.ext_getElem
  ·simp[hlen]
  intro k h1 h2;simp[h1]
 rw[List.reverse_nil,List.nil_append,hes] at hconf
 have hspec:=Jh (ops.size - 1) 0 hconf
 obtain⟨o,ho,hlast⟩:=Rb hK
 simp only[Array.length_toList] at ho
 have ho:ops[ops.size - 1]?=some o:=by simpa using ho
 refine wp_region_any hm ?_
 obtain⟨S,φ,hR1,htr⟩:=hR
 obtain⟨md,kd⟩:=hR1.mem.drew
 have hR':RR E tr st a w.drew:=⟨S,φ,⟨hR1.sz,fun i hi=>⟨kd.rep (hR1.tm i hi).2 (hR1.tm i hi).1,(hR1.tm i hi).2⟩,hR1.df,md⟩,htr⟩
 have key:=O8 (t:=ops.size - 1) (Q:=Q) (fin:=fin) hT hC (by omega) (fun j hj=>by simpa using hanc j hj) hd (f:=fun k=>es.getD k default) (fun j k h1 h2=>hspec j k (by omega) h1 (by omega)) (fun a w hR=>?_) (ops.size - 1) (List.range' 0 (ops.size - 1)) (Array.replicate ops.size false) (by simp) (by simp) List.pairwise_lt_range' (by simp[Array.getD,show ops.size - 1<ops.size by omega]) (fun k=>?_) (fun i o ho hl=>?_) hrun hR'
 ·rw[show ops.size - 1 + 1=ops.size by omega] at key
  exact key
 ·unfold wpOp
  simp only[ho]
  have:=OG (Q:=Q) hT hC hnp hlast hR (next:=Q .normal) hQ
  split
  ·rename_i hw;rw[if_pos hw] at this;exact .inl this
  rename_i hw;rw[if_neg hw] at this;exact this
 ·rw[List.mem_range'_1]
  constructor
  ·rintro⟨_,hi⟩
   exact⟨by omega,by simp[Array.getD,show k<ops.size by omega]⟩
  rintro⟨hi,_⟩
  exact⟨by omega,by omega⟩
 simp[Array.getD] at hl
end
end Go.AX
end
section
namespace Go.AX
def ZQ:D->Value->Bool
 | .val (.int k n),.int k' n'=>decide (k=k')&&decide (n=n')
 | .val (.bool b),.bool b'=>b==b'
 | .val (.string s),.string s'=>Nat.beq s.data.toList.length 0&&Nat.beq s'.data.toList.length 0
 | .val (.pointer none),.pointer none=>true
 | .val .nilFunc,.nilFunc=>true
 | .val .nilIface,.nilIface=>true
 | .val (.map none),.map none=>true
 | .nil _,.slice none 0 0=>true
 | _,_=>false
theorem YU {d:D} {v:Value} (h:ZQ d v=true):IB d v:=by
 unfold ZQ at h
 split at h
 ·simp only[X27,decide_eq_true_eq] at h
  obtain⟨rfl,rfl⟩:=h
  exact⟨rfl,rfl⟩
 ·have h:=eq_of_beq h
  subst h
  exact⟨rfl,rfl⟩
 ·rename_i s s'
  simp only[X27,BW,List.length_eq_zero_iff] at h
  have e:s=s':=by
   cases s;cases s'
   congr
   apply Array.toList_inj.1
   rw[h.1,h.2]
  subst e
  exact⟨rfl,rfl⟩
 all_goals first | exact⟨rfl,rfl⟩|rfl | simp at h
def NG:List D->List Value->Bool
 | [],[]=>true
 | d::ds,v::vs=>ZQ d v&&NG ds vs
 | _,_=>false
theorem Rr :∀{ds:List D} {vs:List Value},NG ds vs=true->ds.length=vs.length/\∀j (hj:j<ds.length) v,vs[j]?=some v->IB ds[j] v
 | [],[],_=>⟨rfl,fun j hj=>by simp at hj⟩
 | d::ds,v::vs,h=>by
  simp only[NG,X27] at h
  obtain⟨h1,h2⟩:=Rr h.2
  refine⟨by simp[h1],fun j hj u hu=>?_⟩
  cases j with
  | zero=>
   simp only[List.getElem?_cons_zero,X24] at hu
   subst hu
   exact YU h.1
  | succ j=>exact h2 j (by simpa using hj) u (by simpa using hu)
 | [],_::_,h=>by simp[NG] at h
 | _::_,[],h=>by simp[NG] at h
def fieldsB (P:Program):List Field->List (Nat×Nat×Nat)->Bool
 | [],[]=>true
 | f::fs,(o,s,t)::l=>Nat.beq f.offset o&&Nat.beq f.type t&&(match P.info? f.type with
  | some i=>Nat.beq i.size s
  | none => false) && !(f.name == "_") && fieldsB P fs l
 | _,_=>false
theorem QY {P:Program} :∀{F:List Field} {l:List (Nat×Nat×Nat)},fieldsB P F l=true->
  F.map (fun f => (f.offset, (P.info? f.type).map (·.size), f.type)) = l.map (fun x => (x.1, some x.2.1, x.2.2)) ∧ ∀ f ∈ F, f.name ≠ "_"
 | [],[],_=>⟨rfl,fun f hf=>by simp at hf⟩
 | f::fs,(o,s,t)::l,h=>by
  simp only[fieldsB,X27,BW] at h
  obtain⟨⟨⟨⟨h1,h2⟩,h3⟩,h4⟩,h5⟩:=h
  obtain⟨g1,g2⟩:=QY h5
  refine⟨?_,fun g hg=>?_⟩
  ·simp only[List.map_cons,g1,List.cons.injEq,X26,and_true]
   refine⟨h1,?_,h2⟩
   split at h3
   ·rename_i i hi
    rw[hi]
    simpa using h3
   simp at h3
  rcases List.mem_cons.1 hg with rfl | hg
  ·simpa using h4
  exact g2 g hg
 | [],_::_,h=>by simp[fieldsB] at h
 | _::_,[],h=>by simp[fieldsB] at h
def Yw (P:Program) (t:Nat) (k:TK):Bool:=match k,P.underlying t with
 | .bool,some .bool=>true
 | .int k,some (.int k')=>decide (k'=k)
 | .str,some .string=>true
 | .ptr,some (.pointer _)=>true
 | .fn,some (.func _ _ _)=>true
 | .slice e,some (.slice e')=>Nat.beq e' e
 | .arr n e,some (.array n' e')=>Nat.beq n' n&&Nat.beq e' e
 | .map k e,some (.map k' e')=>Nat.beq k' k&&Nat.beq e' e
 | .struct fs,some (.struct F)=>!P.stoodInHeld t&&!P.eqGuardType P.depth t&&fieldsB P F.toList fs
 | .other,_=>true
 | _,_=>false
theorem Y2 {P:Program} {t:Nat} {k:TK} (h:Yw P t k=true):KindOk P t k:=by
 unfold Yw at h
 split at h<;>simp only[KindOk]
 ·assumption
 ·rename_i hu;rw[hu,of_decide_eq_true h]
 ·assumption
 ·exact⟨_,by assumption⟩
 ·exact⟨_,_,_,by assumption⟩
 ·rename_i hu;rw[hu,X30 h]
 ·rename_i hu
  simp only[X27,BW] at h
  rw[hu,h.1,h.2]
 ·rename_i hu
  simp only[X27,BW] at h
  rw[hu,h.1,h.2]
 ·rename_i fs F hu
  simp only[X27,Bool.not_eq_true'] at h
  exact⟨h.1.1,h.1.2,F,hu,QY h.2⟩
 simp at h
def ak (k:TK) (z:Value):Bool:=match z,k.cls with
 | .agg _,some false=>false
 | .agg _,_=>true
 | _,some true=>false
 | _,_=>true
def tiB (P:Program) (t:Nat) (ti:TI):Bool:=match P.info? t with
 | some i=>(match i.zero with
  | some z=>Nat.beq i.size ti.size&&Nat.beq i.bytes ti.bytes&&Nat.beq ti.zero.length ti.size&&NG ti.zero z.cells.toList&&Yw P t ti.kind&&ak ti.kind z
  | none=>false)
 | none=>false
theorem bQ {P:Program} {t:Nat} {ti:TI} (h:tiB P t ti=true):TiOk P t ti:=by
 unfold tiB at h
 split at h
 ·rename_i i hi
  split at h
  ·rename_i z hz
   simp only[X27,BW] at h
   obtain⟨⟨⟨⟨⟨h1,h2⟩,h3⟩,h4⟩,h5⟩,h6⟩:=h
   obtain⟨g1,g2⟩:=Rr h4
   exact⟨⟨i,z,hi,h1,h2,hz,by rw[<- Array.length_toList,<- g1,h3],h3,fun j hj v hv=>g2 j hj v (by simpa using hv)⟩,Y2 h5,fun i' z' hi' hz'=>by
    rw[hi] at hi'
    obtain rfl:=X25 hi'
    rw[hz] at hz'
    obtain rfl:=X25 hz'
    refine⟨fun hc=>?_,fun hc cs e=>?_⟩
    ·cases z<;>first | exact⟨_,rfl⟩|(simp[ak,hc] at h6)
    subst e;simp[ak,hc] at h6⟩
  simp at h
 simp at h
def Zp (P:Program):TT->Bool
 | .tip=>true
 | .node k v l r=>(v.kind.cls.isNone || tiB P k v)&&Zp P l&&Zp P r
theorem Ss {P:Program} :∀{T:TT},Zp P T=true->TabOk P T
 | .tip,_=>fun t=>.inl rfl
 | .node k v l r,h=>fun t=>by
  simp only[Zp,X27,Bool.or_eq_true] at h
  simp only[TT.get]
  cases hb:Nat.beq t k with
  | true=>
   have:=X30 hb
   subst this
   simp only
   rcases h.1.1 with h | h
   ·exact .inl (by simpa using h)
   exact .inr (bQ h)
  | false=>
   simp only
   cases Nat.blt t k with
   | true=>exact Ss h.1.2 t
   | false=>exact Ss h.2 t
end Go.AX
end
section
namespace Go.AX
abbrev mcx (wl:WL) (P:Program) (T:TT) (keep:FuncId->List Bool) (inl:FuncId->Bool) (ex np:Nat):Cx:=⟨T,np,CallsOK wl P,keep,wl.G,inl,InlOK wl P,ex⟩
theorem aP {wl:WL} {P:Program} {T:TT} (hT:TabOk P T) (hm:P.follows .mixedOrders=true) (keep:FuncId->List Bool) (inl:FuncId->Bool) (ex:Nat) {f:FuncId} {fn:Func} {args:List AV} {objs:List OB} {res:AV} {objs':List OB}
  (hf : P.funcs[f]? = some fn) (hn : (fn.name == "runtime.NumGoroutine") = false) (h : Ye (mcx wl P T keep inl ex objs.length) fn args objs fun r o => r = res ∧ o = objs') : CallsOK wl P f args objs res objs' :=
 Va (cx:=mcx wl P T keep inl ex objs.length) hT ⟨rfl,fun _ _ _ _ _ h=>h,fun _ _ _ _ h=>h⟩ (MC hT ⟨rfl,fun _ _ _ _ _ h=>h,fun _ _ _ _ h=>h⟩ hm) hf (by simpa using hn) h
theorem aV {wl:WL} {P:Program} {T:TT} (hT:TabOk P T) (hm:P.follows .mixedOrders=true) (keep:FuncId->List Bool) (inl:FuncId->Bool) (np:Nat) {f:FuncId} {fn:Func} {args:List AV} {ob:List (Option OB)} {K:AV->List (Option OB)->Prop}
  (hf : P.funcs[f]? = some fn) (hn : (fn.name == "runtime.NumGoroutine") = false) (h : ax (mcx wl P T keep inl 0 np) fn args ob K) : InlOK wl P f args ob K :=
 V8 (cx:=mcx wl P T keep inl 0 np) hT ⟨rfl,fun _ _ _ _ _ h=>h,fun _ _ _ _ h=>h⟩ (MC hT ⟨rfl,fun _ _ _ _ _ h=>h,fun _ _ _ _ h=>h⟩ hm) hf (by simpa using hn) h
def I64 (x:Int):Prop:=-9223372036854775808<=x/\x<=9223372036854775807
theorem TO {a b:Int} (h1:a=b) (h2:I64 b):IntKind.i64.wrap a=b:=by
 subst h1
 exact IntWalk.i64_in a h2
theorem I64.of {x:Int} (h:-9223372036854775808<=x/\x<=9223372036854775807):I64 x:=h
end Go.AX
end
section
namespace Go.AX
open Go.RowKit
def Old (w:World):Sc:=fun b o=>∃v,cellAt w b o=some v
theorem Zo {P:Program} {f:FuncId} {args:List AV} {res:AV} {wl:WL} (h:CallsOK wl P f args [] res []) (w:World) {gb:Nat->Prop} (hg:wl.gf gb w/\∀b,gb b->b<w.heap.size) (vals:Array Value) (hs:vals.size=args.length)
  (hr :∀i (hi:i<args.length),RepA (Old w) w (fun _=>none) (ofL []) args[i] (vals.getD i undef)/\Closed (ofL []) args[i]) :
  Calls P f vals w fun e w'=>(∃v S φ,e=.returned v/\RepA S w' φ (ofL []) res v)/\Below w.heap.size w w':=by
 have hn :∀r,ofL [] r=none:=fun r=>by simp[ofL]
 refine (h.2 w (Old w) (fun _=>none) gb ⟨hg.1,hg.2,(by rintro b hb ⟨r,c,h1,_⟩;simp at h1),fun b o _ hc=>by
  cases hv:cellAt w b o with
  | none=>exact absurd hv hc
  | some v=>exact⟨v,hv⟩⟩ vals hs hr (fun _ _=>rfl) ⟨fun r o ho=>by rw[hn] at ho;simp at ho,fun r _ _ _ _ hr=>absurd (hn r) hr,fun r o ho=>by rw[hn] at ho;simp at ho,fun _ _ h=>h,fun _ _ _=>rfl,fun b o hS=>?_,fun _ _ h _ _=>h,fun _ _ _=>rfl,Nat.le_refl _,fun r _ _ hr=>absurd (hn r) hr,⟨rfl,rfl,rfl,.inr (Nat.le_refl _)⟩⟩).mono fun e w' he=>?_
 ·obtain⟨v,hv⟩:=hS
  refine Nat.lt_of_not_le fun hge=>?_
  simp[cellAt,World.cell?,hge] at hv
 obtain⟨v,rfl,S',φ',m,_,hv,_⟩:=he
 refine⟨⟨v,S',φ',rfl,hv⟩,m.os.1,m.os.2.2.1,m.os.2.1,m.sz,fun k hk=>m.fr k hk ?_⟩
 rintro⟨r,c,hr,_⟩
 exact absurd hr (by simp)
theorem XG {P:Program} {f:FuncId} {args:List AV} {wl:WL} (h:CallsOK wl P f args [] (.b true) []) (w:World) {gb:Nat->Prop} (hg:wl.gf gb w/\∀b,gb b->b<w.heap.size) (vals:Array Value) (hs:vals.size=args.length)
  (hr :∀i (hi:i<args.length),RepA (Old w) w (fun _=>none) (ofL []) args[i] (vals.getD i undef)/\Closed (ofL []) args[i]) :
  Calls P f vals w fun e w'=>e=.returned (.bool true)/\Below w.heap.size w w':=
 (Zo h w hg vals hs hr).mono fun e w' ⟨⟨v,S,φ,he,hv⟩,hb⟩=>⟨by rw[he,hv.bool],hb⟩
end Go.AX
end
section
namespace Go.AX
open Go.RowKit Go.Deep Go.ChangeShapes Go.WideShapes
section
variable {H:Type} {enc:TypeId×Value->H} {P:Program} {w:World}
def RepI (w:World) (ds:List D) (cs:List Value):Prop:=
 ds.length=cs.length/\(∀d ∈ ds,d.isAgg=false)/\∀j (hj:j<ds.length) v,cs[j]?=some v->RepD (Old w) w ds[j] v
def Wt (P:Program) (t:Nat) (d:DataW H):Prop:=(d.weights P t).all (·<=reachBytes)=true
theorem weightsAll_mem {e:Nat} :∀{l:List (DataW H)} {d:DataW H},d ∈ l->∀n ∈ d.weights P e,n ∈ DataW.weightsAll P e l
 | x::l,d,hd,n,hn=>by
  simp only[DataW.weightsAll,X23]
  rcases List.mem_cons.1 hd with rfl | hd
  ·exact .inl hn
  exact .inr (weightsAll_mem hd n hn)
theorem Wt.slice {t e:Nat} {el sp:List (DataW H)} (ht:P.underlying t=some (.slice e)) (h:Wt P t (.slice el sp)):(el.length + sp.length) * P.bytesOf e<=reachBytes/\∀d ∈ el,Wt P e d:=by
 have h:=List.all_eq_true.1 h
 simp only[DataW.weights,ht,List.mem_cons,X23] at h
 refine⟨by simpa using h _ (.inl rfl),fun d hd=>List.all_eq_true.2 fun n hn=>h n (.inr (.inl (weightsAll_mem hd n hn)))⟩
theorem Wt.string {t:Nat} {b:List UInt8} (h:Wt (H:=H) P t (.lit (.string b))):b.length<=reachBytes:=by
 have h:=List.all_eq_true.1 h
 simp only[DataW.weights] at h
 simpa using h _ (X14.2 rfl)
theorem Wt.agg {t:Nat} {F:Array Field} {ds:List (DataW H)} (ht:P.underlying t=some (.struct F)) (h:Wt P t (.agg ds)) {i:Nat} {f:Field} {d:DataW H} (hf:F[i]?=some f) (hd:ds[i]?=some d):Wt P f.type d:=by
 have h:=List.all_eq_true.1 h
 simp only[DataW.weights,ht] at h
 exact List.all_eq_true.2 fun n hn=>h n (DataW.weights_mem_each (ts:=F.toList.map (·.type)) (j:=i) (by simp[hf]) hd n hn)
def Reads (enc:TypeId×Value->H) (P:Program) (w:World) (t:Nat) {α:Type} (cells:α->List D) (ok:α->Prop):Prop:=
 ∀fuel cs x,DataW.trod enc P w 0 (fun _=>true) true fuel t cs=some x->Wt P t x.1->∃a,ok a/\RepI w (cells a) cs
theorem RepI.one {d:D} {v:Value} (hd:d.isAgg=false) (h:RepD (Old w) w d v):RepI w [d] [v]:=
 ⟨rfl,fun x hx=>by simp only[X14] at hx;rw[hx];exact hd,fun j hj u hu=>by
  have:j=0:=by simpa using hj
  subst this
  simp only[List.getElem?_cons_zero,X24] at hu
  subst hu
  exact h⟩
theorem RepI.append {ds es:List D} {cs ks:List Value} (h:RepI w ds cs) (k:RepI w es ks):RepI w (ds++es) (cs++ks):=by
 obtain⟨h1,h2,h3⟩:=h
 obtain⟨k1,k2,k3⟩:=k
 refine⟨by simp[h1,k1],fun d hd=>?_,fun j hj v hv=>?_⟩
 ·rcases X23.1 hd with hd | hd
  ·exact h2 d hd
  exact k2 d hd
 rw[List.getElem_append]
 split
 ·rename_i hlt
  rw[List.getElem?_append_left (by omega)] at hv
  exact h3 j hlt v hv
 rename_i hge
 rw[List.getElem?_append_right (by omega),<- h1] at hv
 exact k3 (j - ds.length) (by simp at hj;omega) v hv
theorem Reads.map {t:Nat} {α β:Type} {cells:α->List D} {ok:α->Prop} (h:Reads enc P w t cells ok) {cells':β->List D} {ok':β->Prop} (g:α->β) (hc :∀a,cells' (g a)=cells a) (hk :∀a,ok a->ok' (g a)):Reads enc P w t cells' ok':=by
 intro fuel cs x hx hw
 obtain⟨a,h1,h2⟩:=h fuel cs x hx hw
 exact⟨g a,hk a h1,by rw[hc];exact h2⟩
theorem RO {t:Nat} {k:IntKind} (ht:P.underlying t=some (.int k)):Reads enc P w t (fun n:Int=>[.val (.int k n)]) (fun n=>(Lit.int k n).wf=true):=by
 intro fuel cs x h _
 obtain⟨n,rfl,_,hw⟩:=DataW.trod_int ht h
 exact⟨n,hw,RepI.one rfl (.val _ rfl)⟩
theorem reads_slice {t e sz by':Nat} {α:Type} {el:α->D} {ok:α->Prop} (ht:P.underlying t=some (.slice e)) (hsz:P.cellsOf e=sz) (hpos:0<sz) (hby:P.bytesOf e=by') (h:Reads enc P w e (fun a=>(el a).cells) ok) :
  Reads enc P w t (fun l:List α=>[.lst sz (l.map el)]) (fun l=>l.length<=maxLen/\l.length * by'<=reachBytes/\∀a ∈ l,ok a):=by
 intro fuel cs x hx hw
 rcases open_slice ht hx with ⟨rfl,_⟩|⟨a,len,cap,m,n,D,Pl,rfl,_,hlc,hm,hmm,rfl,hel⟩
 ·exact⟨[],⟨by simp,by simp,by simp⟩,RepI.one rfl (.lst0 _ _ _)⟩
 obtain⟨hw1,hw2⟩:=Wt.slice ht hw
 have hw1:len * by'<=reachBytes:=by
  refine Nat.le_trans ?_ hw1
  rw[hby]
  exact X31 _ (by simp)
 have hmm:m=cap:=hmm.trans (if_pos rfl)
 subst hmm
 rw[hsz] at hel
 have one :∀i,i<len->∃q:α×List Value,ok q.1/\RepI w (el q.1).cells q.2/\w.cells? 0 (a.add (i * sz)) sz=some q.2:=by
  intro i hi
  obtain⟨cs',h1,h2⟩:=hel i (by omega)
  obtain⟨b,h3,h4⟩:=h n cs' _ h2 (hw2 _ (List.mem_map.2 ⟨i,List.mem_range.2 hi,rfl⟩))
  exact⟨(b,cs'),h3,h4,h1⟩
 by_cases h0:len=0
 ·subst h0
  exact⟨[],⟨by simp,by simp,by simp⟩,RepI.one rfl (.lst0 _ _ _)⟩
 obtain⟨q0,_⟩:=one 0 (by omega)
 haveI:Inhabited (α×List Value):=⟨q0⟩
 obtain⟨f,hf⟩:=choose_lt one
 have hspot:a.spot=none:=by
  obtain⟨_,_,h3⟩:=hf 0 (by omega)
  obtain⟨_,hl,hc⟩:=World.cells?_some h3
  have:=hc 0 hpos
  rw[Nat.zero_mul] at this
  have e:(a.add 0).add 0=a:=by simp[Addr.add]
  rw[e] at this
  have hlt:0<(f 0).2.length:=by omega
  rw[X15 hlt] at this
  unfold World.cell? at this
  split at this
  ·cases hs:a.spot with
   | none=>rfl
   | some s=>simp[hs] at this
  simp at this
 obtain⟨b,o,sp⟩:=a
 simp only at hspot
 subst hspot
 have hadd :∀i j,((⟨b,o,none⟩:Addr).add i).add j=⟨b,o + i + j,none⟩:=by
  intro i j
  rw[Addr.add_none,Addr.add_none]
 have hcell :∀i j,i<len->j<sz->∃v,(f i).2[j]?=some v/\cellAt w b (o + i * sz + j)=some v:=by
  intro i j hi hj
  obtain⟨_,_,h3⟩:=hf i hi
  obtain⟨_,hl,hc⟩:=World.cells?_some h3
  have:=hc j hj
  rw[hadd] at this
  have hlt:j<(f i).2.length:=by omega
  exact⟨(f i).2[j],X15 hlt,by rw[X15 hlt] at this;exact this⟩
 have hlenq :∀i,i<len->(el (f i).1).cells.length=sz:=by
  intro i hi
  obtain⟨_,h2,h3⟩:=hf i hi
  obtain⟨_,hl,_⟩:=World.cells?_some h3
  rw[h2.1,hl]
 refine⟨(List.range len).map fun i=>(f i).1,⟨by simp;omega,by simpa using hw1,fun a ha=>?_⟩,RepI.one rfl ?_⟩
 ·obtain⟨i,hi,rfl⟩:=List.mem_map.1 ha
  exact (hf i (List.mem_range.1 hi)).1
 have hL:(((List.range len).map fun i=>(f i).1).map el).length=len:=by simp
 have:=RepD.lst (S:=Old w) (w:=w) sz (((List.range len).map fun i=>(f i).1).map el) b o m (fun i j=>((f i).2[j]?).getD undef) (by rw[hL];exact Nat.le_trans hlc hm) (by rw[hL];exact hlc) (fun i hi=>?_) (fun i j hi hj=>?_) (fun i hi j hj=>?_) (fun i hi j hj=>?_)
 ·rw[hL] at this
  exact this
 ·rw[hL] at hi
  simpa using hlenq i hi
 ·rw[hL] at hi
  obtain⟨v,h1,h2⟩:=hcell i j hi hj
  exact⟨⟨v,h2⟩,by rw[h2,h1];rfl⟩
 ·rw[hL] at hi
  obtain⟨_,h2,_⟩:=hf i hi
  exact h2.2.1 _ (by simp)
 rw[hL] at hi
 obtain⟨_,h2,_⟩:=hf i hi
 simp only[List.getElem_map,List.getElem_range] at hj ⊢
 have hj':j<sz:=by rw[hlenq i hi] at hj;exact hj
 obtain⟨v,h1,_⟩:=hcell i j hi hj'
 rw[h1]
 exact h2.2.2 j hj v h1
def Yh (enc:TypeId×Value->H) (P:Program) (w:World):List (Nat×Nat)->List Value->Prop
 | [],cs=>cs=[]
 | (t,sz)::fs,cs=>sz<=cs.length/\(∃fuel x,DataW.trod enc P w 0 (fun _=>true) true fuel t (cs.take sz)=some x/\Wt P t x.1)/\Yh enc P w fs (cs.drop sz)
def SL (enc:TypeId×Value->H) (P:Program) (w:World) (fs:List (Nat×Nat)) {α:Type} (cells:α->List D) (ok:α->Prop):Prop:=
 ∀cs,Yh enc P w fs cs->∃a,ok a/\RepI w (cells a) cs
theorem readsF_nil:SL enc P w [] (fun _:Unit=>[]) (fun _=>True):=by
 intro cs h
 cases h
 exact⟨(),trivial,rfl,fun d hd=>by simp at hd,fun j hj=>by simp at hj⟩
theorem readsF_cons {t sz:Nat} {fs:List (Nat×Nat)} {α β:Type} {ca:α->List D} {oa:α->Prop} {cb:β->List D} {ob:β->Prop} (ha:Reads enc P w t ca oa) (hb:SL enc P w fs cb ob) :
  SL enc P w ((t,sz)::fs) (fun x:α×β=>ca x.1++cb x.2) (fun x=>oa x.1/\ob x.2):=by
 rintro cs ⟨_,⟨fuel,x,hx,hw⟩,hc⟩
 obtain⟨a,h1,h2⟩:=ha fuel _ _ hx hw
 obtain⟨b,h3,h4⟩:=hb _ hc
 exact⟨(a,b),⟨h1,h3⟩,by have:=h2.append h4;rwa [List.take_append_drop] at this⟩
def KB (P:Program):Nat->List Field->List (Nat×Nat)->Nat->Bool
 | o,[],[],n=>Nat.beq o n
 | o,f::F,(t,sz)::fs,n=>Nat.beq f.offset o&&Nat.beq f.type t&&Nat.beq (P.cellsOf f.type) sz&&Nat.ble (o + sz) n&&KB P (o + sz) F fs n
 | _,_,_,_=>false
theorem WI {n:Nat} {cs:List Value} (hl:cs.length=n) :∀(F:List Field) (fs:List (Nat×Nat)) (o:Nat),KB P o F fs n=true->
  (∀f ∈ F,∃fuel x,DataW.trod enc P w 0 (fun _=>true) true fuel f.type ((cs.drop f.offset).take (P.cellsOf f.type))=some x/\Wt P f.type x.1)->Yh enc P w fs (cs.drop o)
 | [],[],o,h,_=>by
  have:=X30 h
  simp only[Yh]
  exact List.drop_eq_nil_of_le (by omega)
 | f::F,(t,sz)::fs,o,h,hf=>by
  simp only[KB,X27,BW] at h
  obtain⟨⟨⟨⟨h1,h2⟩,h3⟩,h4⟩,h5⟩:=h
  have h4:=X29 h4
  obtain⟨fuel,x,hx,hw⟩:=hf f (by simp)
  rw[h1,h3,h2] at hx
  rw[h2] at hw
  refine⟨by simp;omega,⟨fuel,x,hx,hw⟩,?_⟩
  rw[List.drop_drop]
  exact WI hl F fs (o + sz) h5 fun g hg=>hf g (by simp[hg])
 | [],_::_,_,h,_=>by simp[KB] at h
 | _::_,[],_,h,_=>by simp[KB] at h
theorem reads_struct {t:Nat} {F:Array Field} {fs:List (Nat×Nat)} {α:Type} {cells:α->List D} {ok:α->Prop} (ht:P.underlying t=some (.struct F)) (hc:KB P 0 F.toList fs (P.cellsOf t)=true) (h:SL enc P w fs cells ok) :
  Reads enc P w t cells ok:=by
 intro fuel cs x hx hw
 obtain⟨xs,n,_,rfl,hl,hlen,hf⟩:=DataW.trod_struct ht hx
 refine h cs ?_
 refine (WI (enc:=enc) (w:=w) hl F.toList fs 0 hc fun f hfm=>?_:Yh enc P w fs (cs.drop 0))
 obtain⟨i,hi,rfl⟩:=List.getElem_of_mem hfm
 simp only[Array.length_toList] at hi
 have:=hf i F[i] (by simp[hi])
 rw[X15 (by omega)] at this
 exact⟨n,_,by simpa using this,by simpa using Wt.agg ht hw (i:=i) (f:=F[i]) (by simp[hi]) (d:=xs[i].1) (by rw[List.getElem?_map,X15 (by omega)];rfl)⟩
theorem RepI.val {d:D} {v:Value} (h:RepI w [d] [v]):RepD (Old w) w d v:=h.2.2 0 (by simp) v (by simp)
theorem RepI.agg {ds:List D} {cs:Array Value} (h:RepI w ds cs.toList):RepD (Old w) w (.agg ds) (.agg cs):=by
 obtain⟨h1,h2,h3⟩:=h
 refine .agg ds cs (fun i=>cs.getD i undef) (by simpa using h1.symm) (fun i hi=>?_) (fun i hi=>h2 _ (by simp)) fun i hi=>h3 i hi _ ?_
 ·have:i<cs.size:=by have:=h1;simp at this;omega
  simp[this]
 have:i<cs.size:=by have:=h1;simp at this;omega
 simp[this]
theorem W9 {t:Nat} {α:Type} {cells:α->List D} {ok:α->Prop} (h:Reads enc P w t cells ok) {cs:Array Value} {d:DataW H} {p:List MemPlace}
  (hv:DataW.Trod enc P w 0 (fun _=>true) true t (.agg cs) d p) (hw:Wt P t d) :∃x,ok x/\RepD (Old w) w (.agg (cells x)) (.agg cs):=by
 obtain⟨fuel,hf⟩:=hv
 obtain⟨x,h1,h2⟩:=h fuel _ _ hf hw
 exact⟨x,h1,RepI.agg (by simpa[Value.cells] using h2)⟩
end
end Go.AX
end
section
namespace Go.AX
def AI {τ ρ:Type} (m:(τ->Option ρ)->Option ρ) (k:τ->Option ρ):Option ρ:=m k
def geti {α:Type} (l:List α) (i:Int):Option α:=if 0<=i/\i<l.length then l[i.toNat]? else none
def seti {α:Type} (l:List α) (i:Int) (x:α):Option (List α):=if 0<=i/\i<l.length then some (l.set i.toNat x) else none
def apnd {α:Type} (b:Nat) (l m:List α):Option (List α):=if (l.length + m.length) * b<=2 ^ 47/\l.length + m.length<=2 ^ 47 then some (l++m) else none
def part {α:Type} (l:List α) (a b:Int):Option (List α):=if 0<=a/\a<=b/\b<=l.length then some ((l.drop a.toNat).take (b.toNat - a.toNat)) else none
def chk (p:Prop) [Decidable p]:Option Unit:=if p then some () else none
abbrev AK (x:Int):Int:=IntKind.i64.wrap x
def An {α σ ρ:Type} (done:σ->Option ρ) (body:(σ->Option ρ)->α->Nat->σ->Option ρ):List α->Nat->σ->Option ρ
 | [],_,s=>done s
 | x::t,i,s=>body (An done body t (i + 1)) x i s
def Av {σ ρ:Type} (body:(σ->Option ρ)->σ->Option ρ):Nat->σ->Option ρ
 | 0,_=>none
 | n + 1,s=>body (Av body n) s
def fuel:Nat:=2 ^ 64
abbrev D.u8 (x:UInt8):D:=.val (.int .u8 (x.toNat:Int))
abbrev D.u64 (x:UInt64):D:=.val (.int .u64 (x.toNat:Int))
abbrev D.l {α:Type} (sz:Nat) (f:α->D) (l:List α):D:=.lst sz (l.map f)
theorem AB {α ρ:Type} {x:Option α} {f:α->Option ρ} {r:ρ} (h:x.bind f=some r) :∃a,x=some a/\f a=some r:=by
 cases x with
 | none=>cases h
 | some a=>exact⟨a,rfl,h⟩
theorem az {b:Bool} {ρ:Type} {X Y:Option ρ} {r:ρ} {A B:Prop} (h1:X=some r->A) (h2:Y=some r->B):(if b=true then X else Y)=some r->M5 b A B:=by
 intro h
 cases b
 ·exact h2 h
 exact h1 h
theorem A8 {b:Bool} {A B:Prop} (hb:b=true) (h:A):M5 b A B:=by subst hb;exact h
theorem A9 {b:Bool} {A B:Prop} (hb:b=false) (h:B):M5 b A B:=by subst hb;exact h
theorem AL {α β:Type} {f:α->β} {l:List α} {i:Int} {v:α} (h:geti l i=some v):0<=i/\i<((l.map f).length:Int):=by
 unfold geti at h
 split at h
 ·rename_i hb;simpa using hb
 cases h
theorem AM {α:Type} {f:α->D} {l:List α} {i:Int} {v:α} (h:geti l i=some v):(l.map f).getD i.toNat default=f v:=by
 unfold geti at h
 split at h
 ·rename_i hb;simp[h]
 cases h
def bs (l:List UInt8):ByteArray:=⟨l.toArray⟩
theorem JW {α:Type} {f:α->D} {l l':List α} {i:Int} {v:α} (h:seti l i v=some l'):(l.map f).set i.toNat (f v)=l'.map f:=by
 unfold seti at h
 split at h
 ·cases h;rw[List.map_set]
 cases h
theorem GX {α:Type} {l l':List α} {i:Int} {v:α} (h:seti l i v=some l'):l'.length=l.length:=by
 unfold seti at h
 split at h
 ·cases h;simp
 cases h
theorem Xz {α:Type} {b:Nat} {l m l':List α} (h:apnd b l m=some l'):l'=l++m:=by
 unfold apnd at h
 split at h
 ·cases h;rfl
 cases h
theorem Ae {α:Type} {b:Nat} {l m l':List α} {f g:α->D} (h:apnd b l m=some l'):((l.map f).length + (m.map g).length) * b<=2 ^ 47/\(l.map f).length + (m.map g).length<=2 ^ 47:=by
 unfold apnd at h
 split at h
 ·rename_i hb;simpa using hb
 cases h
theorem DZ {α:Type} {b:Nat} {m l':List α} {g:α->D} (h:apnd b [] m=some l'):(m.map g).length * b<=2 ^ 47/\(m.map g).length<=2 ^ 47:=by
 simpa using Ae (f:=g) (g:=g) h
theorem Af {α:Type} {b:Nat} {l m l':List α} {f:α->D} (h:apnd b l m=some l'):l.map f++m.map f=l'.map f:=by
 rw[Xz h,List.map_append]
theorem BX {α:Type} {f:α->D} {l l':List α} {a b:Int} (h:part l a b=some l'):0<=a/\a<=b/\b<=((l.map f).length:Int):=by
 unfold part at h
 split at h
 ·rename_i hb;simpa using hb
 cases h
theorem CH {α:Type} {f:α->D} {l l':List α} {a:Int} (h:part l a l.length=some l'):0<=a/\a<=((l.map f).length:Int)/\((l.map f).length:Int)<=((l.map f).length:Int):=by
 have:=BX (f:=f) h
 simp at this ⊢
 exact this
theorem BI {α:Type} {f:α->D} {l l':List α} {a b:Int} (h:part l a b=some l'):((l.map f).drop a.toNat).take (b.toNat - a.toNat)=l'.map f:=by
 unfold part at h
 split at h
 ·cases h;rw[List.map_take,List.map_drop]
 cases h
theorem CJ {α:Type} {f:α->D} {l l':List α} {a:Int} (h:part l a l.length=some l'):((l.map f).drop a.toNat).take (((l.map f).length:Int).toNat - a.toNat)=l'.map f:=by
 have:=BI (f:=f) h
 simpa using this
theorem Vf {n c:Int} {b:Nat} {u:Unit} (h:chk (0<=n/\n<=c/\c<=1048576)=some u) (hb:b<=65536):0<=n/\n<=c/\c<=1048576/\b<=65536:=by
 unfold chk at h
 split at h
 ·rename_i q;exact⟨q.1,q.2.1,q.2.2,hb⟩
 cases h
theorem SZ {α:Type} {f:α->D} {k:Nat} {n:Int} {b:Nat} {l l':List α} {z:α} {u:Unit} (hk:k=(l.map f).length) (h:chk (0<=n/\n<=1048576)=some u) (hb:b<=65536) (hg:apnd b l (List.replicate n.toNat z)=some l') :
  k=(l.map f).length/\0<=n/\n<=1048576/\b<=65536/\((l.map f).length + n.toNat) * b<=2 ^ 47/\(l.map f).length + n.toNat<=2 ^ 47:=by
 have h1:=Ae (f:=f) (g:=f) hg
 simp only[X10,X20] at h1 hk ⊢
 unfold chk at h
 split at h
 ·rename_i hc;exact⟨hk,hc.1,hc.2,hb,h1.1,h1.2⟩
 exact nomatch h
theorem Sl {α:Type} {f:α->D} {n:Int} {b:Nat} {l l':List α} {z:α} (hg:apnd b l (List.replicate n.toNat z)=some l'):l.map f++List.replicate n.toNat (f z)=l'.map f:=by
 rw[Xz hg,List.map_append,List.map_replicate]
theorem bu {n:Int} {b:Nat} {u:Unit} (h:chk (0<n/\n<=1048576)=some u) (hb:b<=65536):0<n/\n<=1048576/\b<=65536:=by
 unfold chk at h
 split at h
 ·rename_i q;exact⟨q.1,q.2,hb⟩
 cases h
def Df {K V:Type} [BEq K]:List (K×V)->K->Option V
 | [],_=>none
 | p::l,k=>if k==p.1 then some p.2 else Df l k
def F3 {K V:Type} [BEq K]:List (K×V)->K->V->List (K×V)
 | [],k,v=>[(k,v)]
 | p::l,k,v=>if k==p.1 then (k,v)::l else p::F3 l k v
def BS {K V:Type} (ek:K->D) (ev:V->D) (l:List (K×V)):List (D×D):=l.map fun p=>(ek p.1,ev p.2)
theorem Dn {K V:Type} [BEq K] {tk:TK} {ek:K->D} {ev:V->D} {l:List (K×V)} {k:K} (h :∀a b,Dt tk (ek a) (ek b)=some (a==b)):BL tk (ek k) (BS ek ev l)=some ((Df l k).map ev):=by
 induction l with
 | nil=>rfl
 | cons p l ih=>
  simp only[BS,List.map_cons,BL,h,Df]
  cases k==p.1
  ·simpa[BS] using ih
  simp
theorem D6 {K V:Type} [BEq K] {tk:TK} {ek:K->D} {ev:V->D} {l:List (K×V)} {k:K} {v:V} (h :∀a b,Dt tk (ek a) (ek b)=some (a==b)):FH tk (ek k) (ev v) (BS ek ev l)=some (BS ek ev (F3 l k v)):=by
 induction l with
 | nil=>rfl
 | cons p l ih=>
  simp only[BS,List.map_cons,FH,h,F3]
  cases k==p.1
  ·simp only[BS] at ih
   simp[ih]
  simp
theorem OF {K V:Type} [BEq K] {tk:TK} {ek:K->D} {ev:V->D} {l:List (K×V)} {k:K} {u:Unit} (h :∀a b,Dt tk (ek a) (ek b)=some (a==b)) (g:chk ((Df l k).isNone=true)=some u):BL tk (ek k) (BS ek ev l)=some none:=by
 rw[Dn h]
 unfold chk at g
 split at g
 ·rename_i q
  cases hm:Df l k with
  | none=>rfl
  | some v=>rw[hm] at q;simp at q
 simp at g
theorem aj {V:Type} {f:V->D} {o:Option V} {z:V} {zD:D} (hz:zD=f z):(o.map f).getD zD=f (o.getD z):=by
 cases o<;>simp[hz]
theorem bI {V:Type} {f:V->D} {o:Option V}:(o.map f).isSome=o.isSome:=by
 cases o<;>rfl
theorem Gz {V:Type} {f:V->D} {o:Option V} {z v:V} {zD:D} (hz:zD=f z) (g:some (o.getD z)=some v):(o.map f).getD zD=f v:=by
 rw[aj hz,X25 g]
theorem Za {V:Type} {f:V->D} {o:Option V} {b:Bool} (g:some o.isSome=some b):(o.map f).isSome=b:=by
 rw[bI,X25 g]
theorem B0 (a b:Int):Dt (.int .i64) (D.i a) (D.i b)=some (a==b):=by simp[Dt]
theorem EJ {p:Prop} [Decidable p] {u:Unit} (h:chk p=some u):p:=by
 unfold chk at h
 split at h
 ·assumption
 cases h
theorem AD {τ ρ:Type} {np:Nat} {X:(ASt->Prop)->Prop} {K:ASt->Prop} {m:(τ->Option ρ)->Option ρ} {k:τ->Option ρ} {r:ρ} (St:τ->ASt)
  (h1 :∀k':τ->Option ρ,m k'=some r->X (fun t=>∃s,Weak np t s/\∃v,k' v=some r/\s=St v)) (h2 :∀v,k v=some r->K (St v)):AI m k=some r->CutP np X K:=
 fun h=>.cut (fun s=>∃v,k v=some r/\s=St v) (h1 k h) fun _ ⟨v,hv,hs⟩=>hs ▸ h2 v hv
theorem YF {α:Type} {l:List α} {a b:Int} {u:Unit} {f:α->D} (h:chk (0<=a/\a<=b/\b<=(l.length:Int))=some u):0<=a/\a<=b/\b<=((l.map f).length:Int):=by
 rw[X10];exact EJ h
theorem Iw {α:Type} {l:List α} {a:Int} {u:Unit} {f:α->D} (h:chk (0<=a/\a<=(l.length:Int)/\(l.length:Int)<=(l.length:Int))=some u):0<=a/\a<=((l.map f).length:Int)/\((l.map f).length:Int)<=((l.map f).length:Int):=by
 rw[X10];exact EJ h
theorem V1 {α:Type} {l:List α} {a n:Nat} {f:α->D}:((l.map f).drop a).take n=List.map f ((l.drop a).take n):=by simp
theorem Io {α:Type} {l:List α} {a n:Nat} {i:Int} {v:α} (h:geti ((l.drop a).take n) i=some v):0<=i/\i<(n:Int):=by
 unfold geti at h
 split at h
 ·rename_i hq
  have:((l.drop a).take n).length<=n:=List.length_take_le _ _
  omega
 simp at h
theorem I0 {α:Type} {l:List α} {a n:Nat} {i:Int} {v:α} {f:α->D} (h:geti ((l.drop a).take n) i=some v):(l.map f).getD (a + i.toNat) default=f v:=by
 unfold geti at h
 split at h
 ·rename_i hq
  rw[List.getElem?_take,if_pos (by have:((l.drop a).take n).length<=n:=List.length_take_le _ _;omega),List.getElem?_drop] at h
  simp[List.getD_eq_getElem?_getD,h]
 simp at h
theorem Yy {α:Type} {f:α->D} {l:List α} {a n:Nat}:((l.map f).drop a).take n=((l.drop a).take n).map f:=by simp
theorem TJ {α:Type} {l v:List α} {a b:Int} {f:α->D} (h:part l a b=some v):0<=a/\a<=b/\b<=b/\b<=((l.map f).length:Int):=by
 have:=BX (f:=f) h
 exact⟨this.1,this.2.1,Int.le_refl _,this.2.2⟩
theorem ZZ {α:Type} {l v:List α} {a:Int} {f:α->D} (h:part l a l.length=some v):0<=a/\a<=((l.map f).length:Int)/\((l.map f).length:Int)<=((l.map f).length:Int)/\((l.map f).length:Int)<=((l.map f).length:Int):=by
 have:=CH (f:=f) h
 exact⟨this.1,this.2.1,Int.le_refl _,Int.le_refl _⟩
theorem TQ {α:Type} {l:List α} {a n:Nat} {z:α} {f:α->D}:(l.map f).take a++List.replicate n (f z)++(l.map f).drop (a + n)=List.map f (l.take a++List.replicate n z++l.drop (a + n)):=by simp
def cpy {α:Type} (l:List α) (a n:Nat) (s:List α):List α:=l.take a++s.take n++l.drop (a + min s.length n)
theorem bK {α:Type} {l s:List α} {f:α->D}:(l.map f).take 0++(s.map f).take (l.map f).length++(l.map f).drop (0 + min (s.map f).length (l.map f).length)=List.map f (cpy l 0 l.length s):=by simp[cpy]
theorem aU {α:Type} {l s:List α} {f:α->D}:min (s.map f).length (l.map f).length=min s.length l.length:=by simp
def cw (s s':ASt):List AV->List D->Prop
 | [],[]=>True
 | a::l,y::l'=>(y.isAgg=false/\AvW s s' a (.d y))/\cw s s' l l'
 | _,_=>False
theorem PW {s s':ASt} :∀{cs:List AV} {ys:List D},cw s s' cs ys->ys.length=cs.length
 | [],[],_=>rfl
 | _::_,_::_,h=>by simp[PW h.2]
theorem PI {s s':ASt} :∀{cs:List AV} {ys:List D},cw s s' cs ys->∀i (hi:i<cs.length) (hi':i<ys.length),ys[i].isAgg=false/\AvW s s' cs[i] (.d ys[i])
 | [],[],_,i,hi,_=>by simp at hi
 | _::_,_::_,h,0,_,_=>h.1
 | _::_,_::_,h,i + 1,hi,hi'=>PI h.2 i (by simpa using hi) (by simpa using hi')
theorem _root_.Go.AX.AvW.box {s s':ASt} (r:Nat) (cs:List AV) (ys:List D) (sz:Nat) (h:s.ob.getD r none=some (.box cs)) (h':s'.ob.getD r none=none) (hsz:sz=cs.length) (hp:0<cs.length) (hc:cw s s' cs ys):AvW s s' (.own r 1) (.d (.lst sz [.agg ys])):=
 .lstB r cs ys sz h h' hsz (PW hc) hp (fun i hi hi'=>(PI hc i hi hi').2) fun i hi=>(PI hc i (by rw[<- PW hc];exact hi) hi).1
def aw (s s':ASt):List AV->List AV->Prop
 | [],[]=>True
 | a::l,y::l'=>AvW s s' a y/\aw s s' l l'
 | _,_=>False
def XR:List AV->Bool
 | []=>true
 | a::l=>a.one&&XR l
def dw (s s':ASt):List D->List AV->Prop
 | [],[]=>True
 | a::l,y::l'=>AvW s s' (.d a) y/\dw s s' l l'
 | _,_=>False
theorem Nk {s s':ASt} :∀{cs cs':List AV},aw s s' cs cs'->cs.length=cs'.length/\∀i (hi:i<cs.length) (hi':i<cs'.length),AvW s s' cs[i] cs'[i]
 | [],[],_=>⟨rfl,fun i hi=>by simp at hi⟩
 | _::_,_::_,h=>⟨by simp[(Nk h.2).1],fun i hi hi'=>match i,hi,hi' with
  | 0,_,_=>h.1
  | i + 1,hi,hi'=>(Nk h.2).2 i (by simpa using hi) (by simpa using hi')⟩
theorem SQ {s s':ASt} :∀{cs:List D} {cs':List AV},dw s s' cs cs'->cs.length=cs'.length/\∀i (hi:i<cs.length) (hi':i<cs'.length),AvW s s' (.d cs[i]) cs'[i]
 | [],[],_=>⟨rfl,fun i hi=>by simp at hi⟩
 | _::_,_::_,h=>⟨by simp[(SQ h.2).1],fun i hi hi'=>match i,hi,hi' with
  | 0,_,_=>h.1
  | i + 1,hi,hi'=>(SQ h.2).2 i (by simpa using hi) (by simpa using hi')⟩
theorem P3 :∀{cs:List AV},XR cs=true->∀i (hi:i<cs.length),cs[i].one=true
 | _::_,h,0,_=>by simp only[XR,X27] at h;exact h.1
 | _::_,h,i + 1,hi=>by simp only[XR,X27] at h;exact P3 h.2 i (by simpa using hi)
theorem _root_.Go.AX.AvW.tupL {s s':ASt} {cs cs':List AV} (h:aw s s' cs cs'):AvW s s' (.tup cs) (.tup cs'):=.tup cs cs' (Nk h).1 (Nk h).2
theorem _root_.Go.AX.AvW.aggL {s s':ASt} {cs cs':List AV} (h1:XR cs'=true) (h:aw s s' cs cs'):AvW s s' (.agg cs) (.agg cs'):=.agg cs cs' (Nk h).1 (Nk h).2 (P3 h1)
theorem _root_.Go.AX.AvW.daggL {s s':ASt} {cs:List D} {cs':List AV} (h1:XR cs'=true) (h:dw s s' cs cs'):AvW s s' (.d (.agg cs)) (.agg cs'):=.dagg cs cs' (SQ h).1 (SQ h).2 (P3 h1)
theorem _root_.Go.AX.AvW.aggDL {s s':ASt} {cs:List AV} {ys:List D} (h:cw s s' cs ys):AvW s s' (.agg cs) (.d (.agg ys)):=.aggD cs ys (PW h).symm (fun i hi hi'=>(PI h i hi hi').2) fun i hi=>(PI h i (by rw[<- PW h];exact hi) hi).1
theorem YK {x:Int}:BL (.int .i64) (D.i x) []=some none:=rfl
theorem GU {x k:Int} {v:D} {l:List (D×D)} (h:(x==k)=true):BL (.int .i64) (D.i x) ((D.i k,v)::l)=some (some v):=by
 have e:Dt (.int .i64) (D.i x) (D.i k)=some true:=by simp[Dt,D.i,h]
 simp only[BL,e]
theorem Ah {x k:Int} {v:D} {l:List (D×D)} {q:Option (Option D)} (h:¬ (x==k)=true) (hq:BL (.int .i64) (D.i x) l=q):BL (.int .i64) (D.i x) ((D.i k,v)::l)=q:=by
 have h:(x==k)=false:=by simpa using h
 have e:Dt (.int .i64) (D.i x) (D.i k)=some false:=by simp[Dt,D.i,h]
 simp only[BL,e]
 exact hq
theorem OL {c:Prop} [Decidable c] {α:Type} {a b r:α} (g:c) (h:(if c then a else b)=r):a=r:=by rwa [if_pos g] at h
theorem OD {c:Prop} [Decidable c] {α:Type} {a b r:α} (g:¬ c) (h:(if c then a else b)=r):b=r:=by rwa [if_neg g] at h
theorem WO {α:Type} {f:α->D} {l:List α} {i:Int} {v:α} (h:geti l i=some v):Int.toNat i<(List.map f l).length:=by
 have:=AL (f:=f) h
 omega
theorem AA {τ ρ:Type} {np:Nat} {t:ASt} {St:τ->ASt} {k:τ->Option ρ} {r:ρ} {v:τ} (hw:Weak np t (St v)) (h:k v=some r) :∃s,Weak np t s/\∃v,k v=some r/\s=St v:=
 ⟨_,hw,v,h,rfl⟩
theorem AW {np:Nat} {body:(AE->ASt->Prop)->ASt->Prop} {K:AE->ASt->Prop} {st:ASt} {α σ ρ:Type} {done:σ->Option ρ} {bd:(σ->Option ρ)->α->Nat->σ->Option ρ} {l:List α} {s0:σ} {r:ρ}
  (slot sz:Nat) (enc:α->D) (hs:st.tm.getD slot .dead=.d (.lst sz (l.map enc))) (St:Nat->σ->ASt) (hw:Weak np st (St 0 s0))
  (hend :∀(s:σ) (K':ASt->Prop),done s=some r->body (onL K K') (St l.length s))
  (hstep :∀(next:σ->Option ρ) (i:Nat) (x:α) (s:σ) (K':ASt->Prop),i<l.length->(l.map enc).getD i default=enc x->IntKind.i64.wrap ((i:Int) + 1)=((i + 1:Nat):Int)->bd next x i s=some r->
   (∀t v,Weak np t (St (i + 1) v)->next v=some r->K' t)->body (onL K K') (St i s)):An done bd l 0 s0=some r->LoopP np body K st:=by
 intro h
 refine .mk fun hb _=>?_
 have hl:l.length<=9223372036854775807:=by simpa using hb slot sz _ hs
 refine⟨fun s n=>∃(i:Nat) (v:σ),n=l.length - i/\i<=l.length/\An done bd (l.drop i) i v=some r/\s=St i v,⟨St 0 s0,l.length,hw,0,s0,by simp,by simp,by simpa using h,rfl⟩,?_⟩
 rintro _ n ⟨i,v,hn,hi,hf,rfl⟩
 by_cases he:i=l.length
 ·subst he
  simp only[List.drop_length,An] at hf
  exact hend v _ hf
 have hlt:i<l.length:=by omega
 rw[List.drop_eq_getElem_cons hlt] at hf
 simp only[An] at hf
 exact hstep _ i l[i] v _ hlt (by simp[hlt]) (TO (by omega) ⟨by omega,by omega⟩) hf
  fun t v' hw' hn'=>⟨_,l.length - (i + 1),by omega,hw',i + 1,v',rfl,by omega,hn',rfl⟩
theorem L6 {np:Nat} {body:(AE->ASt->Prop)->ASt->Prop} {K:AE->ASt->Prop} {st:ASt} {α σ ρ:Type} {done:σ->Option ρ} {bd:(σ->Option ρ)->α->Nat->σ->Option ρ} {l:List α} {s0:σ} {r:ρ}
  (slot e sz:Nat) (fz:FZ) (enc:α->D) (hs:st.ob.getD slot none=some (.row e sz (l.map enc) fz)) (St:Nat->σ->ASt) (hw:Weak np st (St 0 s0))
  (hend :∀(s:σ) (K':ASt->Prop),done s=some r->body (onL K K') (St l.length s))
  (hstep :∀(next:σ->Option ρ) (i:Nat) (x:α) (s:σ) (K':ASt->Prop),i<l.length->(l.map enc).getD i default=enc x->IntKind.i64.wrap ((i:Int) + 1)=((i + 1:Nat):Int)->bd next x i s=some r->
   (∀t v,Weak np t (St (i + 1) v)->next v=some r->K' t)->body (onL K K') (St i s)):An done bd l 0 s0=some r->LoopP np body K st:=by
 intro h
 refine .mk fun _ hb=>?_
 have hl:l.length<=9223372036854775807:=by simpa using hb slot _ _ _ _ hs
 refine⟨fun s n=>∃(i:Nat) (v:σ),n=l.length - i/\i<=l.length/\An done bd (l.drop i) i v=some r/\s=St i v,⟨St 0 s0,l.length,hw,0,s0,by simp,by simp,by simpa using h,rfl⟩,?_⟩
 rintro _ n ⟨i,v,hn,hi,hf,rfl⟩
 by_cases he:i=l.length
 ·subst he
  simp only[List.drop_length,An] at hf
  exact hend v _ hf
 have hlt:i<l.length:=by omega
 rw[List.drop_eq_getElem_cons hlt] at hf
 simp only[An] at hf
 exact hstep _ i l[i] v _ hlt (by simp[hlt]) (TO (by omega) ⟨by omega,by omega⟩) hf
  fun t v' hw' hn'=>⟨_,l.length - (i + 1),by omega,hw',i + 1,v',rfl,by omega,hn',rfl⟩
theorem CC {α:Type} {l:List α} {i:Nat} (h:i<l.length):decide ((i:Int)<(l.length:Int))=true:=by simpa using h
theorem CP {α:Type} {l:List α}:decide ((l.length:Int)<(l.length:Int))=false:=by simp
theorem A4 {α β:Type} {f:α->β} {l:List α} {i:Nat} (h:i<l.length):0<=(i:Int)/\(i:Int)<((l.map f).length:Int):=⟨by omega,by simpa using h⟩
theorem Ab {np:Nat} {body:(AE->ASt->Prop)->ASt->Prop} {K:AE->ASt->Prop} {st:ASt} {σ ρ:Type} {bd:(σ->Option ρ)->σ->Option ρ} {n:Nat} {s0:σ} {r:ρ}
  (St:σ->ASt) (hw:Weak np st (St s0))
  (hstep :∀(next:σ->Option ρ) (s:σ) (K':ASt->Prop),bd next s=some r->(∀t v,Weak np t (St v)->next v=some r->K' t)->body (onL K K') (St s)):Av bd n s0=some r->LoopP np body K st:=by
 intro h
 refine .mk fun _ _=>⟨fun s n=>∃v,Av bd n v=some r/\s=St v,⟨St s0,n,hw,s0,h,rfl⟩,?_⟩
 rintro _ m ⟨v,hf,rfl⟩
 cases m with
 | zero=>cases hf
 | succ m=>exact hstep _ v _ hf fun t v' hw' hn'=>⟨_,m,Nat.lt_succ_self m,hw',v',hn',rfl⟩
def QZ (ps:List Nat) (acc:List Nat):Nat:=ps.foldl (fun m j=>m ||| 2 ^ j ||| acc.getD (acc.length - 1 - j) 0) 0
def YA:List Oper->List Nat->List Nat
 | [],acc=>acc
 | o::l,acc=>YA l (QZ (CO o) acc::acc)
def Sv (ops:Array Oper) (o:Oper) (m:Nat):List Oper->Bool
 | []=>true
 | q::prev=>(m.testBit prev.length || q.apart ops o)&&Sv ops o m prev
def drawB.go (ops:Array Oper):List Oper->List Oper->List Nat->Bool
 | [],_,_=>true
 | o::l,prev,masks=>(CO o).all (fun j=>Nat.blt j prev.length)&&(match o.op with | .select _ _=>false | _=>true)&&Sv ops o (QZ (CO o) masks) prev &&
   drawB.go ops l (o::prev) (QZ (CO o) masks::masks)
def drawB (ops:Array Oper):Bool:=drawB.go ops ops.toList [] []
theorem Jy :∀(a b:List Oper) (acc:List (List Nat)),Hn (a++b) acc=Hn b (Hn a acc)
 | [],_,_=>rfl
 | o::a,b,acc=>Jy a b _
theorem N2 :∀(l:List Oper) (acc:List (List Nat)),∃p,Hn l acc=p++acc/\p.length=l.length
 | [],acc=>⟨[],rfl,rfl⟩
 | o::l,acc=>by
  obtain⟨p,h1,h2⟩:=N2 l (((CO o).flatMap fun j=>j::acc.getD (acc.length - 1 - j) [])::acc)
  exact⟨p++[(CO o).flatMap fun j=>j::acc.getD (acc.length - 1 - j) []],by rw[Hn,h1];simp,by simp[h2]⟩
def MaskR (masks:List Nat) (acc:List (List Nat)):Prop:=masks.length=acc.length/\∀k j,(masks.getD k 0).testBit j=true->j ∈ acc.getD k []
theorem QX {masks:List Nat} {acc:List (List Nat)} (h:MaskR masks acc) (ps:List Nat) (j:Nat) (hj:(QZ ps masks).testBit j=true):j ∈ ps.flatMap fun j=>j::acc.getD (acc.length - 1 - j) []:=by
 have key :∀(ps:List Nat) (m:Nat),(ps.foldl (fun m j=>m ||| 2 ^ j ||| masks.getD (masks.length - 1 - j) 0) m).testBit j=true->
   m.testBit j=true\/j ∈ ps.flatMap fun j=>j::acc.getD (acc.length - 1 - j) []:=by
  intro ps
  induction ps with
  | nil=>intro m h;exact .inl h
  | cons p ps ih=>
   intro m hm
   simp only[List.foldl_cons] at hm
   rcases ih _ hm with g | g
   ·simp only[Nat.testBit_or,Bool.or_eq_true,Nat.testBit_two_pow,decide_eq_true_eq] at g
    rcases g with (g | g)|g
    ·exact .inl g
    ·subst g;exact .inr (by simp)
    rw[h.1] at g
    have:=h.2 _ _ g
    exact .inr (by simp only[List.flatMap_cons,X23,List.mem_cons];exact .inl (.inr this))
   exact .inr (by simp only[List.flatMap_cons,X23];exact .inr g)
 rcases key ps 0 hj with g | g
 ·simp at g
 exact g
theorem MaskR.cons {masks:List Nat} {acc:List (List Nat)} (h:MaskR masks acc) (ps:List Nat):MaskR (QZ ps masks::masks) ((ps.flatMap fun j=>j::acc.getD (acc.length - 1 - j) [])::acc):=by
 refine⟨by simp[h.1],fun k j hk=>?_⟩
 cases k with
 | zero=>exact QX h ps j hk
 | succ k=>exact h.2 k j hk
theorem YS :∀(l:List Oper) {masks:List Nat} {acc:List (List Nat)},MaskR masks acc->MaskR (YA l masks) (Hn l acc)
 | [],_,_,h=>h
 | o::l,_,_,h=>YS l (h.cons (CO o))
theorem SE {ops:Array Oper} {o:Oper} {m:Nat} :∀{prev:List Oper},Sv ops o m prev=true->∀j q,j<prev.length->prev.reverse[j]?=some q->m.testBit j=true\/q.apart ops o=true
 | [],_,j,q,hj,_=>by simp at hj
 | p::prev,h,j,q,hj,hq=>by
  simp only[Sv,X27,Bool.or_eq_true] at h
  simp only[List.reverse_cons] at hq
  by_cases he:j=prev.length
  ·subst he
   rw[List.getElem?_append_right (by simp)] at hq
   simp at hq
   subst hq
   exact h.1
  have hlt:j<prev.length:=by simp at hj;omega
  rw[List.getElem?_append_left (by simpa using hlt)] at hq
  exact SE h.2 j q hlt hq
theorem RF {ops:Array Oper} :∀(l prev:List Oper) (masks:List Nat),prev.reverse++l=ops.toList->MaskR masks (Hn prev.reverse [])->drawB.go ops l prev masks=true->
  ∀i o,prev.length<=i->ops[i]?=some o->((CO o).all (fun j=>Nat.blt j i)&&(match o.op with | .select _ _=>false | _=>true) &&
   (List.range i).all fun j=>(Fg ops i).contains j || (match ops[j]? with
    | none=>false
    | some q=>q.apart ops o))=true
 | [],prev,masks,hl,_,_,i,o,hi,ho=>by
  have:ops.toList.length=prev.length:=by rw[<- hl];simp
  simp only[Array.length_toList] at this
  have:=(Array.getElem?_eq_some_iff.1 ho).1
  omega
 | q::l,prev,masks,hl,hR,h,i,o,hi,ho=>by
  simp only[drawB.go,X27] at h
  obtain⟨⟨⟨h1,h2⟩,h3⟩,h4⟩:=h
  by_cases he:i=prev.length
  ·subst he
   have ho':ops.toList[prev.length]?=some o:=by simpa using ho
   rw[<- hl,List.getElem?_append_right (by simp)] at ho'
   simp at ho'
   subst ho'
   have ha:Fg ops prev.length=(CO q).flatMap fun j=>j::(Hn prev.reverse []).getD ((Hn prev.reverse []).length - 1 - j) []:=by
    unfold Fg
    rw[<- hl,Jy,Hn]
    obtain⟨p,hp,hpl⟩:=N2 l (((CO q).flatMap fun j=>j::(Hn prev.reverse []).getD ((Hn prev.reverse []).length - 1 - j) [])::Hn prev.reverse [])
    have hs:ops.size - 1 - prev.length=p.length:=by
     have:ops.toList.length=prev.length + (l.length + 1):=by rw[<- hl];simp
     simp only[Array.length_toList] at this
     omega
    rw[hp,hs]
    simp
   simp only[X27]
   refine⟨⟨h1,h2⟩,?_⟩
   rw[List.all_eq_true]
   intro j hj
   have hj:=List.mem_range.1 hj
   have hjs :∃p,ops[j]?=some p/\prev.reverse[j]?=some p:=by
    have hlt:j<prev.reverse.length:=by simpa using hj
    refine⟨prev.reverse[j],?_,X15 hlt⟩
    have:ops.toList[j]?=some prev.reverse[j]:=by rw[<- hl,List.getElem?_append_left hlt,X15 hlt]
    simpa using this
   obtain⟨p,hp1,hp2⟩:=hjs
   rw[Bool.or_eq_true]
   rcases SE h3 j p hj hp2 with g | g
   ·left
    rw[ha]
    simpa using QX hR (CO q) j g
   right
   rw[hp1]
   exact g
  refine RF l (q::prev) _ (by simpa using hl) ?_ h4 i o (by simp;omega) ho
  rw[List.reverse_cons,Jy]
  exact hR.cons (CO q)
theorem X0 {ops:Array Oper} (h:drawB ops=true):HW ops=true:=by
 unfold HW
 rw[List.all_eq_true]
 intro i hi
 have hi:=List.mem_range.1 hi
 have:=RF ops.toList [] [] (by simp) ⟨rfl,fun k j hk=>by simp at hk⟩ h i ops[i] (by simp) (by simp[hi])
 simp only[hi,getElem?_pos]
 exact this
def confB.conf (M:List Nat) (n i:Nat) (fp wr:List Nat):Nat->List (List Nat×List Nat)->Bool
 | _,[]=>true
 | j,(fp',wr')::l=>((M.getD (n - 1 - j) 0).testBit i || ((wr.all fun r=>!fp'.contains r)&&fp.all fun r=>!wr'.contains r))&&confB.conf M n i fp wr (j + 1) l
def confB.go (M:List Nat) (n:Nat):Nat->List (List Nat×List Nat)->Bool
 | _,[]=>true
 | i,(fp,wr)::l=>confB.conf M n i fp wr (i + 1) l&&confB.go M n (i + 1) l
def confB (ops:Array Oper) (evs:List (List Nat×List Nat)):Bool:=confB.go (YA ops.toList []) ops.size 0 evs
theorem ZH {ops:Array Oper} {evs:List (List Nat×List Nat)} (h:confB ops evs=true):FG ops 0 evs=true:=by
 have hR:=YS ops.toList (masks:=[]) (acc:=[]) ⟨rfl,fun k j hk=>by simp at hk⟩
 have c :∀(l:List (List Nat×List Nat)) (i:Nat) (fp wr:List Nat) (j:Nat),confB.conf (YA ops.toList []) ops.size i fp wr j l=true->FG.conf ops i fp wr j l=true:=by
  intro l
  induction l with
  | nil=>intro i fp wr j _;rfl
  | cons x l ih=>
   intro i fp wr j hc
   obtain⟨fp',wr'⟩:=x
   simp only[confB.conf,X27] at hc
   simp only[FG.conf,X27]
   refine⟨?_,ih _ _ _ _ hc.2⟩
   have hc1:=hc.1
   rw[Bool.or_eq_true] at hc1 ⊢
   rcases hc1 with g | g
   ·exact .inl (by simpa[Fg] using hR.2 _ _ g)
   exact .inr g
 have g :∀(l:List (List Nat×List Nat)) (i:Nat),confB.go (YA ops.toList []) ops.size i l=true->FG ops i l=true:=by
  intro l
  induction l with
  | nil=>intro i _;rfl
  | cons x l ih=>
   intro i hc
   obtain⟨fp,wr⟩:=x
   simp only[confB.go,X27] at hc
   simp only[FG,X27]
   exact⟨c _ _ _ _ _ hc.1,ih _ hc.2⟩
 exact g _ _ h
theorem dOB {ops:Array Oper} {K:Prop} (h:drawB ops=true) (k:K):HW ops=true/\K:=⟨X0 h,k⟩
theorem cOB {ops:Array Oper} {e:List (List Nat×List Nat)} {K:Prop} (h:confB ops e=true) (k:K):FG ops 0 e=true/\K:=⟨ZH h,k⟩
theorem A3 (x:UInt8):IntKind.i64.wrap (x.toNat:Int)=(x.toNat:Int):=by
 have:=x.toNat_lt
 exact TO rfl ⟨by omega,by omega⟩
def Dh (x:Int):UInt8:=UInt8.ofNat (x % 256).toNat
def Az (x:Int):UInt64:=UInt64.ofNat (x % 18446744073709551616).toNat
theorem Bc (x:Int):IntKind.u8.wrap x=((Dh x).toNat:Int):=by
 have e:(2 ^ IntKind.u8.bits:Int)=256:=by decide
 simp only[IntKind.wrap,IntKind.signed,e,Dh,UInt8.toNat_ofNat']
 simp
 omega
theorem As (x:Int):IntKind.u64.wrap x=((Az x).toNat:Int):=by
 have e:(2 ^ IntKind.u64.bits:Int)=18446744073709551616:=by decide
 simp only[IntKind.wrap,IntKind.signed,e,Az,UInt64.toNat_ofNat']
 simp
 omega
theorem PX {n:Int} (h:0<=n/\n<256):((Dh n).toNat:Int)=n:=by
 simp only[Dh,UInt8.toNat_ofNat'];simp;omega
theorem Um {n:Int} (h:0<=n/\n<18446744073709551616):((Az n).toNat:Int)=n:=by
 simp only[Az,UInt64.toNat_ofNat'];simp;omega
theorem Pv {n m:Nat} (s:Nat) (h:n<m):0<=(n:Int).fdiv (2 ^ s)/\(n:Int).fdiv (2 ^ s)<m:=by
 have e:(2 ^ s:Int)=((2 ^ s:Nat):Int):=by simp
 rw[e,Int.fdiv_eq_ediv_of_nonneg _ (Int.natCast_nonneg _),<- Int.natCast_ediv]
 have:=Nat.div_le_self n (2 ^ s)
 generalize n / 2 ^ s=q at *
 omega
theorem al (x:UInt8) (s:Nat):(x.toNat:Int).fdiv (2 ^ s)=((Dh ((x.toNat:Int).fdiv (2 ^ s))).toNat:Int):=(PX (Pv s x.toNat_lt)).symm
theorem SX (x:UInt64) (s:Nat):(x.toNat:Int).fdiv (2 ^ s)=((Az ((x.toNat:Int).fdiv (2 ^ s))).toNat:Int):=(Um (Pv s x.toNat_lt)).symm
end Go.AX
end
section
namespace Go.AX
open Go.RowKit Go.Deep Go.ChangeShapes Go.WideShapes Go.ChangeAt
section
variable {H:Type} {enc:TypeId×Value->H} {P:Program} {w:World}
theorem Reads.map' {t:Nat} {α β:Type} {cells:α->List D} {ok:α->Prop} (h:Reads enc P w t cells ok) {cells':β->List D} {ok':β->Prop} (g:α->β) (hc :∀a,ok a->cells' (g a)=cells a) (hk :∀a,ok a->ok' (g a)):Reads enc P w t cells' ok':=by
 intro fuel cs x hx hw
 obtain⟨a,h1,h2⟩:=h fuel cs x hx hw
 exact⟨g a,hk a h1,by rw[hc a h1];exact h2⟩
theorem VQ {k:IntKind} {n:Int} (h:(Lit.int k n).wf=true):k.min<=n/\n<=k.max:=by simpa[Lit.wf] using h
theorem reads_i64 {t:Nat} (ht:P.underlying t=some (.int .i64)):Reads enc P w t (fun n:Int=>[D.i n]) I64:=
 (RO ht).map' id (fun _ _=>rfl) fun a h=>by
  have:=VQ h
  simpa[IntKind.min,IntKind.max,IntKind.signed,IntKind.bits,I64] using this
theorem reads_u8 {t:Nat} (ht:P.underlying t=some (.int .u8)):Reads enc P w t (fun n:UInt8=>[D.u8 n]) (fun _=>True):=
 (RO ht).map' Dh (fun a h=>by
  have:=VQ h
  have:=PX (n:=a) (by simp[IntKind.min,IntKind.max,IntKind.signed,IntKind.bits] at this;omega)
  simp only[D.u8,this]) fun _ _=>trivial
theorem open_one {t:Nat} {td:TypeDesc} (ht:P.underlying t=some td) (hk:(match td with | .int _ | .bool | .string | .slice _=>true | _=>false)=true) {α:Type} {c:α->D} {ok:α->Prop} (h:Reads enc P w t (fun a=>[c a]) ok) {base:Nat} {v:Value} {d:DataW H} {p:List MemPlace}
  (hval:Value.okWide P w .any base t v) (hv:DataW.Trod enc P w 0 (fun _=>true) true t v d p) (hw:Wt P t d) :∃x,ok x/\RepA (Old w) w (fun _=>none) (ofL []) (.d (c x)) v:=by
 obtain⟨fuel,hf⟩:=hv
 obtain⟨x,h1,h2⟩:=h fuel _ _ hf hw
 refine⟨x,h1,.d _ _ (RepI.val (?_:RepI w [c x] [v]))⟩
 have hna :∀cs,v≠.agg cs:=by
  rintro cs rfl
  unfold Value.okWide at hval
  rw[ht] at hval
  cases td<;>simp at hk<;>simp[Cell.okWide,Cell.ok,ht] at hval
 have:v.cells.toList=[v]:=by
  cases v<;>first | rfl | (rename_i cs;exact absurd rfl (hna cs))
 rwa [this] at h2
theorem open_struct {t:Nat} {F:Array Field} (ht:P.underlying t=some (.struct F)) {α:Type} {c:α->List D} {ok:α->Prop} (h:Reads enc P w t c ok) {base:Nat} {v:Value} {d:DataW H} {p:List MemPlace}
  (hval:Value.okWide P w .any base t v) (hv:DataW.Trod enc P w 0 (fun _=>true) true t v d p) (hw:Wt P t d) :∃x,ok x/\RepA (Old w) w (fun _=>none) (ofL []) (.d (.agg (c x))) v:=by
 unfold Value.okWide at hval
 rw[ht] at hval
 obtain⟨cs,rfl,_⟩:=hval
 obtain⟨x,h1,h2⟩:=W9 h hv hw
 exact⟨x,h1,.d _ _ h2⟩
inductive Opened (w:World):List Value->List AV->Prop
 | nil:Opened w [] []
 | cons {v:Value} {x:D} {vs:List Value} {avs:List AV} (h:RepA (Old w) w (fun _=>none) (ofL []) (.d x) v) (t:Opened w vs avs):Opened w (v::vs) (.d x::avs)
theorem Opened.get {vs:List Value} {avs:List AV} (h:Opened w vs avs):vs.length=avs.length/\∀i (hi:i<avs.length),RepA (Old w) w (fun _=>none) (ofL []) avs[i] (vs.getD i undef)/\Closed (ofL []) avs[i]:=by
 induction h with
 | nil=>exact⟨rfl,fun i hi=>by simp at hi⟩
 | cons h t ih=>
  refine⟨by simp[ih.1],fun i hi=>?_⟩
  cases i with
  | zero=>exact⟨h,A6 _ _⟩
  | succ i=>simpa using ih.2 i (by simpa using hi)
theorem Kx (hl:laidOutB P=true) {W W':World} (hb:Below W.heap.size W W') :∀{ts:List TypeId} {vs:List Value} {ds:List (DataW H)} {ps:List MemPlace},
  (ts.all fun t=>P.readableRec t&&decide (t<P.types.size))=true->DataW.TrodAll enc P W 0 (fun _=>true) true ts vs ds ps->DataW.TrodAll enc P W' 0 (fun b=>decide (b<W.heap.size)) true ts vs ds ps
 | [],[],[],_,_,h=>h
 | t::ts,v::vs,d::ds,ps,hr,h=>by
  have hlt:=h.lt
  obtain⟨p,q,h1,h2,rfl⟩:=h
  simp only[List.all_cons,X27,decide_eq_true_eq] at hr
  exact⟨p,q,Below.trod hl hr.1.1 hr.1.2 h1 hb fun x hx=>hlt x (by simp[hx]),Kx hl hb hr.2 h2,rfl⟩
 | [],[],_::_,_,_,h=>h.elim
 | [],_::_,_,_,_,h=>h.elim
 | _::_,[],_,_,_,h=>h.elim
 | _::_,_::_,[],_,_,h=>h.elim
theorem trodAll_length :∀{ts:List TypeId} {vs:List Value} {ds:List (DataW H)} {ps:List MemPlace} {sp:Nat->Bool},DataW.TrodAll enc P w 0 sp true ts vs ds ps->ds.length=ts.length/\vs.length=ts.length
 | [],[],[],_,_,_=>⟨rfl,rfl⟩
 | t::ts,v::vs,d::ds,_,_,h=>by
  obtain⟨p,q,_,h2,_⟩:=h
  obtain⟨a,b⟩:=trodAll_length h2
  exact⟨by simp[a],by simp[b]⟩
 | [],[],_::_,_,_,h=>h.elim
 | [],_::_,_,_,_,h=>h.elim
 | _::_,[],_,_,_,h=>h.elim
 | _::_,_::_,[],_,_,h=>h.elim
end
end Go.AX
end
section
namespace Go.AX
open Go.WideElems
section
variable {H:Type} {enc:TypeId×Value->H} {P:Program} {w:World} {sp:Nat->Bool} {held:Bool} {t k e:TypeId}
theorem keyOf_int {kd:IntKind} (hk:P.underlying k=some (.int kd)) {v:Value} {y:Lit} (h:keyOf P k v=some y) :∃n,v=.int kd n/\y=.int kd n:=by
 have h':mapKey P k v=some y:=by
  unfold keyOf at h
  rw[hk] at h
  exact h
 unfold mapKey at h'
 rw[hk] at h'
 cases v with
 | int q n=>
  simp only at h'
  split at h'
  ·rename_i hc
   obtain⟨rfl,_⟩:=hc
   exact⟨n,rfl,(X25 h').symm⟩
  cases h'
 | _=>simp at h'
theorem VL {kd:IntKind} (ht:P.underlying t=some (.map k e)) (hk:P.underlying k=some (.int kd)) {fuel:Nat} {cs:List Value} {tab:List (Lit×DataW H)} {p:List MemPlace}
  (h:DataW.trod enc P w 0 sp held fuel t cs=some (.map tab,p)) (D2:Lit×DataW H->D×D)
  (hD :∀(n:Int) (v:Value) (d:DataW H) (m:Nat) (q:List MemPlace),(Lit.int kd n,d) ∈ tab->DataW.trod enc P w 0 sp held m e v.cells.toList=some (d,q)->v.formed P e=true->D2 (.int kd n,d)=(.val (.int kd n),.val v)/\v.oneCell'=true) :
  ∃b arr clock,cs=[.map (some b)]/\w.heap[b]?=some (.map arr clock)/\(arr.toList.map fun x=>(D.val x.key,D.val x.val)).Perm (tab.map D2)/\∀x ∈ arr.toList,x.key.oneCell'=true/\x.val.oneCell'=true:=by
 rcases open_map ht h with ⟨_,hx⟩|⟨b,arr,clock,n,_,hcs,hb,_,F,hx⟩
 ·simp at hx
 simp only[X26,DataW.map.injEq] at hx
 have hp:tab.Perm (arr.toList.map (rg P k (elemAt enc P w 0 sp held n e))):=by
  rw[hx.1];exact Go.WideShapes.sorted_perm _
 have hone :∀x ∈ arr.toList,D2 (rg P k (elemAt enc P w 0 sp held n e) x)=(D.val x.key,D.val x.val)/\x.key.oneCell'=true/\x.val.oneCell'=true:=by
  intro x hx
  obtain⟨⟨yl,yd⟩,hy⟩:=F.reads x hx
  have hmem:(yl,yd) ∈ tab:=hp.mem_iff.2 (List.mem_map.2 ⟨x,hx,rg_of hy⟩)
  rw[rg_of hy]
  have hkey:=rd_key hy
  obtain⟨m,h1,h2⟩:=keyOf_int hk hkey
  unfold rd at hy
  rw[hkey,Option.bind_some,Option.map_eq_some_iff] at hy
  obtain⟨⟨d,q⟩,hd,hy⟩:=hy
  simp only[X26,true_and] at hy
  subst hy
  unfold elemAt at hd
  split at hd
  ·rename_i hf
   dsimp only at h2
   subst h2
   obtain⟨g1,g2⟩:=hD m x.val d n q hmem hd hf
   rw[h1]
   exact⟨g1,rfl,g2⟩
  simp at hd
 refine⟨b,arr,clock,hcs,hb,?_,fun x hx=>(hone x hx).2⟩
 have e:(arr.toList.map fun x=>(D.val x.key,D.val x.val))=(arr.toList.map (rg P k (elemAt enc P w 0 sp held n e))).map D2:=by
  rw[List.map_map]
  exact List.map_congr_left fun x hx=>(hone x hx).1.symm
 rw[e]
 exact (hp.symm.map D2)
end
section
variable {H:Type} {enc:TypeId×Value->H} {P:Program} {w:World}
open Go.ChangeShapes Go.WideShapes Go.ChangeAt Go.RowKit
theorem frame_contractX {X:World->Prop} {wl:WL} {C:Checked} {f:FuncId} {fn:Func} {s:ChangeSpec} {b:TypeId} (hl:laidOutB C.prog=true) (hvars:s.vars=[]) (hfn :∀ds:List (DataW H),ds.length=fn.params.size->s.fn H (ds++[])={ results:=[.lit (.bool true)],args:=ds })
  (hres:fn.resultTypes=#[b]) (hb:C.prog.underlying b=some .bool) (hread:(fn.params.toList.all fun t=>C.prog.readableRec t&&decide (t<C.prog.types.size))=true)
  (law :∀(W:World),X W->∀(base:Nat) (args:Array Value) (ds:List (DataW H)) (p:List MemPlace),(∀(j:Nat) t v,fn.params[j]?=some t->args[j]?=some v->Value.okWide C.prog W .any base t v)->
   DataW.TrodAll enc C.prog W 0 (fun _=>true) true fn.params.toList args.toList ds p->(∀(j:Nat) t d,fn.params.toList[j]?=some t->ds[j]?=some d->Wt C.prog t d)->∃avs,Opened W args.toList avs/\CallsOK wl C.prog f avs [] (.b true) []/\∃gb:Nat->Prop,wl.gf gb W/\∀b,gb b->b<W.heap.size) :
  ∀(W:World),X W->∀(base:Nat) (args:Array Value) (ds gs:List (DataW H)) (before:List MemPlace),
   (∀(j:Nat) t v,fn.params[j]?=some t->args[j]?=some v->Value.okWide C.prog W .any base t v)->
   DataW.Whole enc C.prog fn.params.toList s.vars false W args.toList ds gs before->
   (DataW.weightsEach C.prog (fn.params.toList++s.plain.varTypes C.prog) (ds++gs)).all (·<=reachBytes)=true->
   Calls C.prog f args W fun e W'=>∃v,e=.returned v/\s.post enc C.prog fn false true false false W args v W':=by
 intro W hX base args ds gs before hval hW hwt
 have hW':=hW
 obtain⟨p,q,hA,hV,rfl,hfz,hnd⟩:=hW
 rw[hvars] at hV
 obtain⟨rfl,rfl⟩:=trodVars_none hV
 have hd:ds.length=fn.params.size:=by simpa using (trodAll_length hA).1
 obtain⟨avs,h1,h2,gb,hgb⟩:=law W hX base args ds p hval hA fun j t d ht hd'=>List.all_eq_true.2 fun n hn=>List.all_eq_true.1 hwt n (DataW.weights_mem_each (j:=j) (by
  rw[List.getElem?_append_left (X16.1 ht).1];exact ht) (by rw[List.getElem?_append_left (X16.1 hd').1];exact hd') n hn)
 obtain⟨o1,o2⟩:=h1.get
 refine (XG h2 W hgb args (by simpa using o1) fun i hi=>by simpa[<- Array.getElem?_toList] using o2 i hi).mono fun e W' ⟨he,bel⟩=>?_
 subst he
 refine⟨_,rfl,ds,[],p++[],[],p,[],hW',?_,?_,?_,bel.frame _,fun h=>by cases h⟩
 ·rw[hfn ds hd,hres]
  exact trodAll_mk1 (shut_bool hb _)
 ·rw[hfn ds hd]
  exact Kx hl bel hread hA
 rw[hfn ds hd,hvars]
 rfl
end
theorem OC {tk:TK} {x:D} {l m:List (D×D)} (hp:l.Perm m) (hk :∀p ∈ l,∃n,p.1=.val (.int .i64 n)) (hd:l.Pairwise fun a b=>a.1≠b.1) {q:Option D} (h:BL tk x l=some q):BL tk x m=some q:=by
 induction hp generalizing q with
 | nil=>exact h
 | cons p hp ih=>
  simp only[BL] at h ⊢
  have h1:=List.pairwise_cons.1 hd
  split at h
  ·exact h
  ·exact ih (fun p hp=>hk p (X19 _ hp)) h1.2 h
  cases h
 | swap a b l=>
  obtain⟨i,hi⟩:=hk b (by simp)
  obtain⟨j,hj⟩:=hk a (by simp)
  have hne:b.1≠a.1:=(List.pairwise_cons.1 hd).1 a (by simp)
  simp only[BL,hi,hj] at h ⊢
  rw[hi,hj] at hne
  have hij:i≠j:=fun e=>hne (by rw[e])
  cases hx1:Dt tk x (.val (.int .i64 i)) with
  | none=>rw[hx1] at h;cases h
  | some b1=>
   have hx2 :∃b2,Dt tk x (.val (.int .i64 j))=some b2/\(b1=true->b2=false):=by
    unfold Dt at hx1 ⊢
    split at hx1
    ·rename_i kk a' kk' bb heq
     cases heq
     split at hx1
     ·rename_i hkk
      rw[if_pos hkk]
      refine⟨_,rfl,fun hb=>?_⟩
      obtain rfl:=X25 hx1
      simp only[beq_iff_eq] at hb
      subst hb
      simpa using hij
     cases hx1
    ·rename_i heq;cases heq
    ·rename_i heq;cases heq
    cases hx1
   obtain⟨b2,hx2,hb⟩:=hx2
   rw[hx1,hx2] at h
   rw[hx2]
   cases b1
   ·cases b2<;>exact h
   rw[hb rfl]
   exact h
 | trans h1 h2 ih1 ih2=>
  refine ih2 (fun p hp=>hk p (h1.mem_iff.2 hp)) ((h1.pairwise_iff fun h e=>h e.symm).1 hd) (ih1 hk hd h)
theorem Rn {w:World} {arr:List MapEntry} (h :∀x ∈ arr,x.key.oneCell'=true/\x.val.oneCell'=true):EntsOK (fun _ _=>False) w (arr.map fun x=>(D.val x.key,D.val x.val)) arr:=by
 refine⟨by simp,fun i hi=>?_⟩
 have hi':i<arr.length:=by simpa using hi
 refine⟨arr[i],X15 hi',⟨arr[i].key,by simp,rfl,(h _ (List.getElem_mem hi')).1⟩,?_⟩
 simp only[List.getElem_map]
 exact .val _ (h _ (List.getElem_mem hi')).2
end Go.AX
end
section
namespace Go.AX
theorem Wh {α σ ρ:Type} {done:σ->Option ρ} {body:(σ->Option ρ)->α->Nat->σ->Option ρ} (P:List α->Nat->σ->Prop) (F:List α->Nat->σ->Option ρ)
  (hd :∀i s,P [] i s->done s=F [] i s)
  (hs :∀(next:σ->Option ρ) x t i s,P (x::t) i s->(∀s,P t (i + 1) s->next s=F t (i + 1) s)->body next x i s=F (x::t) i s) :
  ∀(l:List α) (i:Nat) (s:σ),P l i s->An done body l i s=F l i s
 | [],i,s,h=>hd i s h
 | x::t,i,s,h=>hs _ x t i s h fun s' h'=>Wh P F hd hs t (i + 1) s' h'
theorem CU {σ ρ:Type} {body:(σ->Option ρ)->σ->Option ρ} (P:σ->Prop) (μ:σ->Nat) (F:σ->Option ρ)
  (hs :∀(next:σ->Option ρ) s,P s->(∀s',P s'->μ s'<μ s->next s'=F s')->body next s=F s) :
  ∀(n:Nat) (s:σ),P s->μ s<n->Av body n s=F s
 | 0,s,_,h=>absurd h (Nat.not_lt_zero _)
 | n + 1,s,h,hm=>hs _ s h fun s' h' hlt=>CU P μ F hs n s' h' (by omega)
theorem Rz {σ ρ:Type} {body:(σ->Option ρ)->σ->Option ρ} (P:σ->Prop) (μ:σ->Nat) (Q:ρ->Prop)
  (hs :∀(next:σ->Option ρ) s,P s->(∀s',P s'->μ s'<μ s->∃r,next s'=some r/\Q r)->∃r,body next s=some r/\Q r) :
  ∀(n:Nat) (s:σ),P s->μ s<n->∃r,Av body n s=some r/\Q r
 | 0,s,_,h=>absurd h (Nat.not_lt_zero _)
 | n + 1,s,h,hm=>hs _ s h fun s' h' hlt=>Rz P μ Q hs n s' h' (by omega)
theorem BM {α:Type} {l:List α} {a b:Nat} (h1:a<=b) (h2:b<=l.length):part l (a:Int) (b:Int)=some ((l.drop a).take (b - a)):=by
 unfold part
 rw[if_pos (by omega)]
 simp
theorem WS {α σ ρ:Type} {done:σ->Option ρ} {body:(σ->Option ρ)->α->Nat->σ->Option ρ} (P:List α->Nat->σ->Prop) (Q:ρ->Prop)
  (hd :∀i s,P [] i s->∃r,done s=some r/\Q r)
  (hs :∀(next:σ->Option ρ) x t i s,P (x::t) i s->(∀s,P t (i + 1) s->∃r,next s=some r/\Q r)->∃r,body next x i s=some r/\Q r) :
  ∀(l:List α) (i:Nat) (s:σ),P l i s->∃r,An done body l i s=some r/\Q r
 | [],i,s,h=>hd i s h
 | x::t,i,s,h=>hs _ x t i s h fun s' h'=>WS P Q hd hs t (i + 1) s' h'
theorem NV (l:List UInt8):(bs l).toList=l:=by rw[ByteArray.toList_eq];simp[bs]
theorem Xg (a:Array UInt8):(ByteArray.mk a).toList=a.toList:=ByteArray.toList_eq _
theorem Bo {n:Nat} (h:n<18446744073709551616):n<fuel:=h
theorem Ag {α:Type} {b:Nat} {l m:List α} (hb:Nat.ble b 65536=true) (h:l.length + m.length<=1000000000):apnd b l m=some (l++m):=by
 unfold apnd
 have hb:=X29 hb
 rw[if_pos]
 refine⟨?_,by omega⟩
 calc _<=1000000000 * 65536:=Nat.mul_le_mul h hb
  _<=2 ^ 47:=by decide
theorem YN {α:Type} {b:Nat} {l m:List α} (hb:0<b) (h:(l.length + m.length) * b<=140737488355328):apnd b l m=some (l++m):=by
 unfold apnd
 have:l.length + m.length<=(l.length + m.length) * b:=Nat.le_mul_of_pos_right _ hb
 rw[if_pos ⟨h,by omega⟩]
theorem Bz {α:Type} {l:List α} {i:Nat} (h:i<l.length):geti l (i:Int)=some l[i]:=by
 unfold geti
 rw[if_pos (by omega)]
 simp[h]
theorem KI {α:Type} (pre:List α) (x:α) (t:List α):geti (pre++x::t) (pre.length:Int)=some x:=by
 rw[Bz (by simp)];simp
theorem AQ {x:Int} (h:-9223372036854775808<=x/\x<=9223372036854775807):AK x=x:=TO rfl h
theorem AC {α β:Type} (a:α) (f:α->Option β):(some a).bind f=f a:=Eq.trans rfl rfl
theorem AG {τ ρ:Type} (m:(τ->Option ρ)->Option ρ) (k:τ->Option ρ):AI m k=m k:=Eq.trans rfl rfl
end Go.AX
end
section
namespace Go.AX
theorem wk {np:Nat} {s s':ASt} (par:((List.range np).all fun r=>!(s.ob.getD r none).isSome || (s'.ob.getD r none).isSome)=true:=by rfl)
  (tm:tmW s s' s.tm s'.tm:=by
   repeat' (first
    | exact AvW.refl _
    | refine And.intro ?_ ?_
    | exact True.intro
    | exact AvW.norm _
    | exact AvW.fresh _ _ _ rfl rfl
    | exact AvW.lst _ _ _ _ _ _ rfl (by first | rfl | (simp only[X10];omega)) (.inl rfl)
    | exact AvW.lst _ _ _ _ _ _ rfl (by first | rfl | (simp only[X10];omega)) (.inr rfl)
    | exact AvW.ownL _ _ _ (by first | rfl | (simp only[X10];omega))
    | exact AvW.osl _ _ _ _ _ (by first | rfl | (simp only[X10];omega))
    | exact AvW.oslD _ _ _ _ _ _ _ _ _ rfl (by first | rfl | (simp only[X10];omega)) Yy (.inl rfl)
    | exact AvW.oslD _ _ _ _ _ _ _ _ _ rfl (by first | rfl | (simp only[X10];omega)) Yy (.inr rfl)
    | refine AvW.tupL ?_
    | refine AvW.daggL rfl ?_
    | refine AvW.aggL rfl ?_
    | refine AvW.aggDL ?_
    | refine AvW.box _ _ _ _ rfl rfl rfl (Nat.zero_lt_succ _) ?_
    | exact rfl))
  (ob:obW s s' s.ob s'.ob:=by
   repeat' (first
    | exact AvW.refl _
    | refine And.intro ?_ ?_
    | exact rfl
    | exact True.intro
    | refine Exists.intro _ (And.intro rfl ?_)
    | exact .inl ⟨_,rfl,id,True.intro⟩
    | exact .inl ⟨_,rfl,fun _=>rfl,True.intro⟩
    | exact .inl ⟨_,rfl,id,.inr ⟨_,_,rfl,rfl,(by first | rfl | (simp only[X10];omega))⟩⟩
    | exact .inl ⟨_,rfl,id,.inl (X29 rfl)⟩
    | exact .inl ⟨_,rfl,id,.inl (Nat.le_of_eq (by assumption))⟩
    | exact .inr ⟨rfl,rfl,by decide⟩
    | exact .inl rfl
    | exact .inr ⟨_,_,_,rfl⟩
    | exact .inl ⟨_,rfl,(by first | rfl | (simp only[X10];omega))⟩
    | exact AvW.norm _
    | exact AvW.fresh _ _ _ rfl rfl
    | exact AvW.lst _ _ _ _ _ _ rfl (by first | rfl | (simp only[X10];omega)) (.inl rfl)
    | exact AvW.lst _ _ _ _ _ _ rfl (by first | rfl | (simp only[X10];omega)) (.inr rfl)
    | exact AvW.ownL _ _ _ (by first | rfl | (simp only[X10];omega))
    | refine AvW.tupL ?_
    | refine AvW.daggL rfl ?_
    | refine AvW.aggL rfl ?_
    | refine AvW.aggDL ?_
    | refine AvW.box _ _ _ _ rfl rfl rfl (Nat.zero_lt_succ _) ?_))
  (closed:ME s'=true:=by rfl):Weak np s s':=.mk par tm ob closed
theorem ZJ {α:Type} {b:Nat} {r:List α} (h:Option.bind (apnd (α:=α) b [] []) (fun v=>some v)=some r):(some []:Option (List α))=some r:=by
 simpa[apnd] using h
end Go.AX
end
section
namespace Go.AX
open Go
def Jw:List AV->List AV->Prop
 | [],[]=>True
 | a::l,b::m=>(b=a \/∃sz,a=.d (.nil sz)/\b=.d (.lst sz []))/\Jw l m
 | _,_=>False
theorem P9 :∀{l m:List AV},Jw l m->l.length=m.length/\∀i (h:i<l.length) (h':i<m.length),m[i]=l[i] \/∃sz,l[i]=.d (.nil sz)/\m[i]=.d (.lst sz [])
 | [],[],_=>⟨rfl,fun i h=>by simp at h⟩
 | a::l,b::m,h=>by
  obtain⟨h1,h2⟩:=h
  obtain⟨g1,g2⟩:=P9 h2
  refine⟨by simp[g1],fun i hi hi'=>?_⟩
  cases i with
  | zero=>exact h1
  | succ i=>exact g2 i (by simpa using hi) (by simpa using hi')
 | [],_::_,h=>by simp[Jw] at h
 | _::_,[],h=>by simp[Jw] at h
theorem OO :∀{l m:List AV},Jw l m->∀r ∈ AV.refs.refsL m,r ∈ AV.refs.refsL l
 | [],[],_,r,h=>h
 | a::l,b::m,h,r,hr=>by
  obtain⟨h1,h2⟩:=h
  simp only[AV.refs.refsL,X23] at hr ⊢
  rcases hr with hr | hr
  ·rcases h1 with rfl | ⟨sz,rfl,rfl⟩
   ·exact .inl hr
   simp[AV.refs] at hr
  exact .inr (OO h2 r hr)
 | [],_::_,h,_,_=>by simp[Jw] at h
 | _::_,[],h,_,_=>by simp[Jw] at h
theorem CallsOK.box1 {wl:WL} {P:Program} {f:FuncId} {args:List AV} {cs cs':List AV} {res:AV} {objs':List OB} (h:CallsOK wl P f args [.box cs'] res objs') (hc:Jw cs cs'):CallsOK wl P f args [.box cs] res objs':=by
 obtain⟨c1,c2⟩:=P9 hc
 refine⟨h.1,fun w S φ gb hg vals hv ha hr m=>?_⟩
 have e0:ofL [OB.box cs] 0=some (.box cs):=rfl
 have e1:upd (ofL [OB.box cs]) 0 (some (.box cs'))=ofL [OB.box cs']:=by
  funext r
  cases r with
  | zero=>rfl
  | succ r=>simp[upd,ofL]
 have e2:upd φ 0 (φ 0)=φ:=by funext i;by_cases hi:i=0<;>simp[upd,hi]
 obtain⟨m',k'⟩:=m.set 0 (.box cs) (.box cs') w (φ 0) e0 (fun _ _ _=>rfl) (Nat.le_refl _) ⟨rfl,rfl,rfl,Nat.le_refl _⟩ (fun _ _ _ _ _=>rfl) (.inl rfl)
  (.inl ⟨upd_same _ _ _,by rw[upd_same,e0];rfl,fun _=>⟨cs,e0⟩⟩) (fun r' hr'=>m.men 0 _ e0 r' (OO hc r' hr')) fun hk=>by
   obtain⟨b,c,vs,e,g,g1,g2,g3,g4,g5,g6⟩:=m.obj 0 _ e0
   refine⟨b,c,vs,e,g,by rw[upd_same];exact g1,g2,by omega,g4,fun j hj=>g5 j (by omega),fun j hj=>?_⟩
   obtain⟨o1,o2⟩:=g6 j (by omega)
   rcases c2 j (by omega) hj with q | ⟨sz,q1,q2⟩
   ·rw[q]
    refine⟨o1,hk.rep (fun r' hr'=>m.men 0 _ e0 r' ?_) o2⟩
    exact AV.refs_mem cs j (by omega) r' hr'
   rw[q1] at o2
   rw[q2]
   refine⟨rfl,?_⟩
   generalize g j=u at o2 ⊢
   cases o2 with | d _ _ o2=>
   cases o2 with | nil=>
   exact .d _ _ (.lst0 _ _ _)
 rw[e1,e2] at m' k'
 have hcl :∀r,ofL [OB.box cs] r≠none->ofL [OB.box cs'] r≠none:=fun r q=>k'.c r q
 refine (h.2 w S φ gb hg vals hv (fun i hi=>⟨k'.rep (ha i hi).2 (ha i hi).1,k'.closed (ha i hi).2⟩) hr m').mono ?_
 rintro e w' ⟨v,rfl,S',φ',q1,q2,q3,q4⟩
 exact⟨v,rfl,S',φ',q1,k'.trans q2,q3,q4⟩
end Go.AX
end
section
namespace Go.AX.Q33
open Go Go.AX Go.Proofs
set_option maxRecDepth 100000
def ti3:TI:=⟨.int .i64,1,8,[.val (.int .i64 0)]⟩
def ti4:TI:=⟨.bool,1,1,[.val (.bool false)]⟩
def ti5:TI:=⟨.int .u8,1,1,[.val (.int .u8 0)]⟩
def ti9:TI:=⟨.str,1,16,[.val (.string ByteArray.empty)]⟩
def c8:TI:=⟨.slice 5,1,24,[.nil 1]⟩
def cZ:TI:=⟨.struct [(0,1,3),(1,1,22)],2,32,[.val (.int .i64 0),.nil 1]⟩
def dS:TI:=⟨.struct [(0,1,3),(1,1,22)],2,32,[.val (.int .i64 0),.nil 1]⟩
def cm:TI:=⟨.slice 3,1,24,[.nil 1]⟩
def dG:TI:=⟨.ptr,1,8,[.val (.pointer none)]⟩
def ci:TI:=⟨.struct [(0,1,3),(1,1,3),(2,1,3),(3,1,3),(4,1,3),(5,1,4)],6,48,[.val (.int .i64 0),.val (.int .i64 0),.val (.int .i64 0),.val (.int .i64 0),.val (.int .i64 0),.val (.bool false)]⟩
def cr:TI:=⟨.struct [(0,1,3),(1,1,3),(2,1,3),(3,1,3),(4,1,3),(5,1,4)],6,48,[.val (.int .i64 0),.val (.int .i64 0),.val (.int .i64 0),.val (.int .i64 0),.val (.int .i64 0),.val (.bool false)]⟩
def cf:TI:=⟨.struct [(0,1,3),(1,6,30),(7,1,3),(8,6,30),(14,1,3),(15,1,3)],16,128,[.val (.int .i64 0),.val (.int .i64 0),.val (.int .i64 0),.val (.int .i64 0),.val (.int .i64 0),.val (.int .i64 0),.val (.bool false),.val (.int .i64 0),.val (.int .i64 0),.val (.int .i64 0),.val (.int .i64 0),.val (.int .i64 0),.val (.int .i64 0),.val (.bool false),.val (.int .i64 0),.val (.int .i64 0)]⟩
def ch:TI:=⟨.struct [(0,1,3),(1,6,30),(7,1,3),(8,6,30),(14,1,3),(15,1,3)],16,128,[.val (.int .i64 0),.val (.int .i64 0),.val (.int .i64 0),.val (.int .i64 0),.val (.int .i64 0),.val (.int .i64 0),.val (.bool false),.val (.int .i64 0),.val (.int .i64 0),.val (.int .i64 0),.val (.int .i64 0),.val (.int .i64 0),.val (.int .i64 0),.val (.bool false),.val (.int .i64 0),.val (.int .i64 0)]⟩
def cX:TI:=⟨.slice 93,1,24,[.nil 24]⟩
def dL:TI:=⟨.slice 71,1,24,[.nil 3]⟩
def c7:TI:=⟨.struct [(0,1,3),(1,1,9),(2,1,3),(3,1,3),(4,1,40)],5,64,[.val (.int .i64 0),.val (.string ByteArray.empty),.val (.int .i64 0),.val (.int .i64 0),.nil 3]⟩
def ct:TI:=⟨.struct [(0,1,3),(1,1,9),(2,1,3),(3,1,3),(4,1,40)],5,64,[.val (.int .i64 0),.val (.string ByteArray.empty),.val (.int .i64 0),.val (.int .i64 0),.nil 3]⟩
def dC:TI:=⟨.slice 83,1,24,[.nil 18]⟩
def dM:TI:=⟨.struct [(0,5,42),(5,1,4),(6,1,43),(7,1,3)],8,104,[.val (.int .i64 0),.val (.string ByteArray.empty),.val (.int .i64 0),.val (.int .i64 0),.nil 3,.val (.bool false),.nil 18,.val (.int .i64 0)]⟩
def dD:TI:=⟨.struct [(0,5,42),(5,1,4),(6,1,43),(7,1,3)],8,104,[.val (.int .i64 0),.val (.string ByteArray.empty),.val (.int .i64 0),.val (.int .i64 0),.nil 3,.val (.bool false),.nil 18,.val (.int .i64 0)]⟩
def dT:TI:=⟨.slice 73,1,24,[.nil 4]⟩
def dB:TI:=⟨.int .i64,1,8,[.val (.int .i64 0)]⟩
def dQ:TI:=⟨.int .u64,1,8,[.val (.int .u64 0)]⟩
def dU:TI:=⟨.struct [(0,1,4),(1,1,69),(2,1,69)],3,24,[.val (.bool false),.val (.int .u64 0),.val (.int .u64 0)]⟩
def cg:TI:=⟨.struct [(0,1,4),(1,1,69),(2,1,69)],3,24,[.val (.bool false),.val (.int .u64 0),.val (.int .u64 0)]⟩
def c9:TI:=⟨.struct [(0,3,71),(3,1,3)],4,32,[.val (.bool false),.val (.int .u64 0),.val (.int .u64 0),.val (.int .i64 0)]⟩
def dK:TI:=⟨.struct [(0,3,71),(3,1,3)],4,32,[.val (.bool false),.val (.int .u64 0),.val (.int .u64 0),.val (.int .i64 0)]⟩
def cz:TI:=⟨.slice 189,1,24,[.nil 2]⟩
def dE:TI:=⟨.slice 191,1,24,[.nil 2]⟩
def cn:TI:=⟨.slice 193,1,24,[.nil 3]⟩
def dI:TI:=⟨.slice 144,1,24,[.nil 3]⟩
def cu:TI:=⟨.struct [(0,1,3),(1,1,74),(2,3,71),(5,1,3),(6,1,3),(7,1,3),(8,1,75),(9,1,76),(10,1,77)],11,152,[.val (.int .i64 0),.nil 2,.val (.bool false),.val (.int .u64 0),.val (.int .u64 0),.val (.int .i64 0),.val (.int .i64 0),.val (.int .i64 0),.nil 2,.nil 3,.nil 3]⟩
def dP:TI:=⟨.struct [(0,1,3),(1,1,74),(2,3,71),(5,1,3),(6,1,3),(7,1,3),(8,1,75),(9,1,76),(10,1,77)],11,152,[.val (.int .i64 0),.nil 2,.val (.bool false),.val (.int .u64 0),.val (.int .u64 0),.val (.int .i64 0),.val (.int .i64 0),.val (.int .i64 0),.nil 2,.nil 3,.nil 3]⟩
def dH:TI:=⟨.struct [(0,4,73),(4,1,3),(5,11,79)],16,192,[.val (.bool false),.val (.int .u64 0),.val (.int .u64 0),.val (.int .i64 0),.val (.int .i64 0),.val (.int .i64 0),.nil 2,.val (.bool false),.val (.int .u64 0),.val (.int .u64 0),.val (.int .i64 0),.val (.int .i64 0),.val (.int .i64 0),.nil 2,.nil 3,.nil 3]⟩
def cY:TI:=⟨.struct [(0,4,73),(4,1,3),(5,11,79)],16,192,[.val (.bool false),.val (.int .u64 0),.val (.int .u64 0),.val (.int .i64 0),.val (.int .i64 0),.val (.int .i64 0),.nil 2,.val (.bool false),.val (.int .u64 0),.val (.int .u64 0),.val (.int .i64 0),.val (.int .i64 0),.val (.int .i64 0),.nil 2,.nil 3,.nil 3]⟩
def dN:TI:=⟨.struct [(0,16,81),(16,1,3),(17,1,4)],18,208,[.val (.bool false),.val (.int .u64 0),.val (.int .u64 0),.val (.int .i64 0),.val (.int .i64 0),.val (.int .i64 0),.nil 2,.val (.bool false),.val (.int .u64 0),.val (.int .u64 0),.val (.int .i64 0),.val (.int .i64 0),.val (.int .i64 0),.nil 2,.nil 3,.nil 3,.val (.int .i64 0),.val (.bool false)]⟩
def cp:TI:=⟨.struct [(0,16,81),(16,1,3),(17,1,4)],18,208,[.val (.bool false),.val (.int .u64 0),.val (.int .u64 0),.val (.int .i64 0),.val (.int .i64 0),.val (.int .i64 0),.nil 2,.val (.bool false),.val (.int .u64 0),.val (.int .u64 0),.val (.int .i64 0),.val (.int .i64 0),.val (.int .i64 0),.nil 2,.nil 3,.nil 3,.val (.int .i64 0),.val (.bool false)]⟩
def dA:TI:=⟨.struct [(0,1,48),(1,11,79),(12,1,48)],13,200,[.nil 4,.val (.int .i64 0),.nil 2,.val (.bool false),.val (.int .u64 0),.val (.int .u64 0),.val (.int .i64 0),.val (.int .i64 0),.val (.int .i64 0),.nil 2,.nil 3,.nil 3,.nil 4]⟩
def cq:TI:=⟨.struct [(0,1,48),(1,11,79),(12,1,48)],13,200,[.nil 4,.val (.int .i64 0),.nil 2,.val (.bool false),.val (.int .u64 0),.val (.int .u64 0),.val (.int .i64 0),.val (.int .i64 0),.val (.int .i64 0),.nil 2,.nil 3,.nil 3,.nil 4]⟩
def ce:TI:=⟨.slice 137,1,24,[.nil 2]⟩
def dV:TI:=⟨.struct [(0,1,3),(1,1,4),(2,1,4),(3,1,4),(4,1,3),(5,1,25),(6,1,89)],7,72,[.val (.int .i64 0),.val (.bool false),.val (.bool false),.val (.bool false),.val (.int .i64 0),.nil 1,.nil 2]⟩
def dJ:TI:=⟨.struct [(0,1,3),(1,1,4),(2,1,4),(3,1,4),(4,1,3),(5,1,25),(6,1,89)],7,72,[.val (.int .i64 0),.val (.bool false),.val (.bool false),.val (.bool false),.val (.int .i64 0),.nil 1,.nil 2]⟩
def cd:TI:=⟨.struct [(0,1,3),(1,1,3),(2,1,3),(3,1,3),(4,13,87),(17,7,91)],24,304,[.val (.int .i64 0),.val (.int .i64 0),.val (.int .i64 0),.val (.int .i64 0),.nil 4,.val (.int .i64 0),.nil 2,.val (.bool false),.val (.int .u64 0),.val (.int .u64 0),.val (.int .i64 0),.val (.int .i64 0),.val (.int .i64 0),.nil 2,.nil 3,.nil 3,.nil 4,.val (.int .i64 0),.val (.bool false),.val (.bool false),.val (.bool false),.val (.int .i64 0),.nil 1,.nil 2]⟩
def dF:TI:=⟨.struct [(0,1,3),(1,1,3),(2,1,3),(3,1,3),(4,13,87),(17,7,91)],24,304,[.val (.int .i64 0),.val (.int .i64 0),.val (.int .i64 0),.val (.int .i64 0),.nil 4,.val (.int .i64 0),.nil 2,.val (.bool false),.val (.int .u64 0),.val (.int .u64 0),.val (.int .i64 0),.val (.int .i64 0),.val (.int .i64 0),.nil 2,.nil 3,.nil 3,.nil 4,.val (.int .i64 0),.val (.bool false),.val (.bool false),.val (.bool false),.val (.int .i64 0),.nil 1,.nil 2]⟩
def cF:TI:=⟨.struct [(0,1,25),(1,1,3)],2,32,[.nil 1,.val (.int .i64 0)]⟩
def bk:TI:=⟨.struct [(0,1,25),(1,1,3)],2,32,[.nil 1,.val (.int .i64 0)]⟩
def bi:TI:=⟨.struct [(0,1,4),(1,1,4)],2,2,[.val (.bool false),.val (.bool false)]⟩
def bV:TI:=⟨.struct [(0,1,4),(1,1,4)],2,2,[.val (.bool false),.val (.bool false)]⟩
def cU:TI:=⟨.struct [(0,1,3),(1,1,3)],2,16,[.val (.int .i64 0),.val (.int .i64 0)]⟩
def bv:TI:=⟨.struct [(0,1,3),(1,1,3)],2,16,[.val (.int .i64 0),.val (.int .i64 0)]⟩
def cG:TI:=⟨.struct [(0,1,3),(1,1,3),(2,1,22)],3,40,[.val (.int .i64 0),.val (.int .i64 0),.nil 1]⟩
def cP:TI:=⟨.struct [(0,1,3),(1,1,3),(2,1,22)],3,40,[.val (.int .i64 0),.val (.int .i64 0),.nil 1]⟩
def bp:TI:=⟨.int .u64,1,8,[.val (.int .u64 0)]⟩
def bZ:TI:=⟨.struct [(0,1,4),(1,1,25)],2,32,[.val (.bool false),.nil 1]⟩
def bc:TI:=⟨.struct [(0,1,4),(1,1,25)],2,32,[.val (.bool false),.nil 1]⟩
def bm:TI:=⟨.struct [(0,1,3),(1,1,3)],2,16,[.val (.int .i64 0),.val (.int .i64 0)]⟩
def b9:TI:=⟨.struct [(0,1,3),(1,1,3)],2,16,[.val (.int .i64 0),.val (.int .i64 0)]⟩
def bY:TI:=⟨.struct [(0,1,3),(1,1,3),(2,1,3)],3,24,[.val (.int .i64 0),.val (.int .i64 0),.val (.int .i64 0)]⟩
def be:TI:=⟨.struct [(0,1,3),(1,1,3),(2,1,3)],3,24,[.val (.int .i64 0),.val (.int .i64 0),.val (.int .i64 0)]⟩
def cT:TI:=⟨.ptr,1,8,[.val (.pointer none)]⟩
def bj:TI:=⟨.struct [(0,1,77),(1,3,71),(4,1,48),(5,1,48),(6,1,48),(7,1,48)],8,144,[.nil 3,.val (.bool false),.val (.int .u64 0),.val (.int .u64 0),.nil 4,.nil 4,.nil 4,.nil 4]⟩
def cD:TI:=⟨.struct [(0,1,77),(1,3,71),(4,1,48),(5,1,48),(6,1,48),(7,1,48)],8,144,[.nil 3,.val (.bool false),.val (.int .u64 0),.val (.int .u64 0),.nil 4,.nil 4,.nil 4,.nil 4]⟩
def cE:TI:=⟨.ptr,1,8,[.val (.pointer none)]⟩
def b8:TI:=⟨.map 3 22,1,8,[.val (.map none)]⟩
def bW:TI:=⟨.fn,1,8,[.val .nilFunc]⟩
def bf:TI:=⟨.slice 48,1,24,[.nil 1]⟩
def cC:TI:=⟨.fn,1,8,[.val .nilFunc]⟩
def cS:TI:=⟨.map 3 4,1,8,[.val (.map none)]⟩
def cN:TI:=⟨.fn,1,8,[.val .nilFunc]⟩
def bg:TI:=⟨.fn,1,8,[.val .nilFunc]⟩
def b6:TI:=⟨.map 3 3,1,8,[.val (.map none)]⟩
def cM:TI:=⟨.fn,1,8,[.val .nilFunc]⟩
def ba:TI:=⟨.map 3 279,1,8,[.val (.map none)]⟩
def cH:TI:=⟨.ptr,1,8,[.val (.pointer none)]⟩
def bq:TI:=⟨.fn,1,8,[.val .nilFunc]⟩
def bo:TI:=⟨.fn,1,8,[.val .nilFunc]⟩
def tt:TT:=(.node 87 cq (.node 45 dD (.node 29 ci (.node 22 c8 (.node 5 ti5 (.node 4 ti4 (.node 3 ti3 .tip .tip) .tip) (.node 9 ti9 .tip .tip)) (.node 25 cm (.node 24 dS (.node 23 cZ .tip .tip) .tip) (.node 27 dG .tip .tip))) (.node 40 dL (.node 32 ch (.node 31 cf (.node 30 cr .tip .tip) .tip) (.node 37 cX .tip .tip)) (.node 43 dC (.node 42 ct (.node 41 c7 .tip .tip) .tip) (.node 44 dM .tip .tip)))) (.node 76 cn (.node 71 cg (.node 69 dQ (.node 66 dB (.node 48 dT .tip .tip) .tip) (.node 70 dU .tip .tip)) (.node 74 cz (.node 73 dK (.node 72 c9 .tip .tip) .tip) (.node 75 dE .tip .tip))) (.node 81 cY (.node 79 dP (.node 78 cu (.node 77 dI .tip .tip) .tip) (.node 80 dH .tip .tip)) (.node 83 cp (.node 82 dN .tip .tip) (.node 86 dA .tip .tip))))) (.node 192 bY (.node 136 cU (.node 93 dF (.node 91 dJ (.node 90 dV (.node 89 ce .tip .tip) .tip) (.node 92 cd .tip .tip)) (.node 107 bi (.node 101 bk (.node 100 cF .tip .tip) .tip) (.node 108 bV .tip .tip))) (.node 188 bZ (.node 144 cP (.node 143 cG (.node 137 bv .tip .tip) .tip) (.node 171 bp .tip .tip)) (.node 190 bm (.node 189 bc .tip .tip) (.node 191 b9 .tip .tip)))) (.node 250 cS (.node 208 cE (.node 196 bj (.node 195 cT (.node 193 be .tip .tip) .tip) (.node 197 cD .tip .tip)) (.node 241 bf (.node 240 bW (.node 231 b8 .tip .tip) .tip) (.node 248 cC .tip .tip))) (.node 281 ba (.node 276 b6 (.node 265 bg (.node 263 cN .tip .tip) .tip) (.node 279 cM .tip .tip)) (.node 360 bq (.node 330 cH .tip .tip) (.node 363 bo .tip .tip))))))
theorem Yx:TabOk Tryz.prog tt:=Ss (by kernel_rfl)
end Go.AX.Q33
end
section
namespace Go.AX
open Go.Sort
def ltC {X:Type} (cmp:X->X->Option Int) (a b:X):Bool:=match cmp a b with
 | some r=>decide (r<0)
 | none=>false
def TS {X:Type} (cmp:X->X->Option Int) (l:List X):Bool:=
 (l.all fun a=>l.all fun b=>(cmp a b).isSome)&&(l.all fun a=>!ltC cmp a a) &&
 (l.all fun a=>l.all fun b=>l.all fun c=>!(ltC cmp a b) || !(ltC cmp b c) || ltC cmp a c) &&
 (l.all fun a=>l.all fun b=>l.all fun c=>ltC cmp a b || ltC cmp b c || !(ltC cmp a c))&&decide (l.length<=1000000000)
def ixL {X:Type} (l:List X) (i:Nat):Option X:=l[min i (l.length - 1)]?
def cfI {X:Type} (cmp:X->X->Option Int) (l:List X) (i j:Nat):Int:=match ixL l i,ixL l j with
 | some a,some b=>(cmp a b).getD 0
 | _,_=>0
def F8 {X:Type} (cmp:X->X->Option Int) (l:List X):Array Nat:=Sort.pdq (Proofs.ltOf (cfI cmp l)) (Array.range l.length) 0 l.length (Lib.bitLen l.length) true true
def FR {X:Type} (cmp:X->X->Option Int) (l:List X):Option (List X):=match TS cmp l with
 | true=>some ((F8 cmp l).toList.filterMap fun i=>l[i]?)
 | false=>none
section
variable {X:Type} {cmp:X->X->Option Int} {l:List X}
theorem Ie (h:0<l.length) (i:Nat) :∃x ∈ l,ixL l i=some x:=by
 have hi:min i (l.length - 1)<l.length:=by omega
 exact⟨l[min i (l.length - 1)],List.getElem_mem hi,by unfold ixL;exact X15 hi⟩
theorem Nv (h:TS cmp l=true):(∀a ∈ l,∀b ∈ l,∃r,cmp a b=some r)/\(∀a ∈ l,ltC cmp a a=false)/\
  (∀a ∈ l,∀b ∈ l,∀c ∈ l,ltC cmp a b=true->ltC cmp b c=true->ltC cmp a c=true)/\(∀a ∈ l,∀b ∈ l,∀c ∈ l,ltC cmp a b=false->ltC cmp b c=false->ltC cmp a c=false)/\l.length<=1000000000:=by
 simp only[TS,X27,List.all_eq_true,decide_eq_true_eq] at h
 obtain⟨⟨⟨⟨h1,h2⟩,h3⟩,h4⟩,h5⟩:=h
 refine⟨fun a ha b hb=>Option.isSome_iff_exists.1 (h1 a ha b hb),fun a ha=>by simpa using h2 a ha,fun a ha b hb c hc g1 g2=>?_,fun a ha b hb c hc g1 g2=>?_,h5⟩
 ·have:=h3 a ha b hb c hc
  simpa[g1,g2] using this
 have:=h4 a ha b hb c hc
 simpa[g1,g2] using this
theorem Zz (h1 :∀a ∈ l,∀b ∈ l,∃r,cmp a b=some r) (h2 :∀a ∈ l,ltC cmp a a=false)
  (h3 :∀a ∈ l,∀b ∈ l,∀c ∈ l,ltC cmp a b=true->ltC cmp b c=true->ltC cmp a c=true) (h4 :∀a ∈ l,∀b ∈ l,∀c ∈ l,ltC cmp a b=false->ltC cmp b c=false->ltC cmp a c=false) (h5:l.length<=1000000000):TS cmp l=true:=by
 simp only[TS,X27,List.all_eq_true,decide_eq_true_eq]
 refine⟨⟨⟨⟨fun a ha b hb=>Option.isSome_iff_exists.2 (h1 a ha b hb),fun a ha=>by simp[h2 a ha]⟩,fun a ha b hb c hc=>?_⟩,fun a ha b hb c hc=>?_⟩,h5⟩
 ·cases g1:ltC cmp a b
  ·simp
  cases g2:ltC cmp b c
  ·simp
  simp[h3 a ha b hb c hc g1 g2]
 cases g1:ltC cmp a b
 ·cases g2:ltC cmp b c
  ·simp[h4 a ha b hb c hc g1 g2]
  simp
 simp
theorem GV (i j:Nat) (a b:X) (ha:ixL l i=some a) (hb:ixL l j=some b):Proofs.ltOf (cfI cmp l) i j=ltC cmp a b:=by
 unfold Proofs.ltOf cfI ltC
 rw[ha,hb]
 cases h:cmp a b<;>simp[h]
theorem Wj (h:TS cmp l=true) (hl:0<l.length):SWO (Proofs.ltOf (cfI cmp l)):=by
 obtain⟨_,h2,h3,h4,_⟩:=Nv h
 refine⟨fun x=>?_,fun x y z=>?_,fun x y z=>?_⟩
 ·obtain⟨a,ha,ea⟩:=Ie hl x
  rw[GV x x a a ea ea]
  exact h2 a ha
 ·obtain⟨a,ha,ea⟩:=Ie hl x
  obtain⟨b,hb,eb⟩:=Ie hl y
  obtain⟨c,hc,ec⟩:=Ie hl z
  rw[GV _ _ _ _ ea eb,GV _ _ _ _ eb ec,GV _ _ _ _ ea ec]
  exact h3 a ha b hb c hc
 obtain⟨a,ha,ea⟩:=Ie hl x
 obtain⟨b,hb,eb⟩:=Ie hl y
 obtain⟨c,hc,ec⟩:=Ie hl z
 rw[GV _ _ _ _ ea eb,GV _ _ _ _ eb ec,GV _ _ _ _ ea ec]
 exact h4 a ha b hb c hc
theorem NH (h:TS cmp l=true) (hl:0<l.length):(F8 cmp l).size=l.length/\(F8 cmp l).toList.Perm (List.range l.length)/\∀i j,i<j->j<l.length->Proofs.ltOf (cfI cmp l) (F8 cmp l)[j]! (F8 cmp l)[i]! = false:=by
 obtain⟨⟨h1,_,h2⟩,h3⟩:=pdq_sorts (Proofs.ltOf (cfI cmp l)) (Wj h hl) (Array.range l.length) 0 l.length (Lib.bitLen l.length) true true (Nat.zero_le _) (by simp) (Or.inl rfl)
 have h1:(F8 cmp l).size=l.length:=by simpa[F8] using h1
 refine⟨h1,?_,fun i j hij hj=>h3 i j (Nat.zero_le _) hij hj⟩
 have e1:((F8 cmp l).extract 0 l.length)=F8 cmp l:=by rw[<- h1];exact Array.extract_size
 have e2:((Array.range l.length).extract 0 l.length)=Array.range l.length:=by
  have:(Array.range l.length).size=l.length:=by simp
  conv=>lhs;arg 3;rw[<- this]
  exact Array.extract_size
 have h2':((F8 cmp l).extract 0 l.length).toList.Perm ((Array.range l.length).extract 0 l.length).toList:=h2
 rw[e1,e2] at h2'
 simpa using h2'
theorem OY (l:List X):(List.range l.length).filterMap (fun i=>l[i]?)=l:=by
 have :∀(n:Nat),n<=l.length->(List.range n).filterMap (fun i=>l[i]?)=l.take n:=by
  intro n
  induction n with
  | zero=>intro _;simp
  | succ n ih=>
   intro hn
   have hlt:n<l.length:=by omega
   rw[List.range_succ,List.filterMap_append,ih (by omega),List.take_add_one]
   simp[X15 hlt]
 rw[this _ (Nat.le_refl _),List.take_length]
theorem Rm {r:List X} (h:FR cmp l=some r) (hl:0<l.length):r.length=l.length/\∀i,i<l.length->(F8 cmp l)[i]!<l.length/\r[i]?=l[(F8 cmp l)[i]!]?:=by
 unfold FR at h
 split at h
 ·rename_i hs
  obtain⟨h1,h2,h3⟩:=NH hs hl
  obtain rfl:=X25 h
  have hm :∀i ∈ (F8 cmp l).toList,i<l.length:=fun i hi=>by simpa using h2.mem_iff.1 hi
  have key :∀(q:List Nat),(∀i ∈ q,i<l.length)->(q.filterMap fun i=>l[i]?).length=q.length/\∀j (hj:j<q.length),(q.filterMap fun i=>l[i]?)[j]?=l[q[j]]?:=by
   intro q
   induction q with
   | nil=>intro _;exact⟨rfl,fun j hj=>by simp at hj⟩
   | cons x q ih=>
    intro hq
    obtain⟨g1,g2⟩:=ih fun i hi=>hq i (X19 _ hi)
    have hx:=hq x (List.mem_cons_self ..)
    have e:(x::q).filterMap (fun i=>l[i]?)=l[x]::q.filterMap fun i=>l[i]?:=by
     rw[List.filterMap_cons,X15 hx]
    rw[e]
    refine⟨by simp[g1],fun j hj=>?_⟩
    cases j with
    | zero=>simp[X15 hx]
    | succ j=>simpa using g2 j (by simpa using hj)
  obtain⟨g1,g2⟩:=key (F8 cmp l).toList hm
  refine⟨by rw[g1];simpa using h1,fun i hi=>?_⟩
  have hi':i<(F8 cmp l).toList.length:=by simpa[h1] using hi
  have hget:(F8 cmp l)[i]! = (F8 cmp l).toList[i]:=by
   rw[getElem!_pos _ i (by simpa using hi')]
   simp
  rw[hget]
  exact⟨hm _ (List.getElem_mem hi'),g2 i hi'⟩
 simp at h
theorem LA {r:List X} (h:FR cmp l=some r):r.Perm l/\r.Pairwise fun a b=>ltC cmp b a=false:=by
 by_cases hl:0<l.length
 ·have h0:=h
  obtain⟨hlen,hget⟩:=Rm h hl
  unfold FR at h
  split at h
  ·rename_i hs
   obtain⟨h1,h2,h3⟩:=NH hs hl
   obtain rfl:=X25 h
   refine⟨?_,?_⟩
   ·have:=h2.filterMap fun i=>l[i]?
    rwa [OY] at this
   rw[List.pairwise_iff_getElem]
   intro i j hi hj hij
   have hi':i<l.length:=by omega
   have hj':j<l.length:=by omega
   obtain⟨p1,p2⟩:=hget i hi'
   obtain⟨q1,q2⟩:=hget j hj'
   rw[X15 hi,X15 p1] at p2
   rw[X15 hj,X15 q1] at q2
   have:=h3 i j hij hj'
   rw[GV (cmp:=cmp) (l:=l) _ _ _ _ (by unfold ixL;rw[Nat.min_eq_left (by omega)];exact X15 q1) (by unfold ixL;rw[Nat.min_eq_left (by omega)];exact X15 p1)] at this
   rw[X25 p2,X25 q2]
   exact this
  simp at h
 have:l=[]:=List.eq_nil_of_length_eq_zero (by omega)
 subst this
 unfold FR at h
 split at h
 ·obtain rfl:=X25 h
  have:(F8 cmp ([]:List X)).toList.filterMap (fun i=>([]:List X)[i]?)=[]:=by simp
  rw[this]
  exact⟨.refl _,.nil⟩
 simp at h
theorem KF {r:List X} (h:FR cmp l=some r):r.length=l.length:=(LA h).1.length_eq
theorem Vk (h:TS cmp l=true) :∃r,FR cmp l=some r:=by
 unfold FR
 rw[h]
 exact⟨_,rfl⟩
end
def Kr (l:List Int):Option (List Int):=if l.length<4611686018427387904 then some (l.mergeSort fun x y=>decide (x<=y)) else none
theorem XV {l r:List Int} (h:Kr l=some r):r.length=l.length:=by
 unfold Kr at h
 split at h
 ·obtain rfl:=X25 h;simp
 simp at h
end Go.AX
end
section
namespace Go.AX.Q33
open Go Go.AX
set_option linter.unusedVariables false
def I8:List (Int×Int):=[(1,64),(2,64),(3,64),(4,128),(5,64),(8,192),(32,192),(35,192)]
structure Open where
  ASN:Int
  ID:Int
  Hold:Int
  Role:Int
  Grace:Int
  Again:Bool
def Open.toD (x:Open):D:=.agg [D.i x.ASN,D.i x.ID,D.i x.Hold,D.i x.Role,D.i x.Grace,D.b x.Again]
def Open.av (x:Open):List AV:=[.d (D.i x.ASN),.d (D.i x.ID),.d (D.i x.Hold),.d (D.i x.Role),.d (D.i x.Grace),.d (D.b x.Again)]
def Open.zv:List AV:=[.d (D.i 0),.d (D.i 0),.d (D.i 0),.d (D.i 0),.d (D.i 0),.d (D.b false)]
def Open.wf (x:Open):Prop:=I64 x.ASN/\I64 x.ID/\I64 x.Hold/\I64 x.Role/\I64 x.Grace/\True/\True
def Open.eqd (x y:Open):Bool:=((x.ASN==y.ASN)&&((x.ID==y.ID)&&((x.Hold==y.Hold)&&((x.Role==y.Role)&&((x.Grace==y.Grace)&&((x.Again==y.Again)&&true))))))
structure JAL where
  State:Int
  Mine:Open
  ASN:Int
  Theirs:Open
  Sent:Int
  Heard:Int
def JAL.toD (x:JAL):D:=.agg [D.i x.State,D.i x.Mine.ASN,D.i x.Mine.ID,D.i x.Mine.Hold,D.i x.Mine.Role,D.i x.Mine.Grace,D.b x.Mine.Again,D.i x.ASN,D.i x.Theirs.ASN,D.i x.Theirs.ID,D.i x.Theirs.Hold,D.i x.Theirs.Role,D.i x.Theirs.Grace,D.b x.Theirs.Again,D.i x.Sent,D.i x.Heard]
def JAL.av (x:JAL):List AV:=[.d (D.i x.State),.d (D.i x.Mine.ASN),.d (D.i x.Mine.ID),.d (D.i x.Mine.Hold),.d (D.i x.Mine.Role),.d (D.i x.Mine.Grace),.d (D.b x.Mine.Again),.d (D.i x.ASN),.d (D.i x.Theirs.ASN),.d (D.i x.Theirs.ID),.d (D.i x.Theirs.Hold),.d (D.i x.Theirs.Role),.d (D.i x.Theirs.Grace),.d (D.b x.Theirs.Again),.d (D.i x.Sent),.d (D.i x.Heard)]
def JAL.zv:List AV:=[.d (D.i 0),.d (D.i 0),.d (D.i 0),.d (D.i 0),.d (D.i 0),.d (D.i 0),.d (D.b false),.d (D.i 0),.d (D.i 0),.d (D.i 0),.d (D.i 0),.d (D.i 0),.d (D.i 0),.d (D.b false),.d (D.i 0),.d (D.i 0)]
def JAL.wf (x:JAL):Prop:=I64 x.State/\Open.wf x.Mine/\I64 x.ASN/\Open.wf x.Theirs/\I64 x.Sent/\I64 x.Heard/\True
def JAL.eqd (x y:JAL):Bool:=((x.State==y.State)&&(((x.Mine.ASN==y.Mine.ASN)&&((x.Mine.ID==y.Mine.ID)&&((x.Mine.Hold==y.Mine.Hold)&&((x.Mine.Role==y.Mine.Role)&&((x.Mine.Grace==y.Mine.Grace)&&((x.Mine.Again==y.Mine.Again)&&true))))))&&((x.ASN==y.ASN)&&(((x.Theirs.ASN==y.Theirs.ASN)&&((x.Theirs.ID==y.Theirs.ID)&&((x.Theirs.Hold==y.Theirs.Hold)&&((x.Theirs.Role==y.Theirs.Role)&&((x.Theirs.Grace==y.Theirs.Grace)&&((x.Theirs.Again==y.Theirs.Again)&&true))))))&&((x.Sent==y.Sent)&&((x.Heard==y.Heard)&&true))))))
structure JAB where
  Flags:Int
  Type_:Int
  Data:List UInt8
def JAB.toD (x:JAB):D:=.agg [D.i x.Flags,D.i x.Type_,D.l 1 D.u8 x.Data]
def JAB.av (x:JAB):List AV:=[.d (D.i x.Flags),.d (D.i x.Type_),.d (D.l 1 D.u8 x.Data)]
def JAB.zv:List AV:=[.d (D.i 0),.d (D.i 0),.d (D.nil 1)]
def JAB.wf (x:JAB):Prop:=I64 x.Flags/\I64 x.Type_/\(x.Data.length<=maxLen/\x.Data.length * 1<=reachBytes/\∀y0 ∈ x.Data,True)/\True
structure JAC where
  Set:Bool
  ASNs:List Int
def JAC.toD (x:JAC):D:=.agg [D.b x.Set,D.l 1 D.i x.ASNs]
def JAC.av (x:JAC):List AV:=[.d (D.b x.Set),.d (D.l 1 D.i x.ASNs)]
def JAC.zv:List AV:=[.d (D.b false),.d (D.nil 1)]
def JAC.wf (x:JAC):Prop:=True/\(x.ASNs.length<=maxLen/\x.ASNs.length * 8<=reachBytes/\∀y0 ∈ x.ASNs,I64 y0)/\True
structure Addr where
  V6:Bool
  Hi:UInt64
  Lo:UInt64
def Addr.toD (x:Addr):D:=.agg [D.b x.V6,D.u64 x.Hi,D.u64 x.Lo]
def Addr.av (x:Addr):List AV:=[.d (D.b x.V6),.d (D.u64 x.Hi),.d (D.u64 x.Lo)]
def Addr.zv:List AV:=[.d (D.b false),.d (D.u64 (0:UInt64)),.d (D.u64 (0:UInt64))]
def Addr.wf (x:Addr):Prop:=True/\True/\True/\True
def Addr.eqd (x y:Addr):Bool:=((x.V6==y.V6)&&(((x.Hi.toNat:Int)==(y.Hi.toNat:Int))&&(((x.Lo.toNat:Int)==(y.Lo.toNat:Int))&&true)))
structure JAA where
  A:Int
  B:Int
def JAA.toD (x:JAA):D:=.agg [D.i x.A,D.i x.B]
def JAA.av (x:JAA):List AV:=[.d (D.i x.A),.d (D.i x.B)]
def JAA.zv:List AV:=[.d (D.i 0),.d (D.i 0)]
def JAA.wf (x:JAA):Prop:=I64 x.A/\I64 x.B/\True
def JAA.eqd (x y:JAA):Bool:=((x.A==y.A)&&((x.B==y.B)&&true))
structure JAE where
  A:Int
  B:Int
  C:Int
def JAE.toD (x:JAE):D:=.agg [D.i x.A,D.i x.B,D.i x.C]
def JAE.av (x:JAE):List AV:=[.d (D.i x.A),.d (D.i x.B),.d (D.i x.C)]
def JAE.zv:List AV:=[.d (D.i 0),.d (D.i 0),.d (D.i 0)]
def JAE.wf (x:JAE):Prop:=I64 x.A/\I64 x.B/\I64 x.C/\True
def JAE.eqd (x y:JAE):Bool:=((x.A==y.A)&&((x.B==y.B)&&((x.C==y.C)&&true)))
structure JAF where
  Origin:Int
  Path:List JAC
  Next:Addr
  MED:Int
  Pref:Int
  OTC:Int
  Communities:List JAA
  JAE:List JAE
  Other:List JAB
def JAF.toD (x:JAF):D:=.agg [D.i x.Origin,D.l 2 JAC.toD x.Path,D.b x.Next.V6,D.u64 x.Next.Hi,D.u64 x.Next.Lo,D.i x.MED,D.i x.Pref,D.i x.OTC,D.l 2 JAA.toD x.Communities,D.l 3 JAE.toD x.JAE,D.l 3 JAB.toD x.Other]
def JAF.av (x:JAF):List AV:=[.d (D.i x.Origin),.d (D.l 2 JAC.toD x.Path),.d (D.b x.Next.V6),.d (D.u64 x.Next.Hi),.d (D.u64 x.Next.Lo),.d (D.i x.MED),.d (D.i x.Pref),.d (D.i x.OTC),.d (D.l 2 JAA.toD x.Communities),.d (D.l 3 JAE.toD x.JAE),.d (D.l 3 JAB.toD x.Other)]
def JAF.zv:List AV:=[.d (D.i 0),.d (D.nil 2),.d (D.b false),.d (D.u64 (0:UInt64)),.d (D.u64 (0:UInt64)),.d (D.i 0),.d (D.i 0),.d (D.i 0),.d (D.nil 2),.d (D.nil 3),.d (D.nil 3)]
def JAF.wf (x:JAF):Prop:=I64 x.Origin/\(x.Path.length<=maxLen/\x.Path.length * 32<=reachBytes/\∀y0 ∈ x.Path,JAC.wf y0)/\Addr.wf x.Next/\I64 x.MED/\I64 x.Pref/\I64 x.OTC/\(x.Communities.length<=maxLen/\x.Communities.length * 16<=reachBytes/\∀y0 ∈ x.Communities,JAA.wf y0)/\(x.JAE.length<=maxLen/\x.JAE.length * 24<=reachBytes/\∀y0 ∈ x.JAE,JAE.wf y0)/\(x.Other.length<=maxLen/\x.Other.length * 40<=reachBytes/\∀y0 ∈ x.Other,JAB.wf y0)/\True
structure JAD where
  Addr:Addr
  Len:Int
def JAD.toD (x:JAD):D:=.agg [D.b x.Addr.V6,D.u64 x.Addr.Hi,D.u64 x.Addr.Lo,D.i x.Len]
def JAD.av (x:JAD):List AV:=[.d (D.b x.Addr.V6),.d (D.u64 x.Addr.Hi),.d (D.u64 x.Addr.Lo),.d (D.i x.Len)]
def JAD.zv:List AV:=[.d (D.b false),.d (D.u64 (0:UInt64)),.d (D.u64 (0:UInt64)),.d (D.i 0)]
def JAD.wf (x:JAD):Prop:=Addr.wf x.Addr/\I64 x.Len/\True
def JAD.eqd (x y:JAD):Bool:=(((x.Addr.V6==y.Addr.V6)&&(((x.Addr.Hi.toNat:Int)==(y.Addr.Hi.toNat:Int))&&(((x.Addr.Lo.toNat:Int)==(y.Addr.Lo.toNat:Int))&&true)))&&((x.Len==y.Len)&&true))
structure JAG where
  attrs:List JAB
  next:Addr
  gone4:List JAD
  gone6:List JAD
  new4:List JAD
  new6:List JAD
def JAG.toD (x:JAG):D:=.agg [D.l 3 JAB.toD x.attrs,D.b x.next.V6,D.u64 x.next.Hi,D.u64 x.next.Lo,D.l 4 JAD.toD x.gone4,D.l 4 JAD.toD x.gone6,D.l 4 JAD.toD x.new4,D.l 4 JAD.toD x.new6]
def JAG.av (x:JAG):List AV:=[.d (D.l 3 JAB.toD x.attrs),.d (D.b x.next.V6),.d (D.u64 x.next.Hi),.d (D.u64 x.next.Lo),.d (D.l 4 JAD.toD x.gone4),.d (D.l 4 JAD.toD x.gone6),.d (D.l 4 JAD.toD x.new4),.d (D.l 4 JAD.toD x.new6)]
def JAG.zv:List AV:=[.d (D.nil 3),.d (D.b false),.d (D.u64 (0:UInt64)),.d (D.u64 (0:UInt64)),.d (D.nil 4),.d (D.nil 4),.d (D.nil 4),.d (D.nil 4)]
def JAG.wf (x:JAG):Prop:=(x.attrs.length<=maxLen/\x.attrs.length * 40<=reachBytes/\∀y0 ∈ x.attrs,JAB.wf y0)/\Addr.wf x.next/\(x.gone4.length<=maxLen/\x.gone4.length * 32<=reachBytes/\∀y0 ∈ x.gone4,JAD.wf y0)/\(x.gone6.length<=maxLen/\x.gone6.length * 32<=reachBytes/\∀y0 ∈ x.gone6,JAD.wf y0)/\(x.new4.length<=maxLen/\x.new4.length * 32<=reachBytes/\∀y0 ∈ x.new4,JAD.wf y0)/\(x.new6.length<=maxLen/\x.new6.length * 32<=reachBytes/\∀y0 ∈ x.new6,JAD.wf y0)/\True
structure JAH where
  Withdraw:List JAD
  JAF:JAF
  Announce:List JAD
def JAH.toD (x:JAH):D:=.agg [D.l 4 JAD.toD x.Withdraw,D.i x.JAF.Origin,D.l 2 JAC.toD x.JAF.Path,D.b x.JAF.Next.V6,D.u64 x.JAF.Next.Hi,D.u64 x.JAF.Next.Lo,D.i x.JAF.MED,D.i x.JAF.Pref,D.i x.JAF.OTC,D.l 2 JAA.toD x.JAF.Communities,D.l 3 JAE.toD x.JAF.JAE,D.l 3 JAB.toD x.JAF.Other,D.l 4 JAD.toD x.Announce]
def JAH.av (x:JAH):List AV:=[.d (D.l 4 JAD.toD x.Withdraw),.d (D.i x.JAF.Origin),.d (D.l 2 JAC.toD x.JAF.Path),.d (D.b x.JAF.Next.V6),.d (D.u64 x.JAF.Next.Hi),.d (D.u64 x.JAF.Next.Lo),.d (D.i x.JAF.MED),.d (D.i x.JAF.Pref),.d (D.i x.JAF.OTC),.d (D.l 2 JAA.toD x.JAF.Communities),.d (D.l 3 JAE.toD x.JAF.JAE),.d (D.l 3 JAB.toD x.JAF.Other),.d (D.l 4 JAD.toD x.Announce)]
def JAH.zv:List AV:=[.d (D.nil 4),.d (D.i 0),.d (D.nil 2),.d (D.b false),.d (D.u64 (0:UInt64)),.d (D.u64 (0:UInt64)),.d (D.i 0),.d (D.i 0),.d (D.i 0),.d (D.nil 2),.d (D.nil 3),.d (D.nil 3),.d (D.nil 4)]
def JAH.wf (x:JAH):Prop:=(x.Withdraw.length<=maxLen/\x.Withdraw.length * 32<=reachBytes/\∀y0 ∈ x.Withdraw,JAD.wf y0)/\JAF.wf x.JAF/\(x.Announce.length<=maxLen/\x.Announce.length * 32<=reachBytes/\∀y0 ∈ x.Announce,JAD.wf y0)/\True
structure JAO where
  ASN:Int
  Value:Int
def JAO.toD (x:JAO):D:=.agg [D.i x.ASN,D.i x.Value]
def JAO.av (x:JAO):List AV:=[.d (D.i x.ASN),.d (D.i x.Value)]
def JAO.zv:List AV:=[.d (D.i 0),.d (D.i 0)]
def JAO.wf (x:JAO):Prop:=I64 x.ASN/\I64 x.Value/\True
def JAO.eqd (x y:JAO):Bool:=((x.ASN==y.ASN)&&((x.Value==y.Value)&&true))
structure JAM where
  ASN:Int
  No4:Bool
  No6:Bool
  Holes:Bool
  Hops:Int
  Deny:List Int
  JAO:List JAO
def JAM.toD (x:JAM):D:=.agg [D.i x.ASN,D.b x.No4,D.b x.No6,D.b x.Holes,D.i x.Hops,D.l 1 D.i x.Deny,D.l 2 JAO.toD x.JAO]
def JAM.av (x:JAM):List AV:=[.d (D.i x.ASN),.d (D.b x.No4),.d (D.b x.No6),.d (D.b x.Holes),.d (D.i x.Hops),.d (D.l 1 D.i x.Deny),.d (D.l 2 JAO.toD x.JAO)]
def JAM.zv:List AV:=[.d (D.i 0),.d (D.b false),.d (D.b false),.d (D.b false),.d (D.i 0),.d (D.nil 1),.d (D.nil 2)]
def JAM.wf (x:JAM):Prop:=I64 x.ASN/\True/\True/\True/\I64 x.Hops/\(x.Deny.length<=maxLen/\x.Deny.length * 8<=reachBytes/\∀y0 ∈ x.Deny,I64 y0)/\(x.JAO.length<=maxLen/\x.JAO.length * 16<=reachBytes/\∀y0 ∈ x.JAO,JAO.wf y0)/\True
structure JAJ where
  Kind:Int
  Member:Int
  Tick:Int
  Grace:Int
  JAH:JAH
  JAM:JAM
def JAJ.toD (x:JAJ):D:=.agg [D.i x.Kind,D.i x.Member,D.i x.Tick,D.i x.Grace,D.l 4 JAD.toD x.JAH.Withdraw,D.i x.JAH.JAF.Origin,D.l 2 JAC.toD x.JAH.JAF.Path,D.b x.JAH.JAF.Next.V6,D.u64 x.JAH.JAF.Next.Hi,D.u64 x.JAH.JAF.Next.Lo,D.i x.JAH.JAF.MED,D.i x.JAH.JAF.Pref,D.i x.JAH.JAF.OTC,D.l 2 JAA.toD x.JAH.JAF.Communities,D.l 3 JAE.toD x.JAH.JAF.JAE,D.l 3 JAB.toD x.JAH.JAF.Other,D.l 4 JAD.toD x.JAH.Announce,D.i x.JAM.ASN,D.b x.JAM.No4,D.b x.JAM.No6,D.b x.JAM.Holes,D.i x.JAM.Hops,D.l 1 D.i x.JAM.Deny,D.l 2 JAO.toD x.JAM.JAO]
def JAJ.av (x:JAJ):List AV:=[.d (D.i x.Kind),.d (D.i x.Member),.d (D.i x.Tick),.d (D.i x.Grace),.d (D.l 4 JAD.toD x.JAH.Withdraw),.d (D.i x.JAH.JAF.Origin),.d (D.l 2 JAC.toD x.JAH.JAF.Path),.d (D.b x.JAH.JAF.Next.V6),.d (D.u64 x.JAH.JAF.Next.Hi),.d (D.u64 x.JAH.JAF.Next.Lo),.d (D.i x.JAH.JAF.MED),.d (D.i x.JAH.JAF.Pref),.d (D.i x.JAH.JAF.OTC),.d (D.l 2 JAA.toD x.JAH.JAF.Communities),.d (D.l 3 JAE.toD x.JAH.JAF.JAE),.d (D.l 3 JAB.toD x.JAH.JAF.Other),.d (D.l 4 JAD.toD x.JAH.Announce),.d (D.i x.JAM.ASN),.d (D.b x.JAM.No4),.d (D.b x.JAM.No6),.d (D.b x.JAM.Holes),.d (D.i x.JAM.Hops),.d (D.l 1 D.i x.JAM.Deny),.d (D.l 2 JAO.toD x.JAM.JAO)]
def JAJ.zv:List AV:=[.d (D.i 0),.d (D.i 0),.d (D.i 0),.d (D.i 0),.d (D.nil 4),.d (D.i 0),.d (D.nil 2),.d (D.b false),.d (D.u64 (0:UInt64)),.d (D.u64 (0:UInt64)),.d (D.i 0),.d (D.i 0),.d (D.i 0),.d (D.nil 2),.d (D.nil 3),.d (D.nil 3),.d (D.nil 4),.d (D.i 0),.d (D.b false),.d (D.b false),.d (D.b false),.d (D.i 0),.d (D.nil 1),.d (D.nil 2)]
def JAJ.wf (x:JAJ):Prop:=I64 x.Kind/\I64 x.Member/\I64 x.Tick/\I64 x.Grace/\JAH.wf x.JAH/\JAM.wf x.JAM/\True
structure JAK where
  Type_:Int
  Body:List UInt8
def JAK.toD (x:JAK):D:=.agg [D.i x.Type_,D.l 1 D.u8 x.Body]
def JAK.av (x:JAK):List AV:=[.d (D.i x.Type_),.d (D.l 1 D.u8 x.Body)]
def JAK.zv:List AV:=[.d (D.i 0),.d (D.nil 1)]
def JAK.wf (x:JAK):Prop:=I64 x.Type_/\(x.Body.length<=maxLen/\x.Body.length * 1<=reachBytes/\∀y0 ∈ x.Body,True)/\True
structure JAN where
  was:Bool
  is:Bool
def JAN.toD (x:JAN):D:=.agg [D.b x.was,D.b x.is]
def JAN.av (x:JAN):List AV:=[.d (D.b x.was),.d (D.b x.is)]
def JAN.zv:List AV:=[.d (D.b false),.d (D.b false)]
def JAN.wf (x:JAN):Prop:=True/\True/\True
def JAN.eqd (x y:JAN):Bool:=((x.was==y.was)&&((x.is==y.is)&&true))
structure JAQ where
  ASN:Int
  Set:ByteArray
  Max4:Int
  Max6:Int
  Nexts:List Addr
def JAQ.toD (x:JAQ):D:=.agg [D.i x.ASN,D.s x.Set,D.i x.Max4,D.i x.Max6,D.l 3 Addr.toD x.Nexts]
def JAQ.av (x:JAQ):List AV:=[.d (D.i x.ASN),.d (D.s x.Set),.d (D.i x.Max4),.d (D.i x.Max6),.d (D.l 3 Addr.toD x.Nexts)]
def JAQ.zv:List AV:=[.d (D.i 0),.d (D.s ByteArray.empty),.d (D.i 0),.d (D.i 0),.d (D.nil 3)]
def JAQ.wf (x:JAQ):Prop:=I64 x.ASN/\(x.Set.size<=maxLen/\x.Set.size<=reachBytes)/\I64 x.Max4/\I64 x.Max6/\(x.Nexts.length<=maxLen/\x.Nexts.length * 24<=reachBytes/\∀y0 ∈ x.Nexts,Addr.wf y0)/\True
structure JAP where
  JAD:JAD
  From:Int
  JAF:JAF
def JAP.toD (x:JAP):D:=.agg [D.b x.JAD.Addr.V6,D.u64 x.JAD.Addr.Hi,D.u64 x.JAD.Addr.Lo,D.i x.JAD.Len,D.i x.From,D.i x.JAF.Origin,D.l 2 JAC.toD x.JAF.Path,D.b x.JAF.Next.V6,D.u64 x.JAF.Next.Hi,D.u64 x.JAF.Next.Lo,D.i x.JAF.MED,D.i x.JAF.Pref,D.i x.JAF.OTC,D.l 2 JAA.toD x.JAF.Communities,D.l 3 JAE.toD x.JAF.JAE,D.l 3 JAB.toD x.JAF.Other]
def JAP.av (x:JAP):List AV:=[.d (D.b x.JAD.Addr.V6),.d (D.u64 x.JAD.Addr.Hi),.d (D.u64 x.JAD.Addr.Lo),.d (D.i x.JAD.Len),.d (D.i x.From),.d (D.i x.JAF.Origin),.d (D.l 2 JAC.toD x.JAF.Path),.d (D.b x.JAF.Next.V6),.d (D.u64 x.JAF.Next.Hi),.d (D.u64 x.JAF.Next.Lo),.d (D.i x.JAF.MED),.d (D.i x.JAF.Pref),.d (D.i x.JAF.OTC),.d (D.l 2 JAA.toD x.JAF.Communities),.d (D.l 3 JAE.toD x.JAF.JAE),.d (D.l 3 JAB.toD x.JAF.Other)]
def JAP.zv:List AV:=[.d (D.b false),.d (D.u64 (0:UInt64)),.d (D.u64 (0:UInt64)),.d (D.i 0),.d (D.i 0),.d (D.i 0),.d (D.nil 2),.d (D.b false),.d (D.u64 (0:UInt64)),.d (D.u64 (0:UInt64)),.d (D.i 0),.d (D.i 0),.d (D.i 0),.d (D.nil 2),.d (D.nil 3),.d (D.nil 3)]
def JAP.wf (x:JAP):Prop:=JAD.wf x.JAD/\I64 x.From/\JAF.wf x.JAF/\True
structure JAR where
  JAP:JAP
  Reason:Int
  Stale:Bool
def JAR.toD (x:JAR):D:=.agg [D.b x.JAP.JAD.Addr.V6,D.u64 x.JAP.JAD.Addr.Hi,D.u64 x.JAP.JAD.Addr.Lo,D.i x.JAP.JAD.Len,D.i x.JAP.From,D.i x.JAP.JAF.Origin,D.l 2 JAC.toD x.JAP.JAF.Path,D.b x.JAP.JAF.Next.V6,D.u64 x.JAP.JAF.Next.Hi,D.u64 x.JAP.JAF.Next.Lo,D.i x.JAP.JAF.MED,D.i x.JAP.JAF.Pref,D.i x.JAP.JAF.OTC,D.l 2 JAA.toD x.JAP.JAF.Communities,D.l 3 JAE.toD x.JAP.JAF.JAE,D.l 3 JAB.toD x.JAP.JAF.Other,D.i x.Reason,D.b x.Stale]
def JAR.av (x:JAR):List AV:=[.d (D.b x.JAP.JAD.Addr.V6),.d (D.u64 x.JAP.JAD.Addr.Hi),.d (D.u64 x.JAP.JAD.Addr.Lo),.d (D.i x.JAP.JAD.Len),.d (D.i x.JAP.From),.d (D.i x.JAP.JAF.Origin),.d (D.l 2 JAC.toD x.JAP.JAF.Path),.d (D.b x.JAP.JAF.Next.V6),.d (D.u64 x.JAP.JAF.Next.Hi),.d (D.u64 x.JAP.JAF.Next.Lo),.d (D.i x.JAP.JAF.MED),.d (D.i x.JAP.JAF.Pref),.d (D.i x.JAP.JAF.OTC),.d (D.l 2 JAA.toD x.JAP.JAF.Communities),.d (D.l 3 JAE.toD x.JAP.JAF.JAE),.d (D.l 3 JAB.toD x.JAP.JAF.Other),.d (D.i x.Reason),.d (D.b x.Stale)]
def JAR.zv:List AV:=[.d (D.b false),.d (D.u64 (0:UInt64)),.d (D.u64 (0:UInt64)),.d (D.i 0),.d (D.i 0),.d (D.i 0),.d (D.nil 2),.d (D.b false),.d (D.u64 (0:UInt64)),.d (D.u64 (0:UInt64)),.d (D.i 0),.d (D.i 0),.d (D.i 0),.d (D.nil 2),.d (D.nil 3),.d (D.nil 3),.d (D.i 0),.d (D.b false)]
def JAR.wf (x:JAR):Prop:=JAP.wf x.JAP/\I64 x.Reason/\True/\True
structure RIB where
  JAQ:JAQ
  Up:Bool
  JAR:List JAR
  Until:Int
def RIB.toD (x:RIB):D:=.agg [D.i x.JAQ.ASN,D.s x.JAQ.Set,D.i x.JAQ.Max4,D.i x.JAQ.Max6,D.l 3 Addr.toD x.JAQ.Nexts,D.b x.Up,D.l 18 JAR.toD x.JAR,D.i x.Until]
def RIB.av (x:RIB):List AV:=[.d (D.i x.JAQ.ASN),.d (D.s x.JAQ.Set),.d (D.i x.JAQ.Max4),.d (D.i x.JAQ.Max6),.d (D.l 3 Addr.toD x.JAQ.Nexts),.d (D.b x.Up),.d (D.l 18 JAR.toD x.JAR),.d (D.i x.Until)]
def RIB.zv:List AV:=[.d (D.i 0),.d (D.s ByteArray.empty),.d (D.i 0),.d (D.i 0),.d (D.nil 3),.d (D.b false),.d (D.nil 18),.d (D.i 0)]
def RIB.wf (x:RIB):Prop:=JAQ.wf x.JAQ/\True/\(x.JAR.length<=maxLen/\x.JAR.length * 208<=reachBytes/\∀y0 ∈ x.JAR,JAR.wf y0)/\I64 x.Until/\True
structure JAI where
  L:List Int
  At:Int
def JAI.toD (x:JAI):D:=.agg [D.l 1 D.i x.L,D.i x.At]
def JAI.av (x:JAI):List AV:=[.d (D.l 1 D.i x.L),.d (D.i x.At)]
def JAI.zv:List AV:=[.d (D.nil 1),.d (D.i 0)]
def JAI.wf (x:JAI):Prop:=(x.L.length<=maxLen/\x.L.length * 8<=reachBytes/\∀y0 ∈ x.L,I64 y0)/\I64 x.At/\True
def Dy (a0:JAL):Option Int:= some (if a0.Theirs.Grace<a0.Mine.Grace then a0.Theirs.Grace else a0.Mine.Grace)
def bytes_Equal (a0:List UInt8) (a1:List UInt8):Option Bool:= some ((bs a0).toList==(bs a1).toList)
def DI (a0:List JAB):Option (List JAB):= AI (τ:=(List JAB)) (fun k1=> An (σ:=(List (Int×Bool))×(List JAB)) (fun (v2,v3)=> k1 v3
) (fun next4 (x5:JAB) i6 (v2,v3)=>
(some (Option.getD (Df v2 x5.Type_) false)).bind fun v7=> AI (τ:=(List JAB)) (fun k8=> if (!v7) then
(apnd (α:=JAB) 40 v3 ([x5]:List JAB)).bind fun v9=> k8 v9 else k8 v3
) fun v10=> next4 ((F3 v2 x5.Type_ true),v10)
) a0 0 ([],[])
) fun v11=> some v11
def Ba (a0:Int):Option Bool:= AI (τ:=Bool) (fun k1=>
(some (Option.getD (Df I8 a0) 0)).bind fun v2=> if (v2==0) then if (cond true (a0 != 14) false) then k1 (cond true (a0 != 15) false) else k1 false else k1 false
) fun v3=> some v3
def DJ (a0:JAB):Option Bool:= AI (τ:=Bool) (fun k1=>
(Ba a0.Type_).bind fun v2=> if v2 then k1 (cond true ((AK ((BitVec.ofInt 64 a0.Flags &&& BitVec.ofInt 64 128).toNat:Int))==0) false) else k1 false
) fun v3=> some v3
def FD:Option JAF:= some (⟨(-1),[],(⟨false,(0:UInt64),(0:UInt64)⟩:Addr),(-1),(-1),(-1),[],[],[]⟩:JAF)
def BC (a0:JAB):Option Bool:= AI (τ:=Bool) (fun k1=>
(some (Option.getD (Df I8 a0.Type_) 0)).bind fun v2=> if ((AK ((BitVec.ofInt 64 (AK ((BitVec.ofInt 64 a0.Flags ^^^ BitVec.ofInt 64 v2).toNat:Int)) &&& BitVec.ofInt 64 192).toNat:Int))==0) then
(some (Option.getD (Df I8 a0.Type_) 0)).bind fun v3=> if (v3==192) then k1 true else k1 (cond true (cond false true ((AK ((BitVec.ofInt 64 a0.Flags &&& BitVec.ofInt 64 32).toNat:Int))==0)) false) else k1 false
) fun v4=> some v4
def Bl (a0:List UInt8):Option Int:= AI (τ:=Int) (fun k1=> An (σ:=Int) (fun v2=> k1 v2
) (fun next3 (x4:UInt8) i5 v2=> next3 (AK ((BitVec.ofInt 64 (AK (v2 * (2 ^ (min (Int.toNat 8) 64)))) ||| BitVec.ofInt 64 (x4.toNat:Int)).toNat:Int))
) a0 0 0
) fun v6=> some v6
def B8 (a0:List UInt8):Option (List Int):= AI (τ:=(List Int)) (fun k1=> Av (σ:=(List UInt8)×(List Int)) (fun next2 (v3,v4)=> if (decide ((v3.length:Int) ≥ 4)) then
(part v3 0 4).bind fun v5=>
(Bl v5).bind fun v6=>
(apnd (α:=Int) 8 v4 ([v6]:List Int)).bind fun v7=>
(part v3 4 (v3.length:Int)).bind fun v8=> next2 (v8,v7) else k1 v4
) fuel (a0,[])
) fun v9=> some v9
def BV (a0:List Int):Option (List Int):= if (decide ((a0.length:Int)<2)) then some a0 else AI (τ:=Unit) (fun k1=> Av (σ:=Int) (fun next2 v3=> if (decide (v3<(a0.length:Int))) then AI (τ:=Unit) (fun k4=>
(geti a0 v3).bind fun v5=>
(geti a0 (AK (v3 - 1))).bind fun v6=> if (v5==v6) then
(chk (0<=v3/\v3<=(a0.length:Int)/\(a0.length:Int)<=(a0.length:Int))).bind fun _=> AI (τ:=Int×(List Int)) (fun k7=> Av (σ:=Int×Int×(List Int)) (fun next8 (v9,v10,v11)=> if (decide (v10<(((Int.toNat (a0.length:Int) - Int.toNat v3):Nat):Int))) then
(geti (List.take (Int.toNat (a0.length:Int) - Int.toNat v3) (List.drop (Int.toNat v3) v11)) v10).bind fun v12=>
(geti (List.take (Int.toNat (a0.length:Int) - Int.toNat v3) (List.drop (Int.toNat v3) v11)) (AK (v10 - 1))).bind fun v13=> AI (τ:=Int×(List Int)) (fun k14=> if (v12 != v13) then
(geti (List.take (Int.toNat (a0.length:Int) - Int.toNat v3) (List.drop (Int.toNat v3) v11)) v10).bind fun v15=>
(geti v11 v9).bind fun v16=>
(seti v11 v9 v15).bind fun v17=> k14 ((AK (v9 + 1)),v17) else k14 (v9,v11)
) fun (v18,v19)=> next8 (v18,(AK (v10 + 1)),v19) else k7 (v9,v11)
) fuel (v3,1,a0)
) fun (v20,v21)=>
(chk (0<=v20/\v20<=(v21.length:Int)/\(v21.length:Int)<=(v21.length:Int))).bind fun _=>
(part (List.take (Int.toNat v20) v21++List.replicate (Int.toNat (v21.length:Int) - Int.toNat v20) 0++List.drop ((Int.toNat v20) + (Int.toNat (v21.length:Int) - Int.toNat v20)) v21) 0 v20).bind fun v22=> some v22 else k4 ()
) fun _=> next2 (AK (v3 + 1)) else k1 ()
) fuel 1
) fun _=> some a0
def EV (a0:Int):Option Bool:= AI (τ:=Bool) (fun k1=> if (decide (a0 ≥ 1)) then k1 (cond true (decide (a0<=4294967295)) false) else k1 false
) fun v2=> some v2
def Fv (a0:List JAC):Option Bool:= AI (τ:=Int) (fun k1=> An (σ:=Int) (fun v2=> k1 v2
) (fun next3 (x4:JAC) i5 v2=> AI (τ:=Unit) (fun k6=> AI (τ:=Bool) (fun k7=> if ((x4.ASNs.length:Int)==0) then k7 true else if (decide ((i5:Int) > 0)) then if (cond true (!x4.Set) false) then
(geti a0 (AK ((i5:Int) - 1))).bind fun v8=> k7 (cond false true (cond true (!v8.Set) false)) else k7 false else k7 false
) fun v9=> if v9 then some false else AI (τ:=Unit) (fun k10=> An (σ:=Unit) (fun _=> k10 ()
) (fun next11 (x12:Int) i13 _=> AI (τ:=Bool) (fun k14=>
(EV x12).bind fun v15=> if (!v15) then k14 true else if x4.Set then if (cond true (decide ((i13:Int) > 0)) false) then
(geti x4.ASNs (AK ((i13:Int) - 1))).bind fun v16=> k14 (cond false true (cond true (decide (v16 ≥ x12)) false)) else k14 false else k14 false
) fun v17=> if v17 then some false else next11 ()
) x4.ASNs 0 ()
) fun _=> k6 ()
) fun _=> next3 (AK (v2 + (x4.ASNs.length:Int)))
) a0 0 0
) fun v18=> some (decide (v18<=64))
def A7 (a0:List UInt8):Option (Addr×Int):= AI (τ:=Bool) (fun k1=> if ((a0.length:Int) != 4) then k1 (cond true ((a0.length:Int) != 16) false) else k1 false
) fun v2=> if v2 then some ((⟨false,(0:UInt64),(0:UInt64)⟩:Addr),1) else AI (τ:=Addr) (fun k3=> An (σ:=Addr) (fun v4=> k3 v4
) (fun next5 (x6:UInt8) i7 v4=> next5 (⟨v4.V6,(Az ((BitVec.ofInt 64 ((Az ((v4.Hi.toNat:Int) * (2 ^ (min (Int.toNat 8) 64)))).toNat:Int) ||| BitVec.ofInt 64 ((Az (Int.fdiv (v4.Lo.toNat:Int) (2 ^ (min (Int.toNat 56) 64)))).toNat:Int)).toNat:Int)),(Az ((BitVec.ofInt 64 ((Az ((v4.Lo.toNat:Int) * (2 ^ (min (Int.toNat 8) 64)))).toNat:Int) ||| BitVec.ofInt 64 ((Az (x6.toNat:Int)).toNat:Int)).toNat:Int))⟩:Addr)
) a0 0 (⟨((a0.length:Int)==16),(0:UInt64),(0:UInt64)⟩:Addr)
) fun v8=> some (v8,0)
def Am (a0:List JAA):Option (List JAA):= if (decide ((a0.length:Int)<2)) then some a0 else AI (τ:=Unit) (fun k1=> Av (σ:=Int) (fun next2 v3=> if (decide (v3<(a0.length:Int))) then AI (τ:=Unit) (fun k4=>
(geti a0 v3).bind fun v5=>
(geti a0 (AK (v3 - 1))).bind fun v6=> if (JAA.eqd v5 v6) then
(chk (0<=v3/\v3<=(a0.length:Int)/\(a0.length:Int)<=(a0.length:Int))).bind fun _=> AI (τ:=Int×(List JAA)) (fun k7=> Av (σ:=Int×Int×(List JAA)) (fun next8 (v9,v10,v11)=> if (decide (v10<(((Int.toNat (a0.length:Int) - Int.toNat v3):Nat):Int))) then
(geti (List.take (Int.toNat (a0.length:Int) - Int.toNat v3) (List.drop (Int.toNat v3) v11)) v10).bind fun v12=>
(geti (List.take (Int.toNat (a0.length:Int) - Int.toNat v3) (List.drop (Int.toNat v3) v11)) (AK (v10 - 1))).bind fun v13=> AI (τ:=Int×(List JAA)) (fun k14=> if (!(JAA.eqd v12 v13)) then
(geti (List.take (Int.toNat (a0.length:Int) - Int.toNat v3) (List.drop (Int.toNat v3) v11)) v10).bind fun v15=>
(geti v11 v9).bind fun v16=>
(seti v11 v9 v15).bind fun v17=> k14 ((AK (v9 + 1)),v17) else k14 (v9,v11)
) fun (v18,v19)=> next8 (v18,(AK (v10 + 1)),v19) else k7 (v9,v11)
) fuel (v3,1,a0)
) fun (v20,v21)=>
(chk (0<=v20/\v20<=(v21.length:Int)/\(v21.length:Int)<=(v21.length:Int))).bind fun _=>
(part (List.take (Int.toNat v20) v21++List.replicate (Int.toNat (v21.length:Int) - Int.toNat v20) (⟨0,0⟩:JAA)++List.drop ((Int.toNat v20) + (Int.toNat (v21.length:Int) - Int.toNat v20)) v21) 0 v20).bind fun v22=> some v22 else k4 ()
) fun _=> next2 (AK (v3 + 1)) else k1 ()
) fuel 1
) fun _=> some a0
def cmp_isNaN_int (a0:Int):Option Bool:= some (a0 != a0)
def cmp_Compare_int (a0:Int) (a1:Int):Option Int:=
(cmp_isNaN_int a0).bind fun v1=>
(cmp_isNaN_int a1).bind fun v2=> if v1 then if v2 then some 0 else some (-1) else if v2 then some 1 else if (decide (a0<a1)) then some (-1) else if (decide (a0 > a1)) then some 1 else some 0
def Eh (a0:List Int):Option Int:= AI (τ:=Unit) (fun k1=> An (σ:=Unit) (fun _=> k1 ()
) (fun next2 (x3:Int) i4 _=> if (x3 != 0) then some x3 else next2 ()
) a0 0 ()
) fun _=> some 0
def BJ (a0:JAA) (a1:JAA):Option Int:=
(cmp_Compare_int a0.A a1.A).bind fun v1=>
(cmp_Compare_int a0.B a1.B).bind fun v2=>
(Eh ([v1,v2]:List Int)).bind fun v3=> some v3
def DO (a0:List Int):Option Int:= if (decide ((a0.length:Int)<1)) then none else
(geti a0 0).bind fun v1=> AI (τ:=Int) (fun k2=> Av (σ:=Int×Int) (fun next3 (v4,v5)=> if (decide (v5<(a0.length:Int))) then
(geti a0 v5).bind fun v6=> next3 ((if v6<v4 then v6 else v4),(AK (v5 + 1))) else k2 v4
) fuel (v1,1)
) fun v7=> some v7
def DV (a0:List Int):Option Int:= if (decide ((a0.length:Int)<1)) then none else
(geti a0 0).bind fun v1=> AI (τ:=Int) (fun k2=> Av (σ:=Int×Int) (fun next3 (v4,v5)=> if (decide (v5<(a0.length:Int))) then
(geti a0 v5).bind fun v6=> next3 ((if v6 > v4 then v6 else v4),(AK (v5 + 1))) else k2 v4
) fuel (v1,1)
) fun v7=> some v7
def DK (a0:Int) (a1:List Int):Option Bool:= AI (τ:=Bool) (fun k1=>
(DO a1).bind fun v2=> if (decide (v2 ≥ 0)) then
(DV a1).bind fun v3=> k1 (cond true (decide (v3<=a0)) false) else k1 false
) fun v4=> some v4
def Eg (a0:JAA):Option Bool:=
(DK 65535 ([a0.A,a0.B]:List Int)).bind fun v1=> some v1
def Do (a0:JAA) (a1:JAA):Option Int:=
(cmp_Compare_int a0.A a1.A).bind fun v1=>
(cmp_Compare_int a0.B a1.B).bind fun v2=>
(Eh ([v1,v2]:List Int)).bind fun v3=> some v3
def AY (a0:List JAA):Option Bool:= AI (τ:=Unit) (fun k1=> An (σ:=Unit) (fun _=> k1 ()
) (fun next2 (x3:JAA) i4 _=> AI (τ:=Bool) (fun k5=>
(Eg x3).bind fun v6=> if (!v6) then k5 true else if (decide ((i4:Int) > 0)) then
(geti a0 (AK ((i4:Int) - 1))).bind fun v7=>
(Do v7 x3).bind fun v8=> k5 (cond false true (cond true (decide (v8 ≥ 0)) false)) else k5 false
) fun v9=> if v9 then some false else next2 ()
) a0 0 ()
) fun _=> some (decide ((a0.length:Int)<=64))
def ES (a0:List JAA):Option Bool:=
(AY a0).bind fun v1=> some v1
def A1 (a0:List JAE):Option (List JAE):= if (decide ((a0.length:Int)<2)) then some a0 else AI (τ:=Unit) (fun k1=> Av (σ:=Int) (fun next2 v3=> if (decide (v3<(a0.length:Int))) then AI (τ:=Unit) (fun k4=>
(geti a0 v3).bind fun v5=>
(geti a0 (AK (v3 - 1))).bind fun v6=> if (JAE.eqd v5 v6) then
(chk (0<=v3/\v3<=(a0.length:Int)/\(a0.length:Int)<=(a0.length:Int))).bind fun _=> AI (τ:=Int×(List JAE)) (fun k7=> Av (σ:=Int×Int×(List JAE)) (fun next8 (v9,v10,v11)=> if (decide (v10<(((Int.toNat (a0.length:Int) - Int.toNat v3):Nat):Int))) then
(geti (List.take (Int.toNat (a0.length:Int) - Int.toNat v3) (List.drop (Int.toNat v3) v11)) v10).bind fun v12=>
(geti (List.take (Int.toNat (a0.length:Int) - Int.toNat v3) (List.drop (Int.toNat v3) v11)) (AK (v10 - 1))).bind fun v13=> AI (τ:=Int×(List JAE)) (fun k14=> if (!(JAE.eqd v12 v13)) then
(geti (List.take (Int.toNat (a0.length:Int) - Int.toNat v3) (List.drop (Int.toNat v3) v11)) v10).bind fun v15=>
(geti v11 v9).bind fun v16=>
(seti v11 v9 v15).bind fun v17=> k14 ((AK (v9 + 1)),v17) else k14 (v9,v11)
) fun (v18,v19)=> next8 (v18,(AK (v10 + 1)),v19) else k7 (v9,v11)
) fuel (v3,1,a0)
) fun (v20,v21)=>
(chk (0<=v20/\v20<=(v21.length:Int)/\(v21.length:Int)<=(v21.length:Int))).bind fun _=>
(part (List.take (Int.toNat v20) v21++List.replicate (Int.toNat (v21.length:Int) - Int.toNat v20) (⟨0,0,0⟩:JAE)++List.drop ((Int.toNat v20) + (Int.toNat (v21.length:Int) - Int.toNat v20)) v21) 0 v20).bind fun v22=> some v22 else k4 ()
) fun _=> next2 (AK (v3 + 1)) else k1 ()
) fuel 1
) fun _=> some a0
def CL (a0:JAE) (a1:JAE):Option Int:=
(cmp_Compare_int a0.A a1.A).bind fun v1=>
(cmp_Compare_int a0.B a1.B).bind fun v2=>
(cmp_Compare_int a0.C a1.C).bind fun v3=>
(Eh ([v1,v2,v3]:List Int)).bind fun v4=> some v4
def DF (a0:JAE):Option Bool:=
(DK 4294967295 ([a0.A,a0.B,a0.C]:List Int)).bind fun v1=> some v1
def B7 (a0:JAE) (a1:JAE):Option Int:=
(cmp_Compare_int a0.A a1.A).bind fun v1=>
(cmp_Compare_int a0.B a1.B).bind fun v2=>
(cmp_Compare_int a0.C a1.C).bind fun v3=>
(Eh ([v1,v2,v3]:List Int)).bind fun v4=> some v4
def AT (a0:List JAE):Option Bool:= AI (τ:=Unit) (fun k1=> An (σ:=Unit) (fun _=> k1 ()
) (fun next2 (x3:JAE) i4 _=> AI (τ:=Bool) (fun k5=>
(DF x3).bind fun v6=> if (!v6) then k5 true else if (decide ((i4:Int) > 0)) then
(geti a0 (AK ((i4:Int) - 1))).bind fun v7=>
(B7 v7 x3).bind fun v8=> k5 (cond false true (cond true (decide (v8 ≥ 0)) false)) else k5 false
) fun v9=> if v9 then some false else next2 ()
) a0 0 ()
) fun _=> some (decide ((a0.length:Int)<=64))
def Cj (a0:List JAE):Option Bool:=
(AT a0).bind fun v1=> some v1
def CV (a0:Int) (a1:Int) (a2:Int):Option Bool:= AI (τ:=Bool) (fun k1=> if (decide (a0 ≥ a1)) then k1 (cond true (decide (a0<=a2)) false) else k1 false
) fun v2=> some v2
def B9 (a0:List UInt8):Option (List UInt8):=
(apnd (α:=UInt8) 1 ([]:List UInt8) a0).bind fun v1=> some v1
def DL (a0:JAB) (a1:JAB):Option Int:=
(cmp_Compare_int a0.Type_ a1.Type_).bind fun v1=> some v1
def Aq (a0:List JAB):Option Int:= AI (τ:=Unit) (fun k1=> An (σ:=Unit) (fun _=> k1 ()
) (fun next2 (x3:JAB) i4 _=>
(DJ x3).bind fun v5=> if v5 then some (i4:Int) else next2 ()
) a0 0 ()
) fun _=> some (-1)
def Ad (a0:List JAB):Option Bool:=
(Aq a0).bind fun v1=> some (decide (v1 ≥ 0))
def EY {ρ:Type} (F:Option ρ) (next16:Int×Bool×UInt64×UInt64×Int×Int×Int×(List JAC)×(List JAA)×(List JAE)->Option ρ) (x17:JAB):Int×Bool×UInt64×UInt64×Int×Int×Int×(List JAC)×(List JAA)×(List JAE)->Option ρ:=fun (v6,v7,v8,v9,v10,v11,v12,v13,v14,v15)=> AI (τ:=Int×Bool×UInt64×UInt64×Int×Int×Int×(List JAC)×(List JAA)×(List JAE)) (fun k19=> if (x17.Type_==1) then AI (τ:=Bool×Int) (fun k20=>
(BC x17).bind fun v21=> if (!v21) then k20 (true,v6) else AI (τ:=Bool×Int) (fun k22=>
(Bl x17.Data).bind fun v23=> AI (τ:=Bool) (fun k24=> if ((x17.Data.length:Int)==1) then k24 (cond true (decide (v23<=2)) false) else k24 false
) fun v25=> k22 (v25,v23)
) fun (v26,v27)=> k20 ((cond true (cond false true (!v26)) false),v27)
) fun (v28,v29)=> if v28 then F else k19 (v29,v7,v8,v9,v10,v11,v12,v13,v14,v15) else if (x17.Type_==2) then AI (τ:=Bool×(List JAC)) (fun k30=>
(BC x17).bind fun v31=> if (!v31) then k30 (true,v13) else AI (τ:=Bool×(List JAC)) (fun k32=> AI (τ:=(List JAC)) (fun k33=>
(chk (v13=[])).bind fun _=> Av (σ:=(List UInt8)×(List JAC)×Nat×(List Int)) (fun next34 (v35,v36,v37,v38)=> if (decide ((v35.length:Int) > 0)) then AI (τ:=Bool) (fun k39=> if (decide ((v35.length:Int)<2)) then k39 true else
(geti v35 0).bind fun v40=> if ((v40.toNat:Int) != 1) then
(geti v35 0).bind fun v41=> if (cond false true (cond true ((v41.toNat:Int) != 2) false)) then k39 true else
(geti v35 1).bind fun v42=> if (cond false true (decide ((v35.length:Int)<(AK (2 + (AK (4 * (v42.toNat:Int)))))))) then k39 true else
(geti v35 1).bind fun v43=> k39 (cond false true ((v43.toNat:Int)==0)) else
(geti v35 1).bind fun v44=> if (cond false true (decide ((v35.length:Int)<(AK (2 + (AK (4 * (v44.toNat:Int)))))))) then k39 true else
(geti v35 1).bind fun v45=> k39 (cond false true ((v45.toNat:Int)==0))
) fun v46=> if v46 then k32 (false,v36) else
(geti v35 1).bind fun v47=>
(geti v35 0).bind fun v48=>
(part v35 2 (AK (2 + (AK (4 * (v47.toNat:Int)))))).bind fun v49=>
(B8 v49).bind fun v50=>
(part v35 (AK (2 + (AK (4 * (v47.toNat:Int))))) (v35.length:Int)).bind fun v51=> AI (τ:=(List Int)) (fun k52=> if ((v48.toNat:Int)==1) then
(Kr v50).bind fun v53=>
(BV v53).bind fun v54=> k52 v54 else k52 v50
) fun v55=> AI (τ:=Bool) (fun k56=> if (decide ((AK ((v36.length:Int) - 1)) ≥ 0)) then if (cond true (!((v48.toNat:Int)==1)) false) then
(geti v36 (AK ((v36.length:Int) - 1))).bind fun v57=> k56 (cond true (!v57.Set) false) else k56 false else k56 false
) fun v58=> AI (τ:=(List JAC)×Nat×(List Int)) (fun k59=> if v58 then
(geti v36 (AK ((v36.length:Int) - 1))).bind fun v60=>
(chk (Int.toNat (AK ((v36.length:Int) - 1))=v37)).bind fun _=>
(apnd (α:=Int) 8 v38 v55).bind fun v61=>
(geti v36 (AK ((v36.length:Int) - 1))).bind fun v62=>
(seti v36 (AK ((v36.length:Int) - 1)) (⟨v62.Set,v61⟩:JAC)).bind fun v63=> k59 (v63,(Int.toNat (AK ((v36.length:Int) - 1))),v61) else
(apnd (α:=JAC) 32 v36 ([(⟨((v48.toNat:Int)==1),v55⟩:JAC)]:List JAC)).bind fun v64=> k59 (v64,((List.map JAC.toD v36).length + 0),v55)
) fun (v65,v66,v67)=> next34 (v51,v65,v66,v67) else k33 v36
) fuel (x17.Data,v13,0,[])
) fun v68=>
(Fv v68).bind fun v69=> k32 (v69,v68)
) fun (v70,v71)=> k30 ((cond true (cond false true (!v70)) false),v71)
) fun (v72,v73)=> if v72 then F else k19 (v6,v7,v8,v9,v10,v11,v12,v73,v14,v15) else if (x17.Type_==3) then AI (τ:=Bool×Bool×UInt64×UInt64) (fun k74=>
(BC x17).bind fun v75=> if (!v75) then k74 (true,v7,v8,v9) else AI (τ:=Bool×UInt64×UInt64) (fun k76=>
(A7 x17.Data).bind fun (v77,v78)=> k76 (v77.V6,v77.Hi,v77.Lo)
) fun (v79,v80,v81)=> k74 ((cond true (cond false true (!((x17.Data.length:Int)==4))) false),v79,v80,v81)
) fun (v82,v83,v84,v85)=> if v82 then F else k19 (v6,v83,v84,v85,v10,v11,v12,v13,v14,v15) else if (x17.Type_==4) then AI (τ:=Bool×Int) (fun k86=>
(BC x17).bind fun v87=> if (!v87) then k86 (true,v10) else AI (τ:=Int) (fun k88=> AI (τ:=Int) (fun k89=>
(Bl x17.Data).bind fun v90=> k89 v90
) fun v91=> k88 v91
) fun v92=> k86 ((cond true (cond false true (!((x17.Data.length:Int)==4))) false),v92)
) fun (v93,v94)=> if v93 then F else k19 (v6,v7,v8,v9,v94,v11,v12,v13,v14,v15) else if (x17.Type_==5) then AI (τ:=Bool×Int) (fun k95=>
(BC x17).bind fun v96=> if (!v96) then k95 (true,v11) else AI (τ:=Int) (fun k97=> AI (τ:=Int) (fun k98=>
(Bl x17.Data).bind fun v99=> k98 v99
) fun v100=> k97 v100
) fun v101=> k95 ((cond true (cond false true (!((x17.Data.length:Int)==4))) false),v101)
) fun (v102,v103)=> if v102 then F else k19 (v6,v7,v8,v9,v10,v103,v12,v13,v14,v15) else if (x17.Type_==8) then AI (τ:=Bool×(List JAA)) (fun k104=>
(BC x17).bind fun v105=> if (!v105) then k104 (true,v14) else AI (τ:=Bool×(List JAA)) (fun k106=>
(B8 x17.Data).bind fun v107=> AI (τ:=(List JAA)) (fun k108=> An (σ:=(List JAA)) (fun v109=> k108 v109
) (fun next110 (x111:Int) i112 v109=>
(apnd (α:=JAA) 16 v109 ([(⟨(Int.fdiv x111 (2 ^ (min (Int.toNat 16) 64))),(AK ((BitVec.ofInt 64 x111 &&& BitVec.ofInt 64 65535).toNat:Int))⟩:JAA)]:List JAA)).bind fun v113=> next110 v113
) v107 0 []
) fun v114=> AI (τ:=Bool×(List JAA)) (fun k115=> AI (τ:=Bool) (fun k116=> if (decide ((v114.length:Int) > 0)) then k116 (cond true (decide ((v114.length:Int)<=64)) false) else k116 false
) fun v117=>
(FR BJ v114).bind fun v118=>
(Am v118).bind fun v119=> k115 (v117,v119)
) fun (v120,v121)=> AI (τ:=Bool) (fun k122=> if v120 then if (cond true ((Int.tmod (x17.Data.length:Int) 4)==0) false) then
(ES v121).bind fun v123=> k122 (cond true v123 false) else k122 false else k122 false
) fun v124=> k106 (v124,v121)
) fun (v125,v126)=> k104 ((cond true (cond false true (!v125)) false),v126)
) fun (v127,v128)=> if v127 then F else k19 (v6,v7,v8,v9,v10,v11,v12,v13,v128,v15) else if (x17.Type_==32) then AI (τ:=Bool×(List JAE)) (fun k129=>
(BC x17).bind fun v130=> if (!v130) then k129 (true,v15) else AI (τ:=Bool×(List JAE)) (fun k131=> if ((Int.tmod (x17.Data.length:Int) 12) != 0) then k131 (false,v15) else
(B8 x17.Data).bind fun v132=> AI (τ:=(List JAE)) (fun k133=> Av (σ:=(List JAE)×(List Int)) (fun next134 (v135,v136)=> if (decide ((v136.length:Int) > 0)) then
(geti v136 0).bind fun v137=>
(geti v136 1).bind fun v138=>
(geti v136 2).bind fun v139=>
(apnd (α:=JAE) 24 v135 ([(⟨v137,v138,v139⟩:JAE)]:List JAE)).bind fun v140=>
(part v136 3 (v136.length:Int)).bind fun v141=> next134 (v140,v141) else k133 v135
) fuel ([],v132)
) fun v142=> AI (τ:=Bool×(List JAE)) (fun k143=> AI (τ:=Bool) (fun k144=> if (decide ((v142.length:Int) > 0)) then k144 (cond true (decide ((v142.length:Int)<=64)) false) else k144 false
) fun v145=>
(FR CL v142).bind fun v146=>
(A1 v146).bind fun v147=> k143 (v145,v147)
) fun (v148,v149)=> AI (τ:=Bool) (fun k150=> if v148 then
(Cj v149).bind fun v151=> k150 (cond true v151 false) else k150 false
) fun v152=> k131 (v152,v149)
) fun (v153,v154)=> k129 ((cond true (cond false true (!v153)) false),v154)
) fun (v155,v156)=> if v155 then F else k19 (v6,v7,v8,v9,v10,v11,v12,v13,v14,v156) else if (x17.Type_==35) then AI (τ:=Bool×Int) (fun k157=>
(BC x17).bind fun v158=> if (!v158) then k157 (true,v12) else AI (τ:=Bool×Int) (fun k159=> AI (τ:=Bool×Int) (fun k160=> AI (τ:=Int) (fun k161=>
(Bl x17.Data).bind fun v162=> k161 v162
) fun v163=> if ((x17.Data.length:Int)==4) then
(EV v163).bind fun v164=> k160 ((cond true v164 false),v163) else k160 (false,v163)
) fun (v165,v166)=> k159 (v165,v166)
) fun (v167,v168)=> k157 ((cond true (cond false true (!v167)) false),v168)
) fun (v169,v170)=> if v169 then F else k19 (v6,v7,v8,v9,v10,v11,v170,v13,v14,v15) else k19 (v6,v7,v8,v9,v10,v11,v12,v13,v14,v15)
) fun (v171,v172,v173,v174,v175,v176,v177,v178,v179,v180)=> next16 (v171,v172,v173,v174,v175,v176,v177,v178,v179,v180)
def D9 (a0:List JAB):Option (JAF×Int):=
(DI a0).bind fun v1=>
(Ad v1).bind fun v2=> if v2 then some ((⟨0,[],(⟨false,(0:UInt64),(0:UInt64)⟩:Addr),0,0,0,[],[],[]⟩:JAF),12) else AI (τ:=Int×Bool×UInt64×UInt64×Int×Int×Int×Bool×(List JAC)×(List JAA)×(List JAE)) (fun k3=> AI (τ:=Unit) (fun k4=> k4 ()
) fun _=> AI (τ:=Int×Bool×UInt64×UInt64×Int×Int×Int×(List JAC)×(List JAA)×(List JAE)) (fun k5=> An (σ:=Int×Bool×UInt64×UInt64×Int×Int×Int×(List JAC)×(List JAA)×(List JAE)) (fun (v6,v7,v8,v9,v10,v11,v12,v13,v14,v15)=> k5 (v6,v7,v8,v9,v10,v11,v12,v13,v14,v15)
) (fun next16 (x17:JAB) i18 s=>EY (k3 (0,false,(0:UInt64),(0:UInt64),0,0,0,false,[],[],[])) next16 x17 s
) v1 0 ((-1),false,(0:UInt64),(0:UInt64),(-1),(-1),(-1),[],[],[])
) fun (v181,v182,v183,v184,v185,v186,v187,v188,v189,v190)=> k3 (v181,v182,v183,v184,v185,v186,v187,true,v188,v189,v190)
) fun (v191,v192,v193,v194,v195,v196,v197,v198,v199,v200,v201)=> if (!v198) then some ((⟨0,[],(⟨false,(0:UInt64),(0:UInt64)⟩:Addr),0,0,0,[],[],[]⟩:JAF),13) else AI (τ:=(List JAB)) (fun k202=> An (σ:=(List JAB)) (fun v203=> k202 v203
) (fun next204 (x205:JAB) i206 v203=> AI (τ:=Bool) (fun k207=>
(Ba x205.Type_).bind fun v208=> if v208 then
(CV x205.Type_ 1 255).bind fun v209=> if (cond true v209 false) then if (cond true ((AK ((BitVec.ofInt 64 x205.Flags &&& BitVec.ofInt 64 64).toNat:Int)) != 0) false) then k207 (cond true (decide ((x205.Data.length:Int)<=255)) false) else k207 false else k207 false else k207 false
) fun v210=> AI (τ:=(List JAB)) (fun k211=> if v210 then
(B9 x205.Data).bind fun v212=>
(apnd (α:=JAB) 40 v203 ([(⟨224,x205.Type_,v212⟩:JAB)]:List JAB)).bind fun v213=> k211 v213 else k211 v203
) fun v214=> next204 v214
) v1 0 []
) fun v215=> if (decide ((v215.length:Int) > 8)) then some ((⟨0,[],(⟨false,(0:UInt64),(0:UInt64)⟩:Addr),0,0,0,[],[],[]⟩:JAF),3) else
(FR DL v215).bind fun v216=> some ((⟨v191,v199,(⟨v192,v193,v194⟩:Addr),v195,v196,v197,v200,v201,v216⟩:JAF),0)
def Ei (a0:List UInt8):Option Int:=
(geti a0 0).bind fun v1=>
(geti a0 1).bind fun v2=> some (AK ((BitVec.ofInt 64 (AK ((v1.toNat:Int) * (2 ^ (min (Int.toNat 8) 64)))) ||| BitVec.ofInt 64 (v2.toNat:Int)).toNat:Int))
def F7 (a0:List UInt8):Option ((List UInt8)×(List UInt8)×Bool):= AI (τ:=Bool) (fun k1=> if (decide ((a0.length:Int)<2)) then k1 true else
(Ei a0).bind fun v2=> k1 (cond false true (decide ((AK ((a0.length:Int) - 2))<v2)))
) fun v3=> if v3 then some ([],[],false) else
(Ei a0).bind fun v4=>
(part a0 2 (AK (2 + v4))).bind fun v5=>
(part a0 (AK (2 + v4)) (a0.length:Int)).bind fun v6=> some (v5,v6,true)
def EO (a0:List UInt8):Option ((List JAB)×Int):= AI (τ:=(List JAB)) (fun k1=> Av (σ:=(List UInt8)×(List JAB)) (fun next2 (v3,v4)=> if (decide ((v3.length:Int) > 0)) then
(geti v3 0).bind fun v5=> AI (τ:=Int) (fun k6=> if (((Dh ((BitVec.ofInt 8 (v5.toNat:Int) &&& BitVec.ofInt 8 16).toNat:Int)).toNat:Int) != 0) then k6 4 else k6 3
) fun v7=> AI (τ:=Bool) (fun k8=> if (decide ((v3.length:Int)<v7)) then k8 true else
(part v3 2 v7).bind fun v9=>
(Bl v9).bind fun v10=> k8 (cond false true (decide ((AK ((v3.length:Int) - v7))<v10)))
) fun v11=> if v11 then some ([],12) else
(part v3 2 v7).bind fun v12=>
(Bl v12).bind fun v13=>
(geti v3 0).bind fun v14=>
(geti v3 1).bind fun v15=>
(part v3 v7 (AK (v7 + v13))).bind fun v16=>
(apnd (α:=UInt8) 1 [] v16).bind fun _=>
(apnd (α:=JAB) 40 v4 ([(⟨((Dh ((BitVec.ofInt 8 (v14.toNat:Int) &&& BitVec.ofInt 8 224).toNat:Int)).toNat:Int),(v15.toNat:Int),v16⟩:JAB)]:List JAB)).bind fun v17=>
(part v3 (AK (v7 + v13)) (v3.length:Int)).bind fun v18=> next2 (v18,v17) else k1 v4
) fuel (a0,[])
) fun v19=> some (v19,0)
def Ha (a0:Addr):Option Bool:= AI (τ:=Bool) (fun k1=> if a0.V6 then k1 true else if ((a0.Hi.toNat:Int)==0) then k1 (cond false true (cond true (decide ((a0.Lo.toNat:Int)<4294967296)) false)) else k1 false
) fun v2=> some v2
def Cc (a0:Addr):Option Int:= if a0.V6 then some 128 else some 32
def E1 (a0:Int):Option (UInt64×UInt64):= if (decide (a0 > 64)) then some ((Az (((Az (1 * (2 ^ (min (Int.toNat ((Az (AK (a0 - 64))).toNat:Int)) 64)))).toNat:Int) - 1)),(18446744073709551615:UInt64)) else some ((0:UInt64),(Az (((Az (1 * (2 ^ (min (Int.toNat ((Az a0).toNat:Int)) 64)))).toNat:Int) - 1)))
def EK (a0:Addr) (a1:Int):Option Addr:=
(Cc a0).bind fun v1=>
(E1 (AK (v1 - a1))).bind fun (v2,v3)=> some (⟨a0.V6,(Az ((BitVec.ofInt 64 (a0.Hi.toNat:Int) &&& ~~~BitVec.ofInt 64 (v2.toNat:Int)).toNat:Int)),(Az ((BitVec.ofInt 64 (a0.Lo.toNat:Int) &&& ~~~BitVec.ofInt 64 (v3.toNat:Int)).toNat:Int))⟩:Addr)
def Gm (a0:Addr) (a1:Int):Option (JAD×Int):=
(Ha a0).bind fun v1=> if (!v1) then some ((⟨(⟨false,(0:UInt64),(0:UInt64)⟩:Addr),0⟩:JAD),1) else AI (τ:=Bool) (fun k2=> if (decide (a1<0)) then k2 true else
(Cc a0).bind fun v3=> k2 (cond false true (decide (a1 > v3)))
) fun v4=> if v4 then some ((⟨(⟨false,(0:UInt64),(0:UInt64)⟩:Addr),0⟩:JAD),9) else
(EK a0 a1).bind fun v5=> some ((⟨v5,a1⟩:JAD),0)
def Bn (a0:List UInt8) (a1:Bool):Option ((List JAD)×Bool):= AI (τ:=Int) (fun k1=> if a1 then k1 128 else k1 32
) fun v2=> AI (τ:=(List JAD)) (fun k3=> Av (σ:=(List UInt8)×(List JAD)) (fun next4 (v5,v6)=> if (decide ((v5.length:Int) > 0)) then
(geti v5 0).bind fun v7=> AI (τ:=Bool) (fun k8=> if (decide ((v7.toNat:Int) > v2)) then k8 true else k8 (cond false true (decide ((v5.length:Int)<(AK (1 + (AK (Int.tdiv (AK ((v7.toNat:Int) + 7)) 8)))))))
) fun v9=> if v9 then some ([],false) else
(chk (0<=(AK (Int.tdiv v2 8))/\(AK (Int.tdiv v2 8))<=(AK (Int.tdiv v2 8))/\(AK (Int.tdiv v2 8))<=1048576)).bind fun _=>
(part v5 1 (AK (1 + (AK (Int.tdiv (AK ((v7.toNat:Int) + 7)) 8))))).bind fun v10=>
(A7 (cpy (List.replicate (Int.toNat (AK (Int.tdiv v2 8))) (0:UInt8)) 0 (List.replicate (Int.toNat (AK (Int.tdiv v2 8))) (0:UInt8)).length v10)).bind fun (v11,v12)=>
(Gm v11 (v7.toNat:Int)).bind fun (v13,v14)=>
(apnd (α:=JAD) 32 v6 ([v13]:List JAD)).bind fun v15=>
(part v5 (AK (1 + (AK (Int.tdiv (AK ((v7.toNat:Int) + 7)) 8)))) (v5.length:Int)).bind fun v16=> next4 (v16,v15) else k3 v6
) fuel (a0,[])
) fun v17=> some (v17,true)
def bytes_HasPrefix (a0:List UInt8) (a1:List UInt8):Option Bool:= AI (τ:=Bool) (fun k1=> if (decide ((a0.length:Int) ≥ (a1.length:Int))) then
(part a0 0 (a1.length:Int)).bind fun v2=>
(bytes_Equal v2 a1).bind fun v3=> k1 (cond true v3 false) else k1 false
) fun v4=> some v4
def bytes_CutPrefix (a0:List UInt8) (a1:List UInt8):Option ((List UInt8)×Bool):=
(bytes_HasPrefix a0 a1).bind fun v1=> if (!v1) then some (a0,false) else
(part a0 (a1.length:Int) (a0.length:Int)).bind fun v2=> some (v2,true)
def Cf (a0:JAG):Option (Bool×JAG):= AI (τ:=JAG×(List (Int×Int))) (fun k1=> An (σ:=JAG×(List (Int×Int))) (fun (v2,v3)=> k1 (v2,v3)
) (fun next4 (x5:JAB) i6 (v2,v3)=>
(some (Option.getD (Df v3 x5.Type_) 0)).bind fun v7=>
(bytes_CutPrefix x5.Data ([(0:UInt8),(2:UInt8),(1:UInt8)]:List UInt8)).bind fun (v8,v9)=> AI (τ:=Bool×JAG) (fun k10=> if (x5.Type_==14) then AI (τ:=Bool) (fun k11=> if (!v9) then k11 true else if (cond false true (decide ((v8.length:Int)<18))) then k11 true else
(geti v8 0).bind fun v12=> if (cond false true ((v12.toNat:Int) != 16)) then k11 true else
(geti v8 17).bind fun v13=> k11 (cond false true ((v13.toNat:Int) != 0))
) fun v14=> if v14 then some (false,v2) else
(part v8 1 17).bind fun v15=>
(A7 v15).bind fun (v16,v17)=>
(part v8 18 (v8.length:Int)).bind fun v18=>
(Bn v18 true).bind fun (v19,v20)=> k10 (v20,{ v2 with next:=v16,new6:=v19 }) else AI (τ:=Bool×(List JAD)) (fun k21=> if (x5.Type_==15) then AI (τ:=Bool×(List JAD)) (fun k22=> if v9 then
(Bn v8 true).bind fun (v23,v24)=> k22 (v24,v23) else k22 (v9,v2.gone6)
) fun (v25,v26)=> k21 (v25,v26) else k21 (true,v2.gone6)
) fun (v27,v28)=> k10 (v27,{ v2 with gone6:=v28 })
) fun (v29,v30)=> if (!v29) then some (false,v30) else next4 (v30,(F3 v3 x5.Type_ (AK (v7 + 1))))
) a0.attrs 0 (a0,[])
) fun (v31,v32)=> AI (τ:=Bool) (fun k33=>
(some (Option.getD (Df v32 14) 0)).bind fun v34=> if (decide (v34<2)) then
(some (Option.getD (Df v32 15) 0)).bind fun v35=> k33 (cond true (decide (v35<2)) false) else k33 false
) fun v36=> some (v36,v31)
def BZ (a0:JAG) (a1:List UInt8):Option (Bool×JAG):=
(F7 a1).bind fun (v1,v2,v3)=> if (!v3) then some (false,a0) else
(F7 v2).bind fun (v4,v5,v6)=> if (!v6) then some (false,a0) else
(EO v4).bind fun (v7,v8)=> AI (τ:=Bool×JAG) (fun k9=> if (v8 != 0) then k9 (true,{ a0 with attrs:=v7 }) else
(Cf ({ a0 with attrs:=v7 })).bind fun (v10,v11)=> k9 ((cond false true (!v10)),v11)
) fun (v12,v13)=> if v12 then some (false,v13) else
(Bn v1 false).bind fun (v14,v15)=>
(Bn v5 false).bind fun (v16,v17)=> AI (τ:=Bool) (fun k18=> if (!v15) then k18 true else if (cond false true (!v17)) then k18 true else if (decide ((v16.length:Int) > 0)) then if (cond false true (cond true (decide ((v13.new6.length:Int) > 0)) false)) then k18 true else if (cond false true (decide ((AK ((v14.length:Int) + (v13.gone6.length:Int))) > 256))) then k18 true else k18 (cond false true (decide ((AK ((v16.length:Int) + (v13.new6.length:Int))) > 256))) else if (cond false true (decide ((AK ((v14.length:Int) + (v13.gone6.length:Int))) > 256))) then k18 true else k18 (cond false true (decide ((AK ((v16.length:Int) + (v13.new6.length:Int))) > 256)))
) fun v19=> if v19 then some (false,{ v13 with gone4:=v14,new4:=v16 }) else
(D9 v13.attrs).bind fun (v20,v21)=> some ((v21 != 12),{ v13 with gone4:=v14,new4:=v16 })
def Cm (a0:JAB) (a1:Int):Option (Bool×Int):= some ((a0.Type_==a1),a1)
def Ac (a0:List JAB) (a1c0:Int):Option (Int×Int):= AI (τ:=Int) (fun k1=> An (σ:=Int) (fun v2=> k1 v2
) (fun next3 (x4:JAB) i5 v2=>
(Cm x4 v2).bind fun (v6,v7)=> if v6 then some ((i5:Int),v7) else next3 v7
) a0 0 a1c0
) fun v8=> some ((-1),v8)
def Aa (a0:List JAB) (a1c0:Int):Option (Bool×Int):=
(Ac a0 a1c0).bind fun (v1,v2)=> some ((decide (v1 ≥ 0)),v2)
def Bq (a0:JAG) (a1:Int):Option (Bool×JAG):=
(Aa a0.attrs a1).bind fun (v1,v2)=> some (v1,a0)
def GR (a0:List UInt8):Option (Bool×Bool):=
(chk (0<=(4:Int)/\(4:Int)<=4/\(4:Int)<=1048576)).bind fun _=>
(bytes_Equal a0 (List.replicate (Int.toNat 4) (0:UInt8))).bind fun v1=> if v1 then some (true,false) else AI (τ:=Bool) (fun k2=>
(BZ (⟨[],(⟨false,(0:UInt64),(0:UInt64)⟩:Addr),[],[],[],[]⟩:JAG) a0).bind fun (v3,v4)=> if (!v3) then k2 true else
(part a0 2 (a0.length:Int)).bind fun v5=>
(Ei v5).bind fun v6=> if (cond false true ((a0.length:Int) != (AK (4 + v6)))) then k2 true else if (cond false true ((v4.attrs.length:Int) != 1)) then k2 true else
(Bq v4 15).bind fun (v7,v8)=> if (cond false true (!v7)) then k2 true else
(Ei a0).bind fun v9=> if (cond false true (v9 != 0)) then k2 true else k2 (cond false true (decide ((v8.gone6.length:Int) > 0)))
) fun v10=> if v10 then some (false,false) else some (true,true)
def Ao (a0:List (List JAD)):Option (List JAD):= AI (τ:=Int) (fun k1=> An (σ:=Int) (fun v2=> k1 v2
) (fun next3 (x4:List JAD) i5 v2=> if (decide ((AK (v2 + (x4.length:Int)))<0)) then none else next3 (AK (v2 + (x4.length:Int)))
) a0 0 0
) fun v6=> AI (τ:=(List JAD)) (fun k7=> if (decide (v6<0)) then none else AI (τ:=(List JAD)) (fun k8=> if (decide ((AK (v6 - (AK (0 - 0)))) > 0)) then
(chk (0<(AK (v6 - (AK (0 - 0))))/\(AK (v6 - (AK (0 - 0))))<=1048576)).bind fun _=>
(part (List.replicate (Int.toNat (AK (v6 - (AK (0 - 0))))) (⟨(⟨false,(0:UInt64),(0:UInt64)⟩:Addr),0⟩:JAD)) 0 0).bind fun v9=> k8 v9 else k8 []
) fun v10=> k7 v10
) fun v11=> AI (τ:=(List JAD)) (fun k12=> An (σ:=(List JAD)) (fun v13=> k12 v13
) (fun next14 (x15:List JAD) i16 v13=>
(apnd (α:=JAD) 32 v13 x15).bind fun v17=> next14 v17
) a0 0 v11
) fun v18=> some v18
def Bf (a0:JAB):Option Bool:= AI (τ:=Bool) (fun k1=> if (a0.Type_==14) then k1 (cond true ((AK ((BitVec.ofInt 64 a0.Flags &&& BitVec.ofInt 64 192).toNat:Int)) != 128) false) else if (cond false true (a0.Type_==15)) then k1 (cond true ((AK ((BitVec.ofInt 64 a0.Flags &&& BitVec.ofInt 64 192).toNat:Int)) != 128) false) else k1 false
) fun v2=> some v2
def Aj (a0:List JAB):Option Int:= AI (τ:=Unit) (fun k1=> An (σ:=Unit) (fun _=> k1 ()
) (fun next2 (x3:JAB) i4 _=>
(Bf x3).bind fun v5=> if v5 then some (i4:Int) else next2 ()
) a0 0 ()
) fun _=> some (-1)
def AZ (a0:List JAB):Option Bool:=
(Aj a0).bind fun v1=> some (decide (v1 ≥ 0))
def DD (a0:JAG) (a1:JAF) (a2:Int):Option (Bool×JAG):= AI (τ:=Bool×JAG) (fun k1=> if (a2 != 0) then k1 (true,a0) else
(AZ a0.attrs).bind fun v2=> if (cond false true v2) then k1 (true,a0) else
(Bq a0 1).bind fun (v3,v4)=> if (cond false true (!v3)) then k1 (true,v4) else
(Bq v4 2).bind fun (v5,v6)=> if (cond false true (!v5)) then k1 (true,v6) else if (decide ((v6.new4.length:Int) > 0)) then k1 ((cond false true (cond true (Addr.eqd a1.Next (⟨false,(0:UInt64),(0:UInt64)⟩:Addr)) false)),v6) else k1 (false,v6)
) fun (v7,v8)=> some (v7,v8)
def FA (a0:List UInt8):Option (JAH×Int):=
(BZ (⟨[],(⟨false,(0:UInt64),(0:UInt64)⟩:Addr),[],[],[],[]⟩:JAG) a0).bind fun (v1,v2)=> if (!v1) then some ((⟨[],(⟨0,[],(⟨false,(0:UInt64),(0:UInt64)⟩:Addr),0,0,0,[],[],[]⟩:JAF),[]⟩:JAH),12) else
(Ao ([v2.gone4,v2.gone6]:List (List JAD))).bind fun v3=>
(FD).bind fun v4=>
(Ao ([v2.new4,v2.new6]:List (List JAD))).bind fun v5=> if ((v5.length:Int)==0) then some ((⟨v3,v4,[]⟩:JAH),0) else
(D9 v2.attrs).bind fun (v6,v7)=>
(DD v2 v6 v7).bind fun (v8,v9)=> if v8 then
(apnd (α:=JAD) 32 v3 v5).bind fun v10=> some ((⟨v10,v4,[]⟩:JAH),13) else AI (τ:=JAF) (fun k11=> if (decide ((v9.new6.length:Int) > 0)) then k11 ({ v6 with Next:=v9.next }) else k11 v6
) fun v12=> some ((⟨v3,v12,v5⟩:JAH),0)
def ER (a0:List UInt8) (a1:Int) (a2:Int):Option (List JAJ):=
(GR a0).bind fun (v1,v2)=> if v1 then AI (τ:=Int) (fun k3=> if v2 then k3 1 else k3 0
) fun v4=> some ([(⟨5,a1,0,v4,(⟨[],(⟨0,[],(⟨false,(0:UInt64),(0:UInt64)⟩:Addr),0,0,0,[],[],[]⟩:JAF),[]⟩:JAH),(⟨0,false,false,false,0,[],[]⟩:JAM)⟩:JAJ)]:List JAJ) else
(FA a0).bind fun (v5,v6)=> if (v6==12) then some ([(⟨3,a1,a2,0,(⟨[],(⟨0,[],(⟨false,(0:UInt64),(0:UInt64)⟩:Addr),0,0,0,[],[],[]⟩:JAF),[]⟩:JAH),(⟨0,false,false,false,0,[],[]⟩:JAM)⟩:JAJ)]:List JAJ) else some ([(⟨1,a1,0,0,v5,(⟨0,false,false,false,0,[],[]⟩:JAM)⟩:JAJ)]:List JAJ)
def Di (a0:JAL) (a1:JAL) (a2:JAK) (a3:Int) (a4:Int):Option (List JAJ):= if (JAN.eqd (⟨(a0.State==3),(a1.State==3)⟩:JAN) (⟨false,true⟩:JAN)) then some ([(⟨2,a3,0,0,(⟨[],(⟨0,[],(⟨false,(0:UInt64),(0:UInt64)⟩:Addr),0,0,0,[],[],[]⟩:JAF),[]⟩:JAH),(⟨0,false,false,false,0,[],[]⟩:JAM)⟩:JAJ)]:List JAJ) else if (JAN.eqd (⟨(a0.State==3),(a1.State==3)⟩:JAN) (⟨true,false⟩:JAN)) then
(Dy a0).bind fun v1=> AI (τ:=Int) (fun k2=> if (a2.Type_==3) then k2 0 else k2 v1
) fun v3=> some ([(⟨3,a3,a4,v3,(⟨[],(⟨0,[],(⟨false,(0:UInt64),(0:UInt64)⟩:Addr),0,0,0,[],[],[]⟩:JAF),[]⟩:JAH),(⟨0,false,false,false,0,[],[]⟩:JAM)⟩:JAJ)]:List JAJ) else AI (τ:=Unit) (fun k4=> if (JAN.eqd (⟨(a0.State==3),(a1.State==3)⟩:JAN) (⟨true,true⟩:JAN)) then if (a2.Type_==2) then
(ER a2.Body a3 a4).bind fun v5=> some v5 else k4 () else k4 ()
) fun _=> some []
def Ee (a0:RIB) (a1:Int):Option Bool:= AI (τ:=Bool) (fun k1=> if (a0.Until != 0) then k1 (cond true (decide (a0.Until<=a1)) false) else k1 false
) fun v2=> some v2
def Gl:Option Bool:=
(Di (⟨3,(⟨0,0,0,0,60,false⟩:Open),0,(⟨0,0,0,0,30,false⟩:Open),0,0⟩:JAL) (⟨0,(⟨0,0,0,0,0,false⟩:Open),0,(⟨0,0,0,0,0,false⟩:Open),0,0⟩:JAL) (⟨0,[]⟩:JAK) 101 7).bind fun v1=> AI (τ:=Bool) (fun k2=>
(Dy (⟨3,(⟨0,0,0,0,60,false⟩:Open),0,(⟨0,0,0,0,30,false⟩:Open),0,0⟩:JAL)).bind fun v3=> if (v3==30) then if (cond true ((v1.length:Int)==1) false) then
(geti v1 0).bind fun v4=> if (cond true (v4.Kind==3) false) then
(geti v1 0).bind fun v5=> if (cond true (v5.Grace==30) false) then
(geti v1 0).bind fun v6=> if (cond true (v6.Tick==7) false) then
(Ee (⟨(⟨0,ByteArray.empty,0,0,[]⟩:JAQ),false,[],5⟩:RIB) 5).bind fun v7=> k2 (cond true v7 false) else k2 false else k2 false else k2 false else k2 false else k2 false
) fun v8=> some v8
def IQ (a0:List Int):Option JAI:= some (⟨a0,0⟩:JAI)
def FC (a0:Int) (a1:Int):Option Int:=
(chk (a1≠0)).bind fun _=> AI (τ:=Int) (fun k1=> if (decide ((Int.tmod a0 a1)<0)) then k1 (AK ((Int.tmod a0 a1) + a1)) else k1 (Int.tmod a0 a1)
) fun v2=> some v2
def AO (a0:JAI) (a1:Int):Option (Int×JAI):= if (decide (a0.At ≥ (a0.L.length:Int))) then some (0,a0) else
(geti a0.L (AK ((AK (a0.At + 1)) - 1))).bind fun v1=>
(FC v1 a1).bind fun v2=> some (v2,(⟨a0.L,(AK (a0.At + 1))⟩:JAI))
def D1 (a0:JAI) (a1:Int):Option (Open×JAI):=
(AO a0 1073741824).bind fun (v1,v2)=>
(AO v2 5).bind fun (v3,v4)=>
(geti ([0,3,9,90,65535]:List Int) v3).bind fun v5=>
(AO v4 6).bind fun (v6,v7)=>
(AO v7 5).bind fun (v8,v9)=>
(geti ([0,0,1,60,4095]:List Int) v8).bind fun v10=>
(AO v9 3).bind fun (v11,v12)=> some ((⟨a1,(AK (1 + v1)),v5,(AK (v6 - 1)),v10,(v11==0)⟩:Open),v12)
def EW (a0:JAI):Option (JAL×JAI):=
(AO a0 5).bind fun (v1,v2)=>
(geti ([3,3,0,1,2]:List Int) v1).bind fun v3=>
(D1 v2 101).bind fun (v4,v5)=>
(D1 v5 102).bind fun (v6,v7)=> some ((⟨v3,v4,102,v6,0,0⟩:JAL),v7)
def Dv (a0:Int):Option Int:= AI (τ:=Bool) (fun k1=> if (a0==1) then k1 (a0==1) else AI (τ:=Bool) (fun k2=> if (a0==2) then k2 (a0==2) else AI (τ:=Bool) (fun k3=> if (a0==3) then k3 (a0==3) else k3 (a0==5)
) fun v4=> k2 v4
) fun v5=> k1 v5
) fun v6=> if v6 then some 64 else if (a0==4) then some 128 else AI (τ:=Bool) (fun k7=> if (a0==8) then k7 (a0==8) else AI (τ:=Bool) (fun k8=> if (a0==32) then k8 (a0==32) else k8 (a0==35)
) fun v9=> k7 v9
) fun v10=> if v10 then some 192 else some 0
def BQ (a0:Int):Option Bool:= AI (τ:=Bool) (fun k1=>
(Dv a0).bind fun v2=> if (v2==0) then if (cond true (a0 != 14) false) then k1 (cond true (a0 != 15) false) else k1 false else k1 false
) fun v3=> some v3
def C5 (a0:List JAC):Option Bool:= AI (τ:=Int) (fun k1=> An (σ:=Int) (fun v2=> k1 v2
) (fun next3 (x4:JAC) i5 v2=> AI (τ:=Unit) (fun k6=> AI (τ:=Bool) (fun k7=> if ((x4.ASNs.length:Int)==0) then k7 true else if (decide ((i5:Int) > 0)) then if (cond true (!x4.Set) false) then
(geti a0 (AK ((i5:Int) - 1))).bind fun v8=> k7 (cond false true (cond true (!v8.Set) false)) else k7 false else k7 false
) fun v9=> if v9 then some false else AI (τ:=Unit) (fun k10=> An (σ:=Unit) (fun _=> k10 ()
) (fun next11 (x12:Int) i13 _=> AI (τ:=Bool) (fun k14=> if (decide (x12<1)) then k14 true else if (cond false true (decide (x12 > 4294967295))) then k14 true else if x4.Set then if (cond true (decide ((i13:Int) > 0)) false) then
(geti x4.ASNs (AK ((i13:Int) - 1))).bind fun v15=> k14 (cond false true (cond true (decide (v15 ≥ x12)) false)) else k14 false else k14 false
) fun v16=> if v16 then some false else next11 ()
) x4.ASNs 0 ()
) fun _=> k6 ()
) fun _=> next3 (AK (v2 + (x4.ASNs.length:Int)))
) a0 0 0
) fun v17=> some (decide (v17<=64))
def Dw (a0:Addr):Option Bool:= AI (τ:=Bool) (fun k1=> if a0.V6 then k1 true else if ((a0.Hi.toNat:Int)==0) then k1 (cond false true (cond true (decide ((a0.Lo.toNat:Int)<4294967296)) false)) else k1 false
) fun v2=> some v2
def EG (a0:JAA):Option Bool:= AI (τ:=Bool) (fun k1=> if (decide (a0.A ≥ 0)) then if (cond true (decide (a0.A<=65535)) false) then if (cond true (decide (a0.B ≥ 0)) false) then k1 (cond true (decide (a0.B<=65535)) false) else k1 false else k1 false else k1 false
) fun v2=> some v2
def EM (a0:JAA) (a1:JAA):Option Bool:= AI (τ:=Bool) (fun k1=> if (decide (a0.A<a1.A)) then k1 true else if (a0.A==a1.A) then k1 (cond false true (cond true (decide (a0.B<a1.B)) false)) else k1 false
) fun v2=> some v2
def Du (a0:List JAA):Option Bool:= AI (τ:=Unit) (fun k1=> An (σ:=Unit) (fun _=> k1 ()
) (fun next2 (x3:JAA) i4 _=> AI (τ:=Bool) (fun k5=>
(EG x3).bind fun v6=> if (!v6) then k5 true else if (decide ((i4:Int) > 0)) then
(geti a0 (AK ((i4:Int) - 1))).bind fun v7=>
(EM v7 x3).bind fun v8=> k5 (cond false true (cond true (!v8) false)) else k5 false
) fun v9=> if v9 then some false else next2 ()
) a0 0 ()
) fun _=> some (decide ((a0.length:Int)<=64))
def By (a0:JAE):Option Bool:= AI (τ:=Bool) (fun k1=> if (decide (a0.A ≥ 0)) then if (cond true (decide (a0.A<=4294967295)) false) then if (cond true (decide (a0.B ≥ 0)) false) then if (cond true (decide (a0.B<=4294967295)) false) then if (cond true (decide (a0.C ≥ 0)) false) then k1 (cond true (decide (a0.C<=4294967295)) false) else k1 false else k1 false else k1 false else k1 false else k1 false
) fun v2=> some v2
def Bm (a0:JAE) (a1:JAE):Option Bool:= AI (τ:=Bool) (fun k1=> if (decide (a0.A<a1.A)) then k1 true else if (a0.A==a1.A) then if (decide (a0.B<a1.B)) then k1 true else if (a0.B==a1.B) then k1 (cond false true (cond true (cond false true (cond true (decide (a0.C<a1.C)) false)) false)) else k1 false else k1 false
) fun v2=> some v2
def BY (a0:List JAE):Option Bool:= AI (τ:=Unit) (fun k1=> An (σ:=Unit) (fun _=> k1 ()
) (fun next2 (x3:JAE) i4 _=> AI (τ:=Bool) (fun k5=>
(By x3).bind fun v6=> if (!v6) then k5 true else if (decide ((i4:Int) > 0)) then
(geti a0 (AK ((i4:Int) - 1))).bind fun v7=>
(Bm v7 x3).bind fun v8=> k5 (cond false true (cond true (!v8) false)) else k5 false
) fun v9=> if v9 then some false else next2 ()
) a0 0 ()
) fun _=> some (decide ((a0.length:Int)<=64))
def FU (a0:JAF):Option Bool:= AI (τ:=Unit) (fun k1=> An (σ:=Unit) (fun _=> k1 ()
) (fun next2 (x3:JAB) i4 _=> AI (τ:=Bool) (fun k5=> if (decide (x3.Type_<1)) then k5 true else if (cond false true (decide (x3.Type_ > 255))) then k5 true else
(BQ x3.Type_).bind fun v6=> if (cond false true (!v6)) then k5 true else if (cond false true (x3.Flags != 224)) then k5 true else if (cond false true (decide ((x3.Data.length:Int) > 255))) then k5 true else if (decide ((i4:Int) > 0)) then
(geti a0.Other (AK ((i4:Int) - 1))).bind fun v7=> k5 (cond false true (cond true (decide (v7.Type_ ≥ x3.Type_)) false)) else k5 false
) fun v8=> if v8 then some false else next2 ()
) a0.Other 0 ()
) fun _=> AI (τ:=Bool) (fun k9=> if (decide (a0.Origin ≥ (-1))) then if (cond true (decide (a0.Origin<=2)) false) then
(C5 a0.Path).bind fun v10=> if (cond true v10 false) then
(Dw a0.Next).bind fun v11=> if (cond true v11 false) then if (cond true (decide (a0.MED ≥ (-1))) false) then if (cond true (decide (a0.MED<=4294967295)) false) then if (cond true (decide (a0.Pref ≥ (-1))) false) then if (cond true (decide (a0.Pref<=4294967295)) false) then if (a0.OTC==(-1)) then
(Du a0.Communities).bind fun v12=> if (cond true v12 false) then
(BY a0.JAE).bind fun v13=> if (cond true v13 false) then k9 (cond true (decide ((a0.Other.length:Int)<=8)) false) else k9 false else k9 false else if (decide (a0.OTC ≥ 1)) then if (cond true (cond false true (cond true (decide (a0.OTC<=4294967295)) false)) false) then
(Du a0.Communities).bind fun v14=> if (cond true v14 false) then
(BY a0.JAE).bind fun v15=> if (cond true v15 false) then k9 (cond true (decide ((a0.Other.length:Int)<=8)) false) else k9 false else k9 false else k9 false else k9 false else k9 false else k9 false else k9 false else k9 false else k9 false else k9 false else k9 false else k9 false
) fun v16=> some v16
def CG (a0:Addr):Option (List UInt8):=
(Dw a0).bind fun v1=> if (!v1) then some [] else AI (τ:=Int) (fun k2=> if a0.V6 then k2 16 else k2 4
) fun v3=> AI (τ:=(List UInt8)) (fun k4=> Av (σ:=Int×(List UInt8)) (fun next5 (v6,v7)=> if (decide (v6 ≥ 0)) then AI (τ:=UInt64) (fun k8=> if (decide (v6 ≥ 8)) then k8 a0.Hi else k8 a0.Lo
) fun v9=>
(apnd (α:=UInt8) 1 v7 ([(Dh ((Az (Int.fdiv (v9.toNat:Int) (2 ^ (min (Int.toNat ((Az (8 * ((Az (Int.tmod v6 8)).toNat:Int))).toNat:Int)) 64)))).toNat:Int))]:List UInt8)).bind fun v10=> next5 ((AK (v6 - 1)),v10) else k4 v7
) fuel ((AK (v3 - 1)),[])
) fun v11=> some v11
def CX (a0:Int) (a1:Int):Option (List UInt8):= AI (τ:=(List UInt8)) (fun k1=> Av (σ:=Int×(List UInt8)) (fun next2 (v3,v4)=> if (decide (v3 ≥ 0)) then
(apnd (α:=UInt8) 1 v4 ([(Dh (Int.fdiv a0 (2 ^ (min (Int.toNat ((Az (8 * ((Az v3).toNat:Int))).toNat:Int)) 64))))]:List UInt8)).bind fun v5=> next2 ((AK (v3 - 1)),v5) else k1 v4
) fuel ((AK (a1 - 1)),[])
) fun v6=> some v6
def GW (a0:JAF):Option ((List JAB)×Int):=
(FU a0).bind fun v1=> if (!v1) then some ([],1) else AI (τ:=(List (Int×(List UInt8)))) (fun k2=> if (decide (a0.Origin ≥ 0)) then k2 (F3 [] 1 ([(Dh a0.Origin)]:List UInt8)) else k2 []
) fun v3=> AI (τ:=Bool) (fun k4=> if (decide (a0.Origin ≥ 0)) then k4 true else k4 (cond false true (decide ((a0.Path.length:Int) > 0)))
) fun v5=> AI (τ:=(List (Int×(List UInt8)))) (fun k6=> if v5 then AI (τ:=(List UInt8)) (fun k7=> An (σ:=(List UInt8)) (fun v8=> k7 v8
) (fun next9 (x10:JAC) i11 v8=> AI (τ:=(List UInt8)) (fun k12=> AI (τ:=UInt8) (fun k13=> if x10.Set then k13 (1:UInt8) else k13 (2:UInt8)
) fun v14=>
(apnd (α:=UInt8) 1 v8 ([v14,(Dh (x10.ASNs.length:Int))]:List UInt8)).bind fun v15=> AI (τ:=(List UInt8)) (fun k16=> An (σ:=(List UInt8)) (fun v17=> k16 v17
) (fun next18 (x19:Int) i20 v17=>
(CX x19 4).bind fun v21=>
(apnd (α:=UInt8) 1 v17 v21).bind fun v22=> next18 v22
) x10.ASNs 0 v15
) fun v23=> k12 v23
) fun v24=> next9 v24
) a0.Path 0 ([]:List UInt8)
) fun v25=> k6 (F3 v3 2 v25) else k6 v3
) fun v26=> AI (τ:=Bool) (fun k27=> if (!(Addr.eqd a0.Next (⟨false,(0:UInt64),(0:UInt64)⟩:Addr))) then k27 (cond true (!a0.Next.V6) false) else k27 false
) fun v28=> AI (τ:=(List (Int×(List UInt8)))) (fun k29=> if v28 then
(CG a0.Next).bind fun v30=> k29 (F3 v26 3 v30) else k29 v26
) fun v31=> AI (τ:=(List (Int×(List UInt8)))) (fun k32=> if (decide (a0.MED ≥ 0)) then
(CX a0.MED 4).bind fun v33=> k32 (F3 v31 4 v33) else k32 v31
) fun v34=> AI (τ:=(List (Int×(List UInt8)))) (fun k35=> if (decide (a0.Pref ≥ 0)) then
(CX a0.Pref 4).bind fun v36=> k35 (F3 v34 5 v36) else k35 v34
) fun v37=> AI (τ:=(List (Int×(List UInt8)))×(List UInt8)) (fun k38=>
(chk ((Df v37 8).isNone=true)).bind fun _=> An (σ:=(List (Int×(List UInt8)))×(List UInt8)) (fun (v39,v40)=> k38 (v39,v40)
) (fun next41 (x42:JAA) i43 (v39,v40)=>
(CX x42.A 2).bind fun v44=>
(apnd (α:=UInt8) 1 v40 v44).bind fun v45=>
(CX x42.B 2).bind fun v46=>
(apnd (α:=UInt8) 1 v45 v46).bind fun v47=> next41 ((F3 v39 8 v47),v47)
) a0.Communities 0 (v37,[])
) fun (v48,v49)=> AI (τ:=(List (Int×(List UInt8)))×(List UInt8)) (fun k50=>
(chk ((Df v48 32).isNone=true)).bind fun _=> An (σ:=(List (Int×(List UInt8)))×(List UInt8)) (fun (v51,v52)=> k50 (v51,v52)
) (fun next53 (x54:JAE) i55 (v51,v52)=>
(CX x54.A 4).bind fun v56=>
(apnd (α:=UInt8) 1 v52 v56).bind fun v57=>
(CX x54.B 4).bind fun v58=>
(apnd (α:=UInt8) 1 v57 v58).bind fun v59=>
(CX x54.C 4).bind fun v60=>
(apnd (α:=UInt8) 1 v59 v60).bind fun v61=> next53 ((F3 v51 32 v61),v61)
) a0.JAE 0 (v48,[])
) fun (v62,v63)=> AI (τ:=(List (Int×(List UInt8)))) (fun k64=> if (decide (a0.OTC ≥ 0)) then
(CX a0.OTC 4).bind fun v65=> k64 (F3 v62 35 v65) else k64 v62
) fun v66=> AI (τ:=(List JAB)) (fun k67=> Av (σ:=Int×(List JAB)) (fun next68 (v69,v70)=> if (decide (v69<256)) then AI (τ:=(List JAB)) (fun k71=>
(some (Option.getD (Df v66 v69) [])).bind fun v72=>
(some (Option.isSome (Df v66 v69))).bind fun v73=> AI (τ:=(List JAB)) (fun k74=> if v73 then
(Dv v69).bind fun v75=>
(apnd (α:=UInt8) 1 [] v72).bind fun _=>
(apnd (α:=JAB) 40 v70 ([(⟨v75,v69,v72⟩:JAB)]:List JAB)).bind fun v76=> k74 v76 else k74 v70
) fun v77=> AI (τ:=(List JAB)) (fun k78=> An (σ:=(List JAB)) (fun v79=> k78 v79
) (fun next80 (x81:JAB) i82 v79=> AI (τ:=(List JAB)) (fun k83=> if (x81.Type_==v69) then
(apnd (α:=UInt8) 1 [] x81.Data).bind fun _=>
(apnd (α:=JAB) 40 v79 ([{ x81 with Type_:=v69 }]:List JAB)).bind fun v84=> k83 v84 else k83 v79
) fun v85=> next80 v85
) a0.Other 0 v77
) fun v86=> k71 v86
) fun v87=> next68 ((AK (v69 + 1)),v87) else k67 v70
) fuel (0,[])
) fun v88=> some (v88,0)
def EE (a0:List JAD) (a1:Bool):Option (List UInt8):= AI (τ:=(List UInt8)) (fun k1=> An (σ:=(List UInt8)) (fun v2=> k1 v2
) (fun next3 (x4:JAD) i5 v2=> AI (τ:=(List UInt8)) (fun k6=> if (x4.Addr.V6==a1) then
(apnd (α:=UInt8) 1 v2 ([(Dh x4.Len)]:List UInt8)).bind fun v7=>
(CG x4.Addr).bind fun v8=>
(chk (0<=(0:Int)/\(0:Int)<=(AK (Int.tdiv (AK (x4.Len + 7)) 8))/\(AK (Int.tdiv (AK (x4.Len + 7)) 8))<=(v8.length:Int))).bind fun _=>
(apnd (α:=UInt8) 1 v7 (List.take (Int.toNat (AK (Int.tdiv (AK (x4.Len + 7)) 8)) - Int.toNat 0) (List.drop (Int.toNat 0) v8))).bind fun v9=> k6 v9 else k6 v2
) fun v10=> next3 v10
) a0 0 []
) fun v11=> some v11
def G5 (a0:List JAB) (a1:JAB):Option (List JAB):= AI (τ:=Int) (fun k1=> Av (σ:=Int) (fun next2 v3=> AI (τ:=Bool) (fun k4=> if (decide (v3<(a0.length:Int))) then
(geti a0 v3).bind fun v5=> k4 (cond true (decide (v5.Type_<a1.Type_)) false) else k4 false
) fun v6=> if v6 then next2 (AK (v3 + 1)) else k1 v3
) fuel 0
) fun v7=>
(part a0 0 v7).bind fun v8=>
(apnd (α:=JAB) 40 [] v8).bind fun _=>
(apnd (α:=JAB) 40 v8 ([a1]:List JAB)).bind fun v9=>
(part a0 v7 (a0.length:Int)).bind fun v10=>
(apnd (α:=JAB) 40 v9 v10).bind fun v11=> some v11
def HU (a0:List JAB):Option ((List UInt8)×Int):= AI (τ:=Unit) (fun k1=> An (σ:=Unit) (fun _=> k1 ()
) (fun next2 (x3:JAB) i4 _=> AI (τ:=Bool) (fun k5=> if (decide (x3.Flags<0)) then k5 true else if (cond false true (decide (x3.Flags > 255))) then k5 true else if (cond false true (decide (x3.Type_<0))) then k5 true else if (cond false true (decide (x3.Type_ > 255))) then k5 true else k5 (cond false true (decide ((x3.Data.length:Int) > 65535)))
) fun v6=> if v6 then some ([],1) else next2 ()
) a0 0 ()
) fun _=> AI (τ:=(List UInt8)) (fun k7=> An (σ:=(List UInt8)) (fun v8=> k7 v8
) (fun next9 (x10:JAB) i11 v8=> AI (τ:=(List UInt8)) (fun k12=> if (decide ((x10.Data.length:Int) > 255)) then
(apnd (α:=UInt8) 1 v8 ([(Dh ((BitVec.ofInt 8 ((Dh ((BitVec.ofInt 8 ((Dh x10.Flags).toNat:Int) &&& BitVec.ofInt 8 224).toNat:Int)).toNat:Int) ||| BitVec.ofInt 8 16).toNat:Int)),(Dh x10.Type_),(Dh (Int.fdiv (x10.Data.length:Int) (2 ^ (min (Int.toNat 8) 64)))),(Dh (x10.Data.length:Int))]:List UInt8)).bind fun v13=> k12 v13 else
(apnd (α:=UInt8) 1 v8 ([(Dh ((BitVec.ofInt 8 ((Dh x10.Flags).toNat:Int) &&& BitVec.ofInt 8 224).toNat:Int)),(Dh x10.Type_),(Dh (x10.Data.length:Int))]:List UInt8)).bind fun v14=> k12 v14
) fun v15=>
(apnd (α:=UInt8) 1 v15 x10.Data).bind fun v16=> next9 v16
) a0 0 []
) fun v17=> if (decide ((v17.length:Int) > 2048)) then some ([],3) else some (v17,0)
def Ep (a0:JAH):Option ((List UInt8)×Int):= AI (τ:=(List JAB)) (fun k1=> if (decide ((a0.Announce.length:Int) > 0)) then
(GW a0.JAF).bind fun (v2,v3)=> if (v3 != 0) then some ([],v3) else k1 v2 else k1 []
) fun v4=>
(EE a0.Announce true).bind fun v5=> AI (τ:=(List JAB)) (fun k6=> if (decide ((v5.length:Int) > 0)) then
(CG a0.JAF.Next).bind fun v7=>
(apnd (α:=UInt8) 1 ([(0:UInt8),(2:UInt8),(1:UInt8),(16:UInt8)]:List UInt8) v7).bind fun v8=>
(apnd (α:=UInt8) 1 v8 ([(0:UInt8)]:List UInt8)).bind fun v9=>
(apnd (α:=UInt8) 1 v9 v5).bind fun v10=>
(G5 v4 (⟨128,14,v10⟩:JAB)).bind fun v11=> k6 v11 else k6 v4
) fun v12=>
(EE a0.Withdraw true).bind fun v13=> AI (τ:=(List JAB)) (fun k14=> if (decide ((v13.length:Int) > 0)) then
(apnd (α:=UInt8) 1 ([(0:UInt8),(2:UInt8),(1:UInt8)]:List UInt8) v13).bind fun v15=>
(G5 v12 (⟨128,15,v15⟩:JAB)).bind fun v16=> k14 v16 else k14 v12
) fun v17=>
(HU v17).bind fun (v18,v19)=> if (v19 != 0) then some ([],v19) else
(EE a0.Withdraw false).bind fun v20=>
(apnd (α:=UInt8) 1 ([(Dh (Int.fdiv (v20.length:Int) (2 ^ (min (Int.toNat 8) 64)))),(Dh (v20.length:Int))]:List UInt8) v20).bind fun v21=>
(apnd (α:=UInt8) 1 v21 ([(Dh (Int.fdiv (v18.length:Int) (2 ^ (min (Int.toNat 8) 64)))),(Dh (v18.length:Int))]:List UInt8)).bind fun v22=>
(apnd (α:=UInt8) 1 v22 v18).bind fun v23=>
(EE a0.Announce false).bind fun v24=>
(apnd (α:=UInt8) 1 v23 v24).bind fun v25=> some (v25,0)
def Gf:Option JAF:= some (⟨(-1),[],(⟨false,(0:UInt64),(0:UInt64)⟩:Addr),(-1),(-1),(-1),[],[],[]⟩:JAF)
def Au (a0:List UInt8):Option (Addr×Int):= AI (τ:=Bool) (fun k1=> if ((a0.length:Int) != 4) then k1 (cond true ((a0.length:Int) != 16) false) else k1 false
) fun v2=> if v2 then some ((⟨false,(0:UInt64),(0:UInt64)⟩:Addr),1) else AI (τ:=Addr) (fun k3=> An (σ:=Addr) (fun v4=> k3 v4
) (fun next5 (x6:UInt8) i7 v4=> next5 (⟨v4.V6,(Az ((BitVec.ofInt 64 ((Az ((v4.Hi.toNat:Int) * (2 ^ (min (Int.toNat 8) 64)))).toNat:Int) ||| BitVec.ofInt 64 ((Az (Int.fdiv (v4.Lo.toNat:Int) (2 ^ (min (Int.toNat 56) 64)))).toNat:Int)).toNat:Int)),(Az ((BitVec.ofInt 64 ((Az ((v4.Lo.toNat:Int) * (2 ^ (min (Int.toNat 8) 64)))).toNat:Int) ||| BitVec.ofInt 64 ((Az (x6.toNat:Int)).toNat:Int)).toNat:Int))⟩:Addr)
) a0 0 (⟨((a0.length:Int)==16),(0:UInt64),(0:UInt64)⟩:Addr)
) fun v8=> some (v8,0)
def Dq (a0:Addr):Option Int:= if a0.V6 then some 128 else some 32
def Br (a0:Addr) (a1:Int):Option (JAD×Int):=
(Dw a0).bind fun v1=> if (!v1) then some ((⟨(⟨false,(0:UInt64),(0:UInt64)⟩:Addr),0⟩:JAD),1) else AI (τ:=Bool) (fun k2=> if (decide (a1<0)) then k2 true else
(Dq a0).bind fun v3=> k2 (cond false true (decide (a1 > v3)))
) fun v4=> if v4 then some ((⟨(⟨false,(0:UInt64),(0:UInt64)⟩:Addr),0⟩:JAD),9) else
(CG a0).bind fun v5=> AI (τ:=(List UInt8)) (fun k6=> Av (σ:=Int×(List UInt8)) (fun next7 (v8,v9)=> if (decide (v8<(AK (8 * (v9.length:Int))))) then
(geti v9 (AK (Int.tdiv v8 8))).bind fun v10=>
(geti v9 (AK (Int.tdiv v8 8))).bind fun v11=>
(seti v9 (AK (Int.tdiv v8 8)) (Dh ((BitVec.ofInt 8 (v10.toNat:Int) &&& ~~~BitVec.ofInt 8 ((Dh (Int.fdiv 128 (2 ^ (min (Int.toNat ((Az (Int.tmod v8 8)).toNat:Int)) 8)))).toNat:Int)).toNat:Int))).bind fun v12=> next7 ((AK (v8 + 1)),v12) else k6 v9
) fuel (a1,v5)
) fun v13=>
(Au v13).bind fun (v14,v15)=> some ((⟨v14,a1⟩:JAD),0)
def EF (a0:JAD):Option Bool:=
(Br a0.Addr a0.Len).bind fun (v1,v2)=> AI (τ:=Bool) (fun k3=> if (v2==0) then k3 (cond true (JAD.eqd a0 v1) false) else k3 false
) fun v4=> some v4
def HK (a0:List JAC) (a1:List JAC):Option Bool:= if ((a0.length:Int) != (a1.length:Int)) then some false else AI (τ:=Unit) (fun k1=> An (σ:=Unit) (fun _=> k1 ()
) (fun next2 (x3:JAC) i4 _=> AI (τ:=Unit) (fun k5=> AI (τ:=Bool) (fun k6=>
(geti a1 (i4:Int)).bind fun v7=> if (!(x3.Set==v7.Set)) then k6 true else
(geti a1 (i4:Int)).bind fun v8=> k6 (cond false true ((x3.ASNs.length:Int) != (v8.ASNs.length:Int)))
) fun v9=> if v9 then some false else AI (τ:=Unit) (fun k10=> An (σ:=Unit) (fun _=> k10 ()
) (fun next11 (x12:Int) i13 _=>
(geti a1 (i4:Int)).bind fun v14=>
(geti v14.ASNs (i13:Int)).bind fun v15=> if (v15 != x12) then some false else next11 ()
) x3.ASNs 0 ()
) fun _=> k5 ()
) fun _=> next2 ()
) a0 0 ()
) fun _=> some true
def HM (a0:List JAA) (a1:List JAA):Option Bool:= if ((a0.length:Int) != (a1.length:Int)) then some false else AI (τ:=Unit) (fun k1=> An (σ:=Unit) (fun _=> k1 ()
) (fun next2 (x3:JAA) i4 _=>
(geti a1 (i4:Int)).bind fun v5=> if (!(JAA.eqd v5 x3)) then some false else next2 ()
) a0 0 ()
) fun _=> some true
def EQ (a0:List JAE) (a1:List JAE):Option Bool:= if ((a0.length:Int) != (a1.length:Int)) then some false else AI (τ:=Unit) (fun k1=> An (σ:=Unit) (fun _=> k1 ()
) (fun next2 (x3:JAE) i4 _=>
(geti a1 (i4:Int)).bind fun v5=> if (!(JAE.eqd v5 x3)) then some false else next2 ()
) a0 0 ()
) fun _=> some true
def Em (a0:List JAB) (a1:List JAB):Option Bool:= if ((a0.length:Int) != (a1.length:Int)) then some false else AI (τ:=Unit) (fun k1=> An (σ:=Unit) (fun _=> k1 ()
) (fun next2 (x3:JAB) i4 _=> AI (τ:=Bool) (fun k5=>
(geti a1 (i4:Int)).bind fun v6=> if (x3.Flags != v6.Flags) then k5 true else
(geti a1 (i4:Int)).bind fun v7=> if (cond false true (x3.Type_ != v7.Type_)) then k5 true else
(geti a1 (i4:Int)).bind fun v8=> k5 (cond false true (!((bs x3.Data).toList==(bs v8.Data).toList)))
) fun v9=> if v9 then some false else next2 ()
) a0 0 ()
) fun _=> some true
def HD (a0:JAF) (a1:JAF):Option Bool:= AI (τ:=Bool) (fun k1=> if (a0.Origin==a1.Origin) then
(HK a0.Path a1.Path).bind fun v2=> if (cond true v2 false) then if (cond true (Addr.eqd a0.Next a1.Next) false) then if (cond true (a0.MED==a1.MED) false) then if (cond true (a0.Pref==a1.Pref) false) then if (cond true (a0.OTC==a1.OTC) false) then
(HM a0.Communities a1.Communities).bind fun v3=> if (cond true v3 false) then
(EQ a0.JAE a1.JAE).bind fun v4=> if (cond true v4 false) then
(Em a0.Other a1.Other).bind fun v5=> k1 (cond true v5 false) else k1 false else k1 false else k1 false else k1 false else k1 false else k1 false else k1 false else k1 false
) fun v6=> some v6
def Eo (a0:JAH):Option Bool:= AI (τ:=Bool) (fun k1=> if (decide ((a0.Withdraw.length:Int) > 256)) then k1 true else k1 (cond false true (decide ((a0.Announce.length:Int) > 256)))
) fun v2=> if v2 then some false else
(apnd (α:=JAD) 32 [] a0.Withdraw).bind fun _=>
(apnd (α:=JAD) 32 a0.Withdraw a0.Announce).bind fun v3=> AI (τ:=Unit) (fun k4=> An (σ:=Unit) (fun _=> k4 ()
) (fun next5 (x6:JAD) i7 _=>
(EF x6).bind fun v8=> if (!v8) then some false else next5 ()
) v3 0 ()
) fun _=> AI (τ:=Bool) (fun k9=> if ((a0.Announce.length:Int)==0) then
(Gf).bind fun v10=>
(HD a0.JAF v10).bind fun v11=> k9 (cond true (!v11) false) else k9 false
) fun v12=> if v12 then some false else AI (τ:=Unit) (fun k13=> An (σ:=Unit) (fun _=> k13 ()
) (fun next14 (x15:JAD) i16 _=> AI (τ:=Bool) (fun k17=> if (!(x15.Addr.V6==a0.JAF.Next.V6)) then k17 true else if (cond false true (a0.JAF.Origin==(-1))) then k17 true else if (cond false true (Addr.eqd a0.JAF.Next (⟨false,(0:UInt64),(0:UInt64)⟩:Addr))) then k17 true else
(FU a0.JAF).bind fun v18=> k17 (cond false true (!v18))
) fun v19=> if v19 then some false else next14 ()
) a0.Announce 0 ()
) fun _=>
(Ep a0).bind fun (v20,v21)=> AI (τ:=Bool) (fun k22=> if (v21==0) then k22 (cond true (decide ((v20.length:Int)<=4077)) false) else k22 false
) fun v23=> some v23
def Fa (a0:JAH):Option ((List UInt8)×Int):=
(Eo a0).bind fun v1=> if (!v1) then some ([],1) else
(Ep a0).bind fun (v2,v3)=> some (v2,v3)
def GI (a0:Int):Option JAD:= if (decide (a0 ≥ 6)) then some (⟨(⟨true,(Az ((BitVec.ofInt 64 2306139568115548160 ||| BitVec.ofInt 64 ((Az (((Az a0).toNat:Int) * (2 ^ (min (Int.toNat 16) 64)))).toNat:Int)).toNat:Int)),(0:UInt64)⟩:Addr),48⟩:JAD) else some (⟨(⟨false,(0:UInt64),(Az ((BitVec.ofInt 64 167772160 ||| BitVec.ofInt 64 ((Az (((Az a0).toNat:Int) * (2 ^ (min (Int.toNat 16) 64)))).toNat:Int)).toNat:Int))⟩:Addr),16⟩:JAD)
def CQ (a0:JAI):Option (JAD×JAI):=
(AO a0 8).bind fun (v1,v2)=>
(GI v1).bind fun v3=>
(AO v2 8).bind fun (v4,v5)=> AI (τ:=JAI×JAD) (fun k6=> if (v4==6) then AI (τ:=Int) (fun k7=> if v3.Addr.V6 then k7 64 else k7 24
) fun v8=> k6 (v5,(⟨v3.Addr,v8⟩:JAD)) else AI (τ:=JAI×JAD) (fun k9=> if (v4==7) then AI (τ:=Int) (fun k10=> if v3.Addr.V6 then k10 128 else k10 32
) fun v11=>
(AO v5 3).bind fun (v12,v13)=> k9 (v13,(⟨{ v3.Addr with Lo:=(Az ((v3.Addr.Lo.toNat:Int) + ((Az v12).toNat:Int))) },v11⟩:JAD)) else k9 (v5,v3)
) fun (v14,v15)=> k6 (v14,v15)
) fun (v16,v17)=> some (v17,v16)
def G3 (a0:Int) (a1:Bool):Option Addr:= if a1 then some (⟨true,(2306139568115613695:UInt64),(Az a0)⟩:Addr) else some (⟨false,(0:UInt64),(Az ((BitVec.ofInt 64 3221225984 ||| BitVec.ofInt 64 ((Az (AK ((Int.tmod a0 250) + 1))).toNat:Int)).toNat:Int))⟩:Addr)
def CM (a0:JAI):Option ((List JAA)×JAI):=
(AO a0 65536).bind fun (v1,v2)=> AI (τ:=JAI×(List JAA)) (fun k3=> An (σ:=JAI×(List JAA)) (fun (v4,v5)=> k3 (v4,v5)
) (fun next6 (x7:JAA) i8 (v4,v5)=> AI (τ:=Bool×JAI) (fun k9=> if ((AK ((BitVec.ofInt 64 (Int.fdiv v1 (2 ^ (min (Int.toNat ((Az (AK (2 * (i8:Int)))).toNat:Int)) 64))) &&& BitVec.ofInt 64 3).toNat:Int))==3) then if (decide ((i8:Int)<6)) then k9 (true,v4) else
(AO v4 2).bind fun (v10,v11)=> k9 ((cond true (cond false true (v10==0)) false),v11) else k9 (false,v4)
) fun (v12,v13)=> AI (τ:=(List JAA)) (fun k14=> if v12 then
(apnd (α:=JAA) 16 v5 ([x7]:List JAA)).bind fun v15=> k14 v15 else k14 v5
) fun v16=> next6 (v13,v16)
) ([(⟨0,99⟩:JAA),(⟨0,101⟩:JAA),(⟨0,102⟩:JAA),(⟨99,101⟩:JAA),(⟨99,103⟩:JAA),(⟨500,1⟩:JAA),(⟨65535,666⟩:JAA),(⟨65535,65282⟩:JAA)]:List JAA) 0 (v2,[])
) fun (v17,v18)=> some (v18,v17)
def EU (a0:JAI):Option ((List JAE)×JAI):=
(AO a0 16384).bind fun (v1,v2)=> AI (τ:=(List JAE)) (fun k3=> An (σ:=(List JAE)) (fun v4=> k3 v4
) (fun next5 (x6:JAE) i7 v4=> AI (τ:=(List JAE)) (fun k8=> if ((AK ((BitVec.ofInt 64 (Int.fdiv v1 (2 ^ (min (Int.toNat ((Az (AK (2 * (i7:Int)))).toNat:Int)) 64))) &&& BitVec.ofInt 64 3).toNat:Int))==3) then
(apnd (α:=JAE) 24 v4 ([x6]:List JAE)).bind fun v9=> k8 v9 else k8 v4
) fun v10=> next5 v10
) ([(⟨5,5,5⟩:JAE),(⟨99,0,0⟩:JAE),(⟨99,0,103⟩:JAE),(⟨99,1,102⟩:JAE),(⟨99,101,0⟩:JAE),(⟨99,102,104⟩:JAE),(⟨99,103,101⟩:JAE)]:List JAE) 0 []
) fun v11=> some (v11,v2)
def ET (a0:JAI) (a1:Int) (a2:Bool):Option (JAF×JAI):= AI (τ:=Unit) (fun k1=> k1 ()
) fun _=>
(AO a0 3).bind fun (v2,v3)=>
(AO v3 4).bind fun (v4,v5)=> AI (τ:=JAI×(List Int)) (fun k6=> Av (σ:=Int×JAI×(List Int)) (fun next7 (v8,v9,v10)=> if (decide (v8 > 0)) then
(AO v9 7).bind fun (v11,v12)=>
(geti ([a1,101,102,201,202,203,301]:List Int) v11).bind fun v13=>
(apnd (α:=Int) 8 v10 ([v13]:List Int)).bind fun v14=> next7 ((AK (v8 - 1)),v12,v14) else k6 (v9,v10)
) fuel (v4,v5,([a1]:List Int))
) fun (v15,v16)=>
(G3 a1 a2).bind fun v17=>
(AO v15 3).bind fun (v18,v19)=> AI (τ:=JAI×Int) (fun k20=> if (v18==0) then
(AO v19 3).bind fun (v21,v22)=> k20 (v22,v21) else k20 (v19,(-1))
) fun (v23,v24)=>
(AO v23 6).bind fun (v25,v26)=> AI (τ:=JAI×Int) (fun k27=> if (v25==0) then
(AO v26 300).bind fun (v28,v29)=> k27 (v29,v28) else k27 (v26,(-1))
) fun (v30,v31)=>
(CM v30).bind fun (v32,v33)=>
(EU v33).bind fun (v34,v35)=>
(AO v35 24).bind fun (v36,v37)=> AI (τ:=JAI×(List JAC)×Bool×UInt64×UInt64×Int×(List JAB)) (fun k38=> if (v36==0) then
(AO v37 300).bind fun (v39,v40)=> k38 (v40,[(⟨false,v16⟩:JAC)],v17.V6,v17.Hi,v17.Lo,(AK (1 + v39)),[]) else AI (τ:=JAI×(List JAC)×Bool×UInt64×UInt64×(List JAB)) (fun k41=> if (v36==1) then
(geti v16 0).bind fun v42=>
(seti v16 0 103).bind fun v43=> k41 (v37,[(⟨false,v43⟩:JAC)],v17.V6,v17.Hi,v17.Lo,[]) else AI (τ:=JAI×(List JAC)×Bool×UInt64×UInt64×(List JAB)) (fun k44=> if (v36==2) then k44 (v37,((⟨false,v16⟩:JAC)::([(⟨true,([7,9]:List Int)⟩:JAC)]:List JAC)),v17.V6,v17.Hi,v17.Lo,[]) else AI (τ:=JAI×(List JAC)×Bool×UInt64×UInt64×(List JAB)) (fun k45=> if (v36==3) then
(apnd (α:=Int) 8 v16 ([99]:List Int)).bind fun v46=> k45 (v37,[(⟨false,v46⟩:JAC)],v17.V6,v17.Hi,v17.Lo,[]) else AI (τ:=JAI×(List JAC)×Bool×UInt64×UInt64×(List JAB)) (fun k47=> if (v36==4) then
(G3 104 a2).bind fun v48=> k47 (v37,[(⟨false,v16⟩:JAC)],v48.V6,v48.Hi,v48.Lo,[]) else AI (τ:=JAI×(List JAC)×(List JAB)) (fun k49=> if (v36==5) then
(apnd (α:=Int) 8 v16 ([64512,701]:List Int)).bind fun v50=> k49 (v37,[(⟨false,v50⟩:JAC)],[]) else AI (τ:=JAI×(List JAC)×(List JAB)) (fun k51=> if (v36==6) then k51 (v37,[],[]) else AI (τ:=JAI×(List JAB)) (fun k52=> if (v36==7) then
(AO v37 256).bind fun (v53,v54)=> k52 (v54,[(⟨224,99,([(1:UInt8),(Dh v53)]:List UInt8)⟩:JAB)]) else k52 (v37,[])
) fun (v55,v56)=> k51 (v55,[(⟨false,v16⟩:JAC)],v56)
) fun (v57,v58,v59)=> k49 (v57,v58,v59)
) fun (v60,v61,v62)=> k47 (v60,v61,v17.V6,v17.Hi,v17.Lo,v62)
) fun (v63,v64,v65,v66,v67,v68)=> k45 (v63,v64,v65,v66,v67,v68)
) fun (v69,v70,v71,v72,v73,v74)=> k44 (v69,v70,v71,v72,v73,v74)
) fun (v75,v76,v77,v78,v79,v80)=> k41 (v75,v76,v77,v78,v79,v80)
) fun (v81,v82,v83,v84,v85,v86)=> k38 (v81,v82,v83,v84,v85,(-1),v86)
) fun (v87,v88,v89,v90,v91,v92,v93)=> some ((⟨v2,v88,(⟨v89,v90,v91⟩:Addr),v24,v31,v92,v32,v34,v93⟩:JAF),v87)
def EP (a0:JAI) (a1:Int):Option (JAP×JAI):=
(CQ a0).bind fun (v1,v2)=>
(ET v2 a1 v1.Addr.V6).bind fun (v3,v4)=> some ((⟨v1,a1,v3⟩:JAP),v4)
def D8 (a0:JAI) (a1:Int):Option (JAH×JAI):= AI (τ:=Unit) (fun k1=> k1 ()
) fun _=>
(AO a0 3).bind fun (v2,v3)=> AI (τ:=JAI×(List JAD)) (fun k4=> Av (σ:=Int×JAI×(List JAD)) (fun next5 (v6,v7,v8)=> AI (τ:=Bool×JAI) (fun k9=> if (decide (v6 > 0)) then
(AO v7 2).bind fun (v10,v11)=> k9 ((cond true (v10==0) false),v11) else k9 (false,v7)
) fun (v12,v13)=> if v12 then
(CQ v13).bind fun (v14,v15)=>
(apnd (α:=JAD) 32 v8 ([v14]:List JAD)).bind fun v16=> next5 ((AK (v6 - 1)),v15,v16) else k4 (v13,v8)
) fuel (v2,v3,[])
) fun (v17,v18)=>
(AO v17 5).bind fun (v19,v20)=> AI (τ:=JAI×Int×(List JAC)×Bool×UInt64×UInt64×Int×Int×Int×(List JAA)×(List JAE)×(List JAB)×(List JAD)) (fun k21=> if (decide (v19 > 0)) then
(EP v20 a1).bind fun (v22,v23)=>
(AO v23 3).bind fun (v24,v25)=> AI (τ:=JAI×(List JAD)) (fun k26=> Av (σ:=Int×JAI×(List JAD)) (fun next27 (v28,v29,v30)=> if (decide (v28 > 0)) then
(CQ v29).bind fun (v31,v32)=> AI (τ:=(List JAD)) (fun k33=> if (v31.Addr.V6==v22.JAD.Addr.V6) then
(apnd (α:=JAD) 32 v30 ([v31]:List JAD)).bind fun v34=> k33 v34 else k33 v30
) fun v35=> next27 ((AK (v28 - 1)),v32,v35) else k26 (v29,v30)
) fuel (v24,v25,([v22.JAD]:List JAD))
) fun (v36,v37)=> k21 (v36,v22.JAF.Origin,v22.JAF.Path,v22.JAF.Next.V6,v22.JAF.Next.Hi,v22.JAF.Next.Lo,v22.JAF.MED,v22.JAF.Pref,v22.JAF.OTC,v22.JAF.Communities,v22.JAF.JAE,v22.JAF.Other,v37) else k21 (v20,(-1),[],false,(0:UInt64),(0:UInt64),(-1),(-1),(-1),[],[],[],[])
) fun (v38,v39,v40,v41,v42,v43,v44,v45,v46,v47,v48,v49,v50)=> some ((⟨v18,(⟨v39,v40,(⟨v41,v42,v43⟩:Addr),v44,v45,v46,v47,v48,v49⟩:JAF),v50⟩:JAH),v38)
def E8 (a0:JAI):Option (JAK×JAI):=
(AO a0 7).bind fun (v1,v2)=> if (v1==0) then some ((⟨0,[]⟩:JAK),v2) else if (v1==1) then some ((⟨3,([(6:UInt8),(0:UInt8)]:List UInt8)⟩:JAK),v2) else if (v1==2) then
(chk (0<=(4:Int)/\(4:Int)<=4/\(4:Int)<=1048576)).bind fun _=> some ((⟨2,(List.replicate (Int.toNat 4) (0:UInt8))⟩:JAK),v2) else if (v1==3) then some ((⟨2,([(0:UInt8),(0:UInt8),(0:UInt8),(6:UInt8),(128:UInt8),(15:UInt8),(3:UInt8),(0:UInt8),(2:UInt8),(1:UInt8)]:List UInt8)⟩:JAK),v2) else
(D8 v2 102).bind fun (v3,v4)=>
(Fa v3).bind fun (v5,v6)=> AI (τ:=Bool×JAI) (fun k7=>
(AO v4 4).bind fun (v8,v9)=> if (v8==0) then k7 ((cond true (decide ((v5.length:Int) > 0)) false),v9) else k7 (false,v9)
) fun (v10,v11)=> AI (τ:=(List UInt8)×JAI) (fun k12=> if v10 then
(apnd (α:=UInt8) 1 [] v5).bind fun _=>
(AO v11 (v5.length:Int)).bind fun (v13,v14)=>
(AO v14 256).bind fun (v15,v16)=>
(geti v5 v13).bind fun v17=>
(seti v5 v13 (Dh v15)).bind fun v18=> k12 (v18,v16) else k12 (v5,v11)
) fun (v19,v20)=> some ((⟨2,v19⟩:JAK),v20)
def FX (a0:JAL):Option Int:= some (if a0.Theirs.Grace<a0.Mine.Grace then a0.Theirs.Grace else a0.Mine.Grace)
def C0 (a0:List Int) (a1:List Int):Option Bool:= if ((a0.length:Int) != (a1.length:Int)) then some false else AI (τ:=Unit) (fun k1=> An (σ:=Unit) (fun _=> k1 ()
) (fun next2 (x3:Int) i4 _=>
(geti a1 (i4:Int)).bind fun v5=> if (x3 != v5) then some false else next2 ()
) a0 0 ()
) fun _=> some true
def HL (a0:JAM) (a1:JAM):Option Bool:= AI (τ:=Bool) (fun k1=> if (a0.ASN != a1.ASN) then k1 true else if (cond false true (!(a0.No4==a1.No4))) then k1 true else if (cond false true (!(a0.No6==a1.No6))) then k1 true else if (cond false true (!(a0.Holes==a1.Holes))) then k1 true else if (cond false true (a0.Hops != a1.Hops)) then k1 true else
(C0 a0.Deny a1.Deny).bind fun v2=> if (cond false true (!v2)) then k1 true else k1 (cond false true ((a0.JAO.length:Int) != (a1.JAO.length:Int)))
) fun v3=> if v3 then some false else AI (τ:=Unit) (fun k4=> An (σ:=Unit) (fun _=> k4 ()
) (fun next5 (x6:JAO) i7 _=>
(geti a1.JAO (i7:Int)).bind fun v8=> if (!(JAO.eqd x6 v8)) then some false else next5 ()
) a0.JAO 0 ()
) fun _=> some true
def DC (a0:JAF) (a1:JAF):Option Bool:= AI (τ:=Bool) (fun k1=> if (a0.Origin != a1.Origin) then k1 true else if (cond false true (!(Addr.eqd a0.Next a1.Next))) then k1 true else if (cond false true (a0.MED != a1.MED)) then k1 true else if (cond false true (a0.Pref != a1.Pref)) then k1 true else if (cond false true (a0.OTC != a1.OTC)) then k1 true else if (cond false true ((a0.Path.length:Int) != (a1.Path.length:Int))) then k1 true else if (cond false true ((a0.Communities.length:Int) != (a1.Communities.length:Int))) then k1 true else if (cond false true ((a0.JAE.length:Int) != (a1.JAE.length:Int))) then k1 true else k1 (cond false true ((a0.Other.length:Int) != (a1.Other.length:Int)))
) fun v2=> if v2 then some false else AI (τ:=Unit) (fun k3=> An (σ:=Unit) (fun _=> k3 ()
) (fun next4 (x5:JAC) i6 _=> AI (τ:=Bool) (fun k7=>
(geti a1.Path (i6:Int)).bind fun v8=> if (!(x5.Set==v8.Set)) then k7 true else
(geti a1.Path (i6:Int)).bind fun v9=>
(C0 x5.ASNs v9.ASNs).bind fun v10=> k7 (cond false true (!v10))
) fun v11=> if v11 then some false else next4 ()
) a0.Path 0 ()
) fun _=> AI (τ:=Unit) (fun k12=> An (σ:=Unit) (fun _=> k12 ()
) (fun next13 (x14:JAA) i15 _=>
(geti a1.Communities (i15:Int)).bind fun v16=> if (!(JAA.eqd x14 v16)) then some false else next13 ()
) a0.Communities 0 ()
) fun _=> AI (τ:=Unit) (fun k17=> An (σ:=Unit) (fun _=> k17 ()
) (fun next18 (x19:JAE) i20 _=>
(geti a1.JAE (i20:Int)).bind fun v21=> if (!(JAE.eqd x19 v21)) then some false else next18 ()
) a0.JAE 0 ()
) fun _=> AI (τ:=Unit) (fun k22=> An (σ:=Unit) (fun _=> k22 ()
) (fun next23 (x24:JAB) i25 _=> AI (τ:=Bool) (fun k26=>
(geti a1.Other (i25:Int)).bind fun v27=> if (x24.Flags != v27.Flags) then k26 true else
(geti a1.Other (i25:Int)).bind fun v28=> if (cond false true (x24.Type_ != v28.Type_)) then k26 true else
(geti a1.Other (i25:Int)).bind fun v29=> k26 (cond false true (!((bs x24.Data).toList==(bs v29.Data).toList)))
) fun v30=> if v30 then some false else next23 ()
) a0.Other 0 ()
) fun _=> some true
def D3 (a0:JAH) (a1:JAH):Option Bool:= AI (τ:=Bool) (fun k1=> if ((a0.Withdraw.length:Int) != (a1.Withdraw.length:Int)) then k1 true else if (cond false true ((a0.Announce.length:Int) != (a1.Announce.length:Int))) then k1 true else
(DC a0.JAF a1.JAF).bind fun v2=> k1 (cond false true (!v2))
) fun v3=> if v3 then some false else AI (τ:=Unit) (fun k4=> An (σ:=Unit) (fun _=> k4 ()
) (fun next5 (x6:JAD) i7 _=>
(geti a1.Withdraw (i7:Int)).bind fun v8=> if (!(JAD.eqd x6 v8)) then some false else next5 ()
) a0.Withdraw 0 ()
) fun _=> AI (τ:=Unit) (fun k9=> An (σ:=Unit) (fun _=> k9 ()
) (fun next10 (x11:JAD) i12 _=>
(geti a1.Announce (i12:Int)).bind fun v13=> if (!(JAD.eqd x11 v13)) then some false else next10 ()
) a0.Announce 0 ()
) fun _=> some true
def He (a0:List JAJ) (a1:List JAJ):Option Bool:= if ((a0.length:Int) != (a1.length:Int)) then some false else AI (τ:=Unit) (fun k1=> An (σ:=Unit) (fun _=> k1 ()
) (fun next2 (x3:JAJ) i4 _=>
(geti a1 (i4:Int)).bind fun v5=> AI (τ:=Bool) (fun k6=> if (x3.Kind != v5.Kind) then k6 true else if (cond false true (x3.Member != v5.Member)) then k6 true else if (cond false true (x3.Tick != v5.Tick)) then k6 true else if (cond false true (x3.Grace != v5.Grace)) then k6 true else
(HL x3.JAM v5.JAM).bind fun v7=> if (cond false true (!v7)) then k6 true else
(D3 x3.JAH v5.JAH).bind fun v8=> k6 (cond false true (!v8))
) fun v9=> if v9 then some false else next2 ()
) a0 0 ()
) fun _=> some true
def EN (a0:List UInt8):Option ((List UInt8)×(List UInt8)×Bool):= if (decide ((a0.length:Int)<2)) then some ([],[],false) else
(geti a0 0).bind fun v1=>
(geti a0 1).bind fun v2=> if (decide ((AK ((a0.length:Int) - 2))<(AK ((BitVec.ofInt 64 (AK ((v1.toNat:Int) * (2 ^ (min (Int.toNat 8) 64)))) ||| BitVec.ofInt 64 (v2.toNat:Int)).toNat:Int)))) then some ([],[],false) else
(part a0 2 (AK (2 + (AK ((BitVec.ofInt 64 (AK ((v1.toNat:Int) * (2 ^ (min (Int.toNat 8) 64)))) ||| BitVec.ofInt 64 (v2.toNat:Int)).toNat:Int))))).bind fun v3=>
(part a0 (AK (2 + (AK ((BitVec.ofInt 64 (AK ((v1.toNat:Int) * (2 ^ (min (Int.toNat 8) 64)))) ||| BitVec.ofInt 64 (v2.toNat:Int)).toNat:Int)))) (a0.length:Int)).bind fun v4=> some (v3,v4,true)
def Ek (a0:List UInt8):Option ((List JAB)×Int):= AI (τ:=(List JAB)) (fun k1=> Av (σ:=(List UInt8)×(List JAB)) (fun next2 (v3,v4)=> if (decide ((v3.length:Int) > 0)) then
(geti v3 0).bind fun v5=> AI (τ:=Int) (fun k6=> if (((Dh ((BitVec.ofInt 8 (v5.toNat:Int) &&& BitVec.ofInt 8 16).toNat:Int)).toNat:Int) != 0) then k6 4 else k6 3
) fun v7=> if (decide ((v3.length:Int)<v7)) then some ([],12) else
(geti v3 2).bind fun v8=> AI (τ:=Int) (fun k9=> if (v7==4) then
(geti v3 3).bind fun v10=> k9 (AK ((BitVec.ofInt 64 (AK ((v8.toNat:Int) * (2 ^ (min (Int.toNat 8) 64)))) ||| BitVec.ofInt 64 (v10.toNat:Int)).toNat:Int)) else k9 (v8.toNat:Int)
) fun v11=> if (decide ((AK ((v3.length:Int) - v7))<v11)) then some ([],12) else
(geti v3 0).bind fun v12=>
(geti v3 1).bind fun v13=>
(part v3 v7 (AK (v7 + v11))).bind fun v14=>
(apnd (α:=UInt8) 1 [] v14).bind fun _=>
(apnd (α:=JAB) 40 v4 ([(⟨((Dh ((BitVec.ofInt 8 (v12.toNat:Int) &&& BitVec.ofInt 8 224).toNat:Int)).toNat:Int),(v13.toNat:Int),v14⟩:JAB)]:List JAB)).bind fun v15=>
(part v3 (AK (v7 + v11)) (v3.length:Int)).bind fun v16=> next2 (v16,v15) else k1 v4
) fuel (a0,[])
) fun v17=> some (v17,0)
def FI (a0:List JAB) (a1:Int):Option (JAB×Int):= AI (τ:=Int×JAB) (fun k1=> An (σ:=Int×JAB) (fun (v2,v3)=> k1 (v2,v3)
) (fun next4 (x5:JAB) i6 (v2,v3)=> AI (τ:=Int×JAB) (fun k7=> if (x5.Type_==a1) then AI (τ:=JAB) (fun k8=> if ((AK (v2 + 1))==1) then k8 x5 else k8 v3
) fun v9=> k7 ((AK (v2 + 1)),v9) else k7 (v2,v3)
) fun (v10,v11)=> next4 (v10,v11)
) a0 0 (0,(⟨0,0,[]⟩:JAB))
) fun (v12,v13)=> some (v13,v12)
def C2 (a0:JAB) (a1:Int):Option (Addr×(List JAD)×Bool):= if (a1==0) then some ((⟨false,(0:UInt64),(0:UInt64)⟩:Addr),[],true) else AI (τ:=Bool) (fun k1=> if (decide (a1 > 1)) then k1 true else if (cond false true (decide ((a0.Data.length:Int)<21))) then k1 true else
(geti a0.Data 0).bind fun v2=> if (cond false true ((v2.toNat:Int) != 0)) then k1 true else
(geti a0.Data 1).bind fun v3=> if (cond false true ((v3.toNat:Int) != 2)) then k1 true else
(geti a0.Data 2).bind fun v4=> if (cond false true ((v4.toNat:Int) != 1)) then k1 true else
(geti a0.Data 3).bind fun v5=> if (cond false true ((v5.toNat:Int) != 16)) then k1 true else
(geti a0.Data 20).bind fun v6=> k1 (cond false true ((v6.toNat:Int) != 0))
) fun v7=> if v7 then some ((⟨false,(0:UInt64),(0:UInt64)⟩:Addr),[],false) else
(part a0.Data 4 20).bind fun v8=>
(Au v8).bind fun (v9,v10)=>
(part a0.Data 21 (a0.Data.length:Int)).bind fun v11=> AI (τ:=Bool×(List JAD)) (fun k12=> AI (τ:=(List JAD)) (fun k13=> Av (σ:=(List UInt8)×(List JAD)) (fun next14 (v15,v16)=> if (decide ((v15.length:Int) > 0)) then
(geti v15 0).bind fun v17=> AI (τ:=Bool) (fun k18=> if (decide ((v17.toNat:Int) > (AK (8 * 16)))) then k18 true else k18 (cond false true (decide ((v15.length:Int)<(AK (1 + (AK (Int.tdiv (AK ((v17.toNat:Int) + 7)) 8)))))))
) fun v19=> if v19 then k12 (false,[]) else
(part v15 1 (AK (1 + (AK (Int.tdiv (AK ((v17.toNat:Int) + 7)) 8))))).bind fun v20=>
(apnd (α:=UInt8) 1 [] v20).bind fun _=>
(chk (0<=(AK (16 - (AK (Int.tdiv (AK ((v17.toNat:Int) + 7)) 8))))/\(AK (16 - (AK (Int.tdiv (AK ((v17.toNat:Int) + 7)) 8))))<=1048576)).bind fun _=>
(apnd (α:=UInt8) 1 v20 (List.replicate (Int.toNat (AK (16 - (AK (Int.tdiv (AK ((v17.toNat:Int) + 7)) 8))))) (0:UInt8))).bind fun v21=>
(Au v21).bind fun (v22,v23)=>
(Br v22 (v17.toNat:Int)).bind fun (v24,v25)=>
(apnd (α:=JAD) 32 v16 ([v24]:List JAD)).bind fun v26=>
(part v15 (AK (1 + (AK (Int.tdiv (AK ((v17.toNat:Int) + 7)) 8)))) (v15.length:Int)).bind fun v27=> next14 (v27,v26) else k13 v16
) fuel (v11,[])
) fun v28=> k12 (true,v28)
) fun (v29,v30)=> some (v9,v30,v29)
def CY (a0:JAB) (a1:Int):Option ((List JAD)×Bool):= if (a1==0) then some ([],true) else AI (τ:=Bool) (fun k1=> if (decide (a1 > 1)) then k1 true else if (cond false true (decide ((a0.Data.length:Int)<3))) then k1 true else
(geti a0.Data 0).bind fun v2=> if (cond false true ((v2.toNat:Int) != 0)) then k1 true else
(geti a0.Data 1).bind fun v3=> if (cond false true ((v3.toNat:Int) != 2)) then k1 true else
(geti a0.Data 2).bind fun v4=> k1 (cond false true ((v4.toNat:Int) != 1))
) fun v5=> if v5 then some ([],false) else
(part a0.Data 3 (a0.Data.length:Int)).bind fun v6=> AI (τ:=Bool×(List JAD)) (fun k7=> AI (τ:=(List JAD)) (fun k8=> Av (σ:=(List UInt8)×(List JAD)) (fun next9 (v10,v11)=> if (decide ((v10.length:Int) > 0)) then
(geti v10 0).bind fun v12=> AI (τ:=Bool) (fun k13=> if (decide ((v12.toNat:Int) > (AK (8 * 16)))) then k13 true else k13 (cond false true (decide ((v10.length:Int)<(AK (1 + (AK (Int.tdiv (AK ((v12.toNat:Int) + 7)) 8)))))))
) fun v14=> if v14 then k7 (false,[]) else
(part v10 1 (AK (1 + (AK (Int.tdiv (AK ((v12.toNat:Int) + 7)) 8))))).bind fun v15=>
(apnd (α:=UInt8) 1 [] v15).bind fun _=>
(chk (0<=(AK (16 - (AK (Int.tdiv (AK ((v12.toNat:Int) + 7)) 8))))/\(AK (16 - (AK (Int.tdiv (AK ((v12.toNat:Int) + 7)) 8))))<=1048576)).bind fun _=>
(apnd (α:=UInt8) 1 v15 (List.replicate (Int.toNat (AK (16 - (AK (Int.tdiv (AK ((v12.toNat:Int) + 7)) 8))))) (0:UInt8))).bind fun v16=>
(Au v16).bind fun (v17,v18)=>
(Br v17 (v12.toNat:Int)).bind fun (v19,v20)=>
(apnd (α:=JAD) 32 v11 ([v19]:List JAD)).bind fun v21=>
(part v10 (AK (1 + (AK (Int.tdiv (AK ((v12.toNat:Int) + 7)) 8)))) (v10.length:Int)).bind fun v22=> next9 (v22,v21) else k8 v11
) fuel (v6,[])
) fun v23=> k7 (true,v23)
) fun (v24,v25)=> some (v25,v24)
def FO (a0:List JAB):Option (List JAB):= AI (τ:=(List JAB)) (fun k1=> An (σ:=(List JAB)×(List (Int×Bool))) (fun (v2,v3)=> k1 v2
) (fun next4 (x5:JAB) i6 (v2,v3)=>
(some (Option.getD (Df v3 x5.Type_) false)).bind fun v7=> AI (τ:=(List JAB)) (fun k8=> if (!v7) then
(apnd (α:=JAB) 40 v2 ([x5]:List JAB)).bind fun v9=> k8 v9 else k8 v2
) fun v10=> next4 (v10,(F3 v3 x5.Type_ true))
) a0 0 ([],[])
) fun v11=> some v11
def Ak (a0:List UInt8):Option Int:= AI (τ:=Int) (fun k1=> An (σ:=Int) (fun v2=> k1 v2
) (fun next3 (x4:UInt8) i5 v2=> next3 (AK ((BitVec.ofInt 64 (AK (v2 * (2 ^ (min (Int.toNat 8) 64)))) ||| BitVec.ofInt 64 (x4.toNat:Int)).toNat:Int))
) a0 0 0
) fun v6=> some v6
def EH (a0:List Int):Option (List Int):= AI (τ:=(List Int)) (fun k1=> An (σ:=(List Int)) (fun v2=> k1 v2
) (fun next3 (x4:Int) i5 v2=> AI (τ:=(List Int)) (fun k6=> AI (τ:=Int) (fun k7=> Av (σ:=Int) (fun next8 v9=> AI (τ:=Bool) (fun k10=> if (decide (v9<(v2.length:Int))) then
(geti v2 v9).bind fun v11=> k10 (cond true (decide (v11<x4)) false) else k10 false
) fun v12=> if v12 then next8 (AK (v9 + 1)) else k7 v9
) fuel 0
) fun v13=> AI (τ:=Bool) (fun k14=> if (decide (v13<(v2.length:Int))) then
(geti v2 v13).bind fun v15=> k14 (cond true (v15==x4) false) else k14 false
) fun v16=> if v16 then k6 v2 else
(chk (0<=(0:Int)/\(0:Int)<=v13/\v13<=(v2.length:Int))).bind fun _=>
(apnd (α:=Int) 8 [] (List.take (Int.toNat v13 - Int.toNat 0) (List.drop (Int.toNat 0) v2))).bind fun _=>
(apnd (α:=Int) 8 (List.take (Int.toNat v13 - Int.toNat 0) (List.drop (Int.toNat 0) v2)) ([x4]:List Int)).bind fun v17=>
(chk (0<=v13/\v13<=(v2.length:Int)/\(v2.length:Int)<=(v2.length:Int))).bind fun _=>
(apnd (α:=Int) 8 v17 (List.take (Int.toNat (v2.length:Int) - Int.toNat v13) (List.drop (Int.toNat v13) v2))).bind fun v18=> k6 v18
) fun v19=> next3 v19
) a0 0 []
) fun v20=> some v20
def GB (a0:List UInt8):Option ((List JAC)×Bool):= AI (τ:=(List JAC)×Nat×(List Int)) (fun k1=> Av (σ:=(List UInt8)×(List JAC)×Nat×(List Int)) (fun next2 (v3,v4,v5,v6)=> if (decide ((v3.length:Int) > 0)) then AI (τ:=(List UInt8)×(List JAC)×Nat×(List Int)) (fun k7=> AI (τ:=Bool) (fun k8=> if (decide ((v3.length:Int)<2)) then k8 true else
(geti v3 0).bind fun v9=> if ((v9.toNat:Int) != 1) then
(geti v3 0).bind fun v10=> if (cond false true (cond true ((v10.toNat:Int) != 2) false)) then k8 true else
(geti v3 1).bind fun v11=> if (cond false true ((v11.toNat:Int)==0)) then k8 true else
(geti v3 1).bind fun v12=> k8 (cond false true (decide ((v3.length:Int)<(AK (2 + (AK (4 * (v12.toNat:Int)))))))) else
(geti v3 1).bind fun v13=> if (cond false true ((v13.toNat:Int)==0)) then k8 true else
(geti v3 1).bind fun v14=> k8 (cond false true (decide ((v3.length:Int)<(AK (2 + (AK (4 * (v14.toNat:Int))))))))
) fun v15=> if v15 then some ([],false) else
(geti v3 1).bind fun v16=> AI (τ:=(List Int)) (fun k17=> Av (σ:=Int×(List Int)) (fun next18 (v19,v20)=> if (decide (v19<(v16.toNat:Int))) then
(part v3 (AK (2 + (AK (4 * v19)))) (AK (6 + (AK (4 * v19))))).bind fun v21=>
(Ak v21).bind fun v22=>
(apnd (α:=Int) 8 v20 ([v22]:List Int)).bind fun v23=> next18 ((AK (v19 + 1)),v23) else k17 v20
) fuel (0,[])
) fun v24=>
(geti v3 0).bind fun v25=> AI (τ:=(List JAC)×Nat×(List Int)) (fun k26=> if ((v25.toNat:Int)==1) then
(EH v24).bind fun v27=>
(apnd (α:=JAC) 32 v4 ([(⟨true,v27⟩:JAC)]:List JAC)).bind fun v28=> k26 (v28,((List.map JAC.toD v4).length + 0),v27) else AI (τ:=Bool) (fun k29=> if (decide ((v4.length:Int) > 0)) then
(geti v4 (AK ((v4.length:Int) - 1))).bind fun v30=> k29 (cond true (!v30.Set) false) else k29 false
) fun v31=> AI (τ:=(List JAC)×Nat×(List Int)) (fun k32=> if v31 then
(geti v4 (AK ((v4.length:Int) - 1))).bind fun v33=>
(chk (Int.toNat (AK ((v4.length:Int) - 1))=v5)).bind fun _=>
(apnd (α:=Int) 8 v6 v24).bind fun v34=>
(geti v4 (AK ((v4.length:Int) - 1))).bind fun v35=>
(seti v4 (AK ((v4.length:Int) - 1)) (⟨v35.Set,v34⟩:JAC)).bind fun v36=> k32 (v36,(Int.toNat (AK ((v4.length:Int) - 1))),v34) else
(apnd (α:=JAC) 32 v4 ([(⟨false,v24⟩:JAC)]:List JAC)).bind fun v37=> k32 (v37,((List.map JAC.toD v4).length + 0),v24)
) fun (v38,v39,v40)=> k26 (v38,v39,v40)
) fun (v41,v42,v43)=>
(geti v3 1).bind fun v44=>
(part v3 (AK (2 + (AK (4 * (v44.toNat:Int))))) (v3.length:Int)).bind fun v45=> k7 (v45,v41,v42,v43)
) fun (v46,v47,v48,v49)=> next2 (v46,v47,v48,v49) else k1 (v4,v5,v6)
) fuel (a0,[],0,[])
) fun (v50,v51,v52)=>
(C5 v50).bind fun v53=> some (v50,v53)
def F9 (a0:List JAA) (a1:JAA):Option Bool:= AI (τ:=Unit) (fun k1=> An (σ:=Unit) (fun _=> k1 ()
) (fun next2 (x3:JAA) i4 _=> if (JAA.eqd x3 a1) then some true else next2 ()
) a0 0 ()
) fun _=> some false
def GA (a0:List JAA) (a1:JAA):Option ((List JAA)×Int):= AI (τ:=Bool) (fun k1=>
(Du a0).bind fun v2=> if (!v2) then k1 true else
(EG a1).bind fun v3=> k1 (cond false true (!v3))
) fun v4=> if v4 then some ([],1) else
(F9 a0 a1).bind fun v5=> if v5 then
(apnd (α:=JAA) 16 [] a0).bind fun _=> some (a0,0) else if (decide ((a0.length:Int) ≥ 64)) then some ([],3) else AI (τ:=Int) (fun k6=> Av (σ:=Int) (fun next7 v8=> AI (τ:=Bool) (fun k9=> if (decide (v8<(a0.length:Int))) then
(geti a0 v8).bind fun v10=>
(EM v10 a1).bind fun v11=> k9 (cond true v11 false) else k9 false
) fun v12=> if v12 then next7 (AK (v8 + 1)) else k6 v8
) fuel 0
) fun v13=>
(part a0 0 v13).bind fun v14=>
(apnd (α:=JAA) 16 [] v14).bind fun _=>
(apnd (α:=JAA) 16 v14 ([a1]:List JAA)).bind fun v15=>
(part a0 v13 (a0.length:Int)).bind fun v16=>
(apnd (α:=JAA) 16 v15 v16).bind fun v17=> some (v17,0)
def DW (a0:List JAE) (a1:JAE):Option Bool:= AI (τ:=Unit) (fun k1=> An (σ:=Unit) (fun _=> k1 ()
) (fun next2 (x3:JAE) i4 _=> if (JAE.eqd x3 a1) then some true else next2 ()
) a0 0 ()
) fun _=> some false
def DT (a0:List JAE) (a1:JAE):Option ((List JAE)×Int):= AI (τ:=Bool) (fun k1=>
(BY a0).bind fun v2=> if (!v2) then k1 true else
(By a1).bind fun v3=> k1 (cond false true (!v3))
) fun v4=> if v4 then some ([],1) else
(DW a0 a1).bind fun v5=> if v5 then
(apnd (α:=JAE) 24 [] a0).bind fun _=> some (a0,0) else if (decide ((a0.length:Int) ≥ 64)) then some ([],3) else AI (τ:=Int) (fun k6=> Av (σ:=Int) (fun next7 v8=> AI (τ:=Bool) (fun k9=> if (decide (v8<(a0.length:Int))) then
(geti a0 v8).bind fun v10=>
(Bm v10 a1).bind fun v11=> k9 (cond true v11 false) else k9 false
) fun v12=> if v12 then next7 (AK (v8 + 1)) else k6 v8
) fuel 0
) fun v13=>
(part a0 0 v13).bind fun v14=>
(apnd (α:=JAE) 24 [] v14).bind fun _=>
(apnd (α:=JAE) 24 v14 ([a1]:List JAE)).bind fun v15=>
(part a0 v13 (a0.length:Int)).bind fun v16=>
(apnd (α:=JAE) 24 v15 v16).bind fun v17=> some (v17,0)
def EZ {ρ:Type} (F:Option ρ) (next21:Int×(List JAC)×Bool×UInt64×UInt64×Int×Int×Int×(List JAA)×(List JAE)->Option ρ) (x22:JAB):Int×(List JAC)×Bool×UInt64×UInt64×Int×Int×Int×(List JAA)×(List JAE)->Option ρ:=fun (v11,v12,v13,v14,v15,v16,v17,v18,v19,v20)=> AI (τ:=Int×(List JAC)×Bool×UInt64×UInt64×Int×Int×Int×(List JAA)×(List JAE)) (fun k24=>
(Dv x22.Type_).bind fun v25=> if (v25==0) then k24 (v11,v12,v13,v14,v15,v16,v17,v18,v19,v20) else AI (τ:=Bool×Int×(List JAC)×Bool×UInt64×UInt64×Int×Int×Int×(List JAA)×(List JAE)) (fun k26=> if ((AK ((BitVec.ofInt 64 x22.Flags &&& BitVec.ofInt 64 192).toNat:Int)) != v25) then k26 (true,v11,v12,v13,v14,v15,v16,v17,v18,v19,v20) else if (v25 != 192) then if (cond false true (cond true ((AK ((BitVec.ofInt 64 x22.Flags &&& BitVec.ofInt 64 32).toNat:Int)) != 0) false)) then k26 (true,v11,v12,v13,v14,v15,v16,v17,v18,v19,v20) else AI (τ:=Bool×Int×(List JAC)×Bool×UInt64×UInt64×Int×Int×Int×(List JAA)×(List JAE)) (fun k27=> AI (τ:=Int×Bool×UInt64×UInt64×Int×Int×Int×(List JAA)×(List JAE)) (fun k28=> AI (τ:=Int×Bool×UInt64×UInt64×Int×Int×Int×(List JAA)×(List JAE)) (fun k29=> if (x22.Type_==1) then AI (τ:=Bool) (fun k30=> if ((x22.Data.length:Int) != 1) then k30 true else
(geti x22.Data 0).bind fun v31=> k30 (cond false true (decide ((v31.toNat:Int) > 2)))
) fun v32=> if v32 then k27 (false,v11,v12,v13,v14,v15,v16,v17,v18,v19,v20) else
(geti x22.Data 0).bind fun v33=> k29 ((v33.toNat:Int),v13,v14,v15,v16,v17,v18,v19,v20) else if (x22.Type_==2) then
(GB x22.Data).bind fun (v34,v35)=> k27 (v35,v11,v34,v13,v14,v15,v16,v17,v18,v19,v20) else AI (τ:=Bool×UInt64×UInt64×Int×Int×Int×(List JAA)×(List JAE)) (fun k36=> if (x22.Type_==3) then if ((x22.Data.length:Int) != 4) then k27 (false,v11,v12,v13,v14,v15,v16,v17,v18,v19,v20) else
(Au x22.Data).bind fun (v37,v38)=> k36 (v37.V6,v37.Hi,v37.Lo,v16,v17,v18,v19,v20) else AI (τ:=Bool) (fun k39=> if (x22.Type_==4) then k39 (x22.Type_==4) else AI (τ:=Bool) (fun k40=> if (x22.Type_==5) then k40 (x22.Type_==5) else k40 (x22.Type_==35)
) fun v41=> k39 v41
) fun v42=> AI (τ:=Int×Int×Int×(List JAA)×(List JAE)) (fun k43=> if v42 then
(part x22.Data 0 (if (4:Int)<(x22.Data.length:Int) then 4 else (x22.Data.length:Int))).bind fun v44=>
(Ak v44).bind fun v45=> AI (τ:=Bool) (fun k46=> if ((x22.Data.length:Int) != 4) then k46 true else if (x22.Type_==35) then k46 (cond false true (cond true (v45==0) false)) else k46 false
) fun v47=> if v47 then k27 (false,v11,v12,v13,v14,v15,v16,v17,v18,v19,v20) else AI (τ:=Int×Int×Int) (fun k48=> if (x22.Type_==4) then k48 (v45,v17,v18) else AI (τ:=Int×Int) (fun k49=> if (x22.Type_==5) then k49 (v45,v18) else k49 (v17,v45)
) fun (v50,v51)=> k48 (v16,v50,v51)
) fun (v52,v53,v54)=> k43 (v52,v53,v54,v19,v20) else AI (τ:=(List JAA)×(List JAE)) (fun k55=> if (x22.Type_==8) then AI (τ:=Bool) (fun k56=> if ((x22.Data.length:Int)==0) then k56 true else if (cond false true ((Int.tmod (x22.Data.length:Int) 4) != 0)) then k56 true else k56 (cond false true (decide ((AK (Int.tdiv (x22.Data.length:Int) 4)) > 64)))
) fun v57=> if v57 then k27 (false,v11,v12,v13,v14,v15,v16,v17,v18,v19,v20) else AI (τ:=(List JAA)) (fun k58=> Av (σ:=Int×(List JAA)) (fun next59 (v60,v61)=> if (decide (v60<(x22.Data.length:Int))) then
(part x22.Data v60 (AK (v60 + 2))).bind fun v62=>
(Ak v62).bind fun v63=>
(part x22.Data (AK (v60 + 2)) (AK (v60 + 4))).bind fun v64=>
(Ak v64).bind fun v65=>
(GA v61 (⟨v63,v65⟩:JAA)).bind fun (v66,v67)=> next59 ((AK (v60 + 4)),v66) else k58 v61
) fuel (0,v19)
) fun v68=> k55 (v68,v20) else AI (τ:=(List JAE)) (fun k69=> if (x22.Type_==32) then AI (τ:=Bool) (fun k70=> if ((x22.Data.length:Int)==0) then k70 true else if (cond false true ((Int.tmod (x22.Data.length:Int) 12) != 0)) then k70 true else k70 (cond false true (decide ((AK (Int.tdiv (x22.Data.length:Int) 12)) > 64)))
) fun v71=> if v71 then k27 (false,v11,v12,v13,v14,v15,v16,v17,v18,v19,v20) else AI (τ:=(List JAE)) (fun k72=> Av (σ:=Int×(List JAE)) (fun next73 (v74,v75)=> if (decide (v74<(x22.Data.length:Int))) then
(part x22.Data v74 (AK (v74 + 4))).bind fun v76=>
(Ak v76).bind fun v77=>
(part x22.Data (AK (v74 + 4)) (AK (v74 + 8))).bind fun v78=>
(Ak v78).bind fun v79=>
(part x22.Data (AK (v74 + 8)) (AK (v74 + 12))).bind fun v80=>
(Ak v80).bind fun v81=>
(DT v75 (⟨v77,v79,v81⟩:JAE)).bind fun (v82,v83)=> next73 ((AK (v74 + 12)),v82) else k72 v75
) fuel (0,v20)
) fun v84=> k69 v84 else k69 v20
) fun v85=> k55 (v19,v85)
) fun (v86,v87)=> k43 (v16,v17,v18,v86,v87)
) fun (v88,v89,v90,v91,v92)=> k36 (v13,v14,v15,v88,v89,v90,v91,v92)
) fun (v93,v94,v95,v96,v97,v98,v99,v100)=> k29 (v11,v93,v94,v95,v96,v97,v98,v99,v100)
) fun (v101,v102,v103,v104,v105,v106,v107,v108,v109)=> k28 (v101,v102,v103,v104,v105,v106,v107,v108,v109)
) fun (v110,v111,v112,v113,v114,v115,v116,v117,v118)=> k27 (true,v110,v12,v111,v112,v113,v114,v115,v116,v117,v118)
) fun (v119,v120,v121,v122,v123,v124,v125,v126,v127,v128,v129)=> k26 ((cond false true (!v119)),v120,v121,v122,v123,v124,v125,v126,v127,v128,v129) else AI (τ:=Bool×Int×(List JAC)×Bool×UInt64×UInt64×Int×Int×Int×(List JAA)×(List JAE)) (fun k130=> AI (τ:=Int×Bool×UInt64×UInt64×Int×Int×Int×(List JAA)×(List JAE)) (fun k131=> AI (τ:=Int×Bool×UInt64×UInt64×Int×Int×Int×(List JAA)×(List JAE)) (fun k132=> if (x22.Type_==1) then AI (τ:=Bool) (fun k133=> if ((x22.Data.length:Int) != 1) then k133 true else
(geti x22.Data 0).bind fun v134=> k133 (cond false true (decide ((v134.toNat:Int) > 2)))
) fun v135=> if v135 then k130 (false,v11,v12,v13,v14,v15,v16,v17,v18,v19,v20) else
(geti x22.Data 0).bind fun v136=> k132 ((v136.toNat:Int),v13,v14,v15,v16,v17,v18,v19,v20) else if (x22.Type_==2) then
(GB x22.Data).bind fun (v137,v138)=> k130 (v138,v11,v137,v13,v14,v15,v16,v17,v18,v19,v20) else AI (τ:=Bool×UInt64×UInt64×Int×Int×Int×(List JAA)×(List JAE)) (fun k139=> if (x22.Type_==3) then if ((x22.Data.length:Int) != 4) then k130 (false,v11,v12,v13,v14,v15,v16,v17,v18,v19,v20) else
(Au x22.Data).bind fun (v140,v141)=> k139 (v140.V6,v140.Hi,v140.Lo,v16,v17,v18,v19,v20) else AI (τ:=Bool) (fun k142=> if (x22.Type_==4) then k142 (x22.Type_==4) else AI (τ:=Bool) (fun k143=> if (x22.Type_==5) then k143 (x22.Type_==5) else k143 (x22.Type_==35)
) fun v144=> k142 v144
) fun v145=> AI (τ:=Int×Int×Int×(List JAA)×(List JAE)) (fun k146=> if v145 then
(part x22.Data 0 (if (4:Int)<(x22.Data.length:Int) then 4 else (x22.Data.length:Int))).bind fun v147=>
(Ak v147).bind fun v148=> AI (τ:=Bool) (fun k149=> if ((x22.Data.length:Int) != 4) then k149 true else if (x22.Type_==35) then k149 (cond false true (cond true (v148==0) false)) else k149 false
) fun v150=> if v150 then k130 (false,v11,v12,v13,v14,v15,v16,v17,v18,v19,v20) else AI (τ:=Int×Int×Int) (fun k151=> if (x22.Type_==4) then k151 (v148,v17,v18) else AI (τ:=Int×Int) (fun k152=> if (x22.Type_==5) then k152 (v148,v18) else k152 (v17,v148)
) fun (v153,v154)=> k151 (v16,v153,v154)
) fun (v155,v156,v157)=> k146 (v155,v156,v157,v19,v20) else AI (τ:=(List JAA)×(List JAE)) (fun k158=> if (x22.Type_==8) then AI (τ:=Bool) (fun k159=> if ((x22.Data.length:Int)==0) then k159 true else if (cond false true ((Int.tmod (x22.Data.length:Int) 4) != 0)) then k159 true else k159 (cond false true (decide ((AK (Int.tdiv (x22.Data.length:Int) 4)) > 64)))
) fun v160=> if v160 then k130 (false,v11,v12,v13,v14,v15,v16,v17,v18,v19,v20) else AI (τ:=(List JAA)) (fun k161=> Av (σ:=Int×(List JAA)) (fun next162 (v163,v164)=> if (decide (v163<(x22.Data.length:Int))) then
(part x22.Data v163 (AK (v163 + 2))).bind fun v165=>
(Ak v165).bind fun v166=>
(part x22.Data (AK (v163 + 2)) (AK (v163 + 4))).bind fun v167=>
(Ak v167).bind fun v168=>
(GA v164 (⟨v166,v168⟩:JAA)).bind fun (v169,v170)=> next162 ((AK (v163 + 4)),v169) else k161 v164
) fuel (0,v19)
) fun v171=> k158 (v171,v20) else AI (τ:=(List JAE)) (fun k172=> if (x22.Type_==32) then AI (τ:=Bool) (fun k173=> if ((x22.Data.length:Int)==0) then k173 true else if (cond false true ((Int.tmod (x22.Data.length:Int) 12) != 0)) then k173 true else k173 (cond false true (decide ((AK (Int.tdiv (x22.Data.length:Int) 12)) > 64)))
) fun v174=> if v174 then k130 (false,v11,v12,v13,v14,v15,v16,v17,v18,v19,v20) else AI (τ:=(List JAE)) (fun k175=> Av (σ:=Int×(List JAE)) (fun next176 (v177,v178)=> if (decide (v177<(x22.Data.length:Int))) then
(part x22.Data v177 (AK (v177 + 4))).bind fun v179=>
(Ak v179).bind fun v180=>
(part x22.Data (AK (v177 + 4)) (AK (v177 + 8))).bind fun v181=>
(Ak v181).bind fun v182=>
(part x22.Data (AK (v177 + 8)) (AK (v177 + 12))).bind fun v183=>
(Ak v183).bind fun v184=>
(DT v178 (⟨v180,v182,v184⟩:JAE)).bind fun (v185,v186)=> next176 ((AK (v177 + 12)),v185) else k175 v178
) fuel (0,v20)
) fun v187=> k172 v187 else k172 v20
) fun v188=> k158 (v19,v188)
) fun (v189,v190)=> k146 (v16,v17,v18,v189,v190)
) fun (v191,v192,v193,v194,v195)=> k139 (v13,v14,v15,v191,v192,v193,v194,v195)
) fun (v196,v197,v198,v199,v200,v201,v202,v203)=> k132 (v11,v196,v197,v198,v199,v200,v201,v202,v203)
) fun (v204,v205,v206,v207,v208,v209,v210,v211,v212)=> k131 (v204,v205,v206,v207,v208,v209,v210,v211,v212)
) fun (v213,v214,v215,v216,v217,v218,v219,v220,v221)=> k130 (true,v213,v12,v214,v215,v216,v217,v218,v219,v220,v221)
) fun (v222,v223,v224,v225,v226,v227,v228,v229,v230,v231,v232)=> k26 ((cond false true (!v222)),v223,v224,v225,v226,v227,v228,v229,v230,v231,v232)
) fun (v233,v234,v235,v236,v237,v238,v239,v240,v241,v242,v243)=> if v233 then F else k24 (v234,v235,v236,v237,v238,v239,v240,v241,v242,v243)
) fun (v244,v245,v246,v247,v248,v249,v250,v251,v252,v253)=> next21 (v244,v245,v246,v247,v248,v249,v250,v251,v252,v253)
def G7 (a0:List JAB):Option (JAF×Int):=
(FO a0).bind fun v1=> AI (τ:=Unit) (fun k2=> An (σ:=Unit) (fun _=> k2 ()
) (fun next3 (x4:JAB) i5 _=> AI (τ:=Bool) (fun k6=>
(BQ x4.Type_).bind fun v7=> if v7 then k6 (cond true ((AK ((BitVec.ofInt 64 x4.Flags &&& BitVec.ofInt 64 128).toNat:Int))==0) false) else k6 false
) fun v8=> if v8 then some ((⟨0,[],(⟨false,(0:UInt64),(0:UInt64)⟩:Addr),0,0,0,[],[],[]⟩:JAF),12) else next3 ()
) v1 0 ()
) fun _=> AI (τ:=Unit) (fun k9=> k9 ()
) fun _=> AI (τ:=Int×(List JAC)×Bool×UInt64×UInt64×Int×Int×Int×(List JAA)×(List JAE)) (fun k10=> An (σ:=Int×(List JAC)×Bool×UInt64×UInt64×Int×Int×Int×(List JAA)×(List JAE)) (fun (v11,v12,v13,v14,v15,v16,v17,v18,v19,v20)=> k10 (v11,v12,v13,v14,v15,v16,v17,v18,v19,v20)
) (fun next21 (x22:JAB) i23 s=>EZ (some ((⟨0,[],(⟨false,(0:UInt64),(0:UInt64)⟩:Addr),0,0,0,[],[],[]⟩:JAF),13)) next21 x22 s
) v1 0 ((-1),[],false,(0:UInt64),(0:UInt64),(-1),(-1),(-1),[],[])
) fun (v254,v255,v256,v257,v258,v259,v260,v261,v262,v263)=> AI (τ:=(List JAB)) (fun k264=> Av (σ:=Int×(List JAB)) (fun next265 (v266,v267)=> if (decide (v266<256)) then AI (τ:=(List JAB)) (fun k268=> AI (τ:=(List JAB)) (fun k269=> An (σ:=(List JAB)) (fun v270=> k269 v270
) (fun next271 (x272:JAB) i273 v270=> AI (τ:=Bool) (fun k274=> if (x272.Type_==v266) then
(BQ v266).bind fun v275=> if (cond true v275 false) then if (cond true ((AK ((BitVec.ofInt 64 x272.Flags &&& BitVec.ofInt 64 64).toNat:Int)) != 0) false) then k274 (cond true (decide ((x272.Data.length:Int)<=255)) false) else k274 false else k274 false else k274 false
) fun v276=> AI (τ:=(List JAB)) (fun k277=> if v276 then
(apnd (α:=UInt8) 1 [] x272.Data).bind fun _=>
(apnd (α:=JAB) 40 v270 ([(⟨224,v266,x272.Data⟩:JAB)]:List JAB)).bind fun v278=> k277 v278 else k277 v270
) fun v279=> next271 v279
) v1 0 v267
) fun v280=> k268 v280
) fun v281=> next265 ((AK (v266 + 1)),v281) else k264 v267
) fuel (1,[])
) fun v282=> if (decide ((v282.length:Int) > 8)) then some ((⟨0,[],(⟨false,(0:UInt64),(0:UInt64)⟩:Addr),0,0,0,[],[],[]⟩:JAF),3) else some ((⟨v254,v255,(⟨v256,v257,v258⟩:Addr),v259,v260,v261,v262,v263,v282⟩:JAF),0)
def ED (a0:JAB) (a1:Int):Option Bool:= AI (τ:=Bool) (fun k1=> if (decide (a1 > 0)) then k1 (cond true ((AK ((BitVec.ofInt 64 a0.Flags &&& BitVec.ofInt 64 192).toNat:Int)) != 128) false) else k1 false
) fun v2=> some v2
def Eu (a0:List UInt8):Option (JAH×Int):=
(EN a0).bind fun (v1,v2,v3)=>
(EN v2).bind fun (v4,v5,v6)=> AI (τ:=Bool) (fun k7=> if (!v3) then k7 true else k7 (cond false true (!v6))
) fun v8=> if v8 then some ((⟨[],(⟨0,[],(⟨false,(0:UInt64),(0:UInt64)⟩:Addr),0,0,0,[],[],[]⟩:JAF),[]⟩:JAH),12) else AI (τ:=Unit) (fun k9=> k9 ()
) fun _=> AI (τ:=Bool×(List JAD)) (fun k10=> AI (τ:=(List JAD)) (fun k11=> Av (σ:=(List UInt8)×(List JAD)) (fun next12 (v13,v14)=> if (decide ((v13.length:Int) > 0)) then
(geti v13 0).bind fun v15=> AI (τ:=Bool) (fun k16=> if (decide ((v15.toNat:Int) > (AK (8 * 4)))) then k16 true else k16 (cond false true (decide ((v13.length:Int)<(AK (1 + (AK (Int.tdiv (AK ((v15.toNat:Int) + 7)) 8)))))))
) fun v17=> if v17 then k10 (false,[]) else
(part v13 1 (AK (1 + (AK (Int.tdiv (AK ((v15.toNat:Int) + 7)) 8))))).bind fun v18=>
(apnd (α:=UInt8) 1 [] v18).bind fun _=>
(chk (0<=(AK (4 - (AK (Int.tdiv (AK ((v15.toNat:Int) + 7)) 8))))/\(AK (4 - (AK (Int.tdiv (AK ((v15.toNat:Int) + 7)) 8))))<=1048576)).bind fun _=>
(apnd (α:=UInt8) 1 v18 (List.replicate (Int.toNat (AK (4 - (AK (Int.tdiv (AK ((v15.toNat:Int) + 7)) 8))))) (0:UInt8))).bind fun v19=>
(Au v19).bind fun (v20,v21)=>
(Br v20 (v15.toNat:Int)).bind fun (v22,v23)=>
(apnd (α:=JAD) 32 v14 ([v22]:List JAD)).bind fun v24=>
(part v13 (AK (1 + (AK (Int.tdiv (AK ((v15.toNat:Int) + 7)) 8)))) (v13.length:Int)).bind fun v25=> next12 (v25,v24) else k11 v14
) fuel (v1,[])
) fun v26=> k10 (true,v26)
) fun (v27,v28)=>
(Ek v4).bind fun (v29,v30)=>
(FI v29 14).bind fun (v31,v32)=>
(FI v29 15).bind fun (v33,v34)=>
(C2 v31 v32).bind fun (v35,v36,v37)=>
(CY v33 v34).bind fun (v38,v39)=> AI (τ:=Bool×(List JAD)) (fun k40=> AI (τ:=(List JAD)) (fun k41=> Av (σ:=(List UInt8)×(List JAD)) (fun next42 (v43,v44)=> if (decide ((v43.length:Int) > 0)) then
(geti v43 0).bind fun v45=> AI (τ:=Bool) (fun k46=> if (decide ((v45.toNat:Int) > (AK (8 * 4)))) then k46 true else k46 (cond false true (decide ((v43.length:Int)<(AK (1 + (AK (Int.tdiv (AK ((v45.toNat:Int) + 7)) 8)))))))
) fun v47=> if v47 then k40 (false,[]) else
(part v43 1 (AK (1 + (AK (Int.tdiv (AK ((v45.toNat:Int) + 7)) 8))))).bind fun v48=>
(apnd (α:=UInt8) 1 [] v48).bind fun _=>
(chk (0<=(AK (4 - (AK (Int.tdiv (AK ((v45.toNat:Int) + 7)) 8))))/\(AK (4 - (AK (Int.tdiv (AK ((v45.toNat:Int) + 7)) 8))))<=1048576)).bind fun _=>
(apnd (α:=UInt8) 1 v48 (List.replicate (Int.toNat (AK (4 - (AK (Int.tdiv (AK ((v45.toNat:Int) + 7)) 8))))) (0:UInt8))).bind fun v49=>
(Au v49).bind fun (v50,v51)=>
(Br v50 (v45.toNat:Int)).bind fun (v52,v53)=>
(apnd (α:=JAD) 32 v44 ([v52]:List JAD)).bind fun v54=>
(part v43 (AK (1 + (AK (Int.tdiv (AK ((v45.toNat:Int) + 7)) 8)))) (v43.length:Int)).bind fun v55=> next42 (v55,v54) else k41 v44
) fuel (v5,[])
) fun v56=> k40 (true,v56)
) fun (v57,v58)=>
(apnd (α:=JAD) 32 v28 v38).bind fun v59=>
(apnd (α:=JAD) 32 v58 v36).bind fun v60=> AI (τ:=Bool) (fun k61=> if (!v27) then k61 true else if (cond false true (v30 != 0)) then k61 true else if (cond false true (!v37)) then k61 true else if (cond false true (!v39)) then k61 true else if (cond false true (!v57)) then k61 true else if (decide ((v58.length:Int) > 0)) then if (cond false true (cond true (decide ((v36.length:Int) > 0)) false)) then k61 true else if (cond false true (decide ((v59.length:Int) > 256))) then k61 true else k61 (cond false true (decide ((v60.length:Int) > 256))) else if (cond false true (decide ((v59.length:Int) > 256))) then k61 true else k61 (cond false true (decide ((v60.length:Int) > 256)))
) fun v62=> if v62 then some ((⟨[],(⟨0,[],(⟨false,(0:UInt64),(0:UInt64)⟩:Addr),0,0,0,[],[],[]⟩:JAF),[]⟩:JAH),12) else
(G7 v29).bind fun (v63,v64)=> if (v64==12) then some ((⟨[],(⟨0,[],(⟨false,(0:UInt64),(0:UInt64)⟩:Addr),0,0,0,[],[],[]⟩:JAF),[]⟩:JAH),v64) else if ((v60.length:Int)==0) then some ((⟨v59,(⟨(-1),[],(⟨false,(0:UInt64),(0:UInt64)⟩:Addr),(-1),(-1),(-1),[],[],[]⟩:JAF),v60⟩:JAH),0) else
(FI v29 2).bind fun (v65,v66)=> AI (τ:=Bool) (fun k67=> if (v64 != 0) then k67 true else
(ED v31 v32).bind fun v68=> if (cond false true v68) then k67 true else
(ED v33 v34).bind fun v69=> if (cond false true v69) then k67 true else if (cond false true (v63.Origin==(-1))) then k67 true else if (cond false true (v66==0)) then k67 true else if (decide ((v58.length:Int) > 0)) then k67 (cond false true (cond true (Addr.eqd v63.Next (⟨false,(0:UInt64),(0:UInt64)⟩:Addr)) false)) else k67 false
) fun v70=> if v70 then
(apnd (α:=JAD) 32 [] v59).bind fun _=>
(apnd (α:=JAD) 32 v59 v60).bind fun v71=> some ((⟨v71,(⟨(-1),[],(⟨false,(0:UInt64),(0:UInt64)⟩:Addr),(-1),(-1),(-1),[],[],[]⟩:JAF),[]⟩:JAH),13) else AI (τ:=JAF) (fun k72=> if (decide ((v36.length:Int) > 0)) then k72 ({ v63 with Next:=v35 }) else k72 v63
) fun v73=> some ((⟨v59,v73,v60⟩:JAH),0)
def HZ (a0:List UInt8):Option (Bool×Bool):= if ((bs a0).toList==(ByteArray.mk (List.toArray (List.cons 0 (List.cons 0 (List.cons 0 (List.cons 0 List.nil)))))).toList) then some (true,false) else
(Eu a0).bind fun (v1,v2)=> AI (τ:=Bool) (fun k3=> if (v2 != 0) then k3 true else if (cond false true (decide ((v1.Withdraw.length:Int) > 0))) then k3 true else if (cond false true (decide ((v1.Announce.length:Int) > 0))) then k3 true else if (cond false true (decide ((a0.length:Int)<2))) then k3 true else
(geti a0 0).bind fun v4=> if (cond false true ((v4.toNat:Int) != 0)) then k3 true else
(geti a0 1).bind fun v5=> k3 (cond false true ((v5.toNat:Int) != 0))
) fun v6=> if v6 then some (false,false) else
(part a0 2 (a0.length:Int)).bind fun v7=>
(EN v7).bind fun (v8,v9,v10)=>
(Ek v8).bind fun (v11,v12)=> AI (τ:=Bool) (fun k13=> if (!v10) then k13 true else if (cond false true (decide ((v9.length:Int) > 0))) then k13 true else if (cond false true (v12 != 0)) then k13 true else if (cond false true ((v11.length:Int) != 1)) then k13 true else
(geti v11 0).bind fun v14=> k13 (cond false true (v14.Type_ != 15))
) fun v15=> if v15 then some (false,false) else some (true,true)
def E9 (a0:JAL) (a1:JAL) (a2:JAK) (a3:Int) (a4:Int):Option (List JAJ):= AI (τ:=Bool) (fun k1=> if (!(a0.State==3)) then k1 (cond true (a1.State==3) false) else k1 false
) fun v2=> if v2 then some ([(⟨2,a3,0,0,(⟨[],(⟨0,[],(⟨false,(0:UInt64),(0:UInt64)⟩:Addr),0,0,0,[],[],[]⟩:JAF),[]⟩:JAH),(⟨0,false,false,false,0,[],[]⟩:JAM)⟩:JAJ)]:List JAJ) else AI (τ:=Bool) (fun k3=> if (a0.State==3) then k3 (cond true (!(a1.State==3)) false) else k3 false
) fun v4=> if v4 then AI (τ:=Int) (fun k5=> if (a2.Type_ != 3) then
(FX a0).bind fun v6=> k5 v6 else k5 0
) fun v7=> some ([(⟨3,a3,a4,v7,(⟨[],(⟨0,[],(⟨false,(0:UInt64),(0:UInt64)⟩:Addr),0,0,0,[],[],[]⟩:JAF),[]⟩:JAH),(⟨0,false,false,false,0,[],[]⟩:JAM)⟩:JAJ)]:List JAJ) else AI (τ:=Bool) (fun k8=> if (!(a0.State==3)) then k8 true else k8 (cond false true (a2.Type_ != 2))
) fun v9=> if v9 then some [] else
(HZ a2.Body).bind fun (v10,v11)=> if v10 then AI (τ:=Int) (fun k12=> if v11 then k12 1 else k12 0
) fun v13=> some ([(⟨5,a3,0,v13,(⟨[],(⟨0,[],(⟨false,(0:UInt64),(0:UInt64)⟩:Addr),0,0,0,[],[],[]⟩:JAF),[]⟩:JAH),(⟨0,false,false,false,0,[],[]⟩:JAM)⟩:JAJ)]:List JAJ) else
(Eu a2.Body).bind fun (v14,v15)=> AI (τ:=Bool) (fun k16=> if (v15==0) then k16 true else k16 (cond false true (v15==13))
) fun v17=> if v17 then some ([(⟨1,a3,0,0,v14,(⟨0,false,false,false,0,[],[]⟩:JAM)⟩:JAJ)]:List JAJ) else some ([(⟨3,a3,a4,0,(⟨[],(⟨0,[],(⟨false,(0:UInt64),(0:UInt64)⟩:Addr),0,0,0,[],[],[]⟩:JAF),[]⟩:JAH),(⟨0,false,false,false,0,[],[]⟩:JAM)⟩:JAJ)]:List JAJ)
def IV (a0:RIB) (a1:Int):Option Bool:= AI (τ:=Bool) (fun k1=> if (a0.Until != 0) then k1 (cond true (decide (a0.Until<=a1)) false) else k1 false
) fun v2=> some v2
def Ce (a0:JAK) (a1:List Int) (a2:Int) (a3:Int) (a4:Int):Option Bool:= if (decide ((a0.Body.length:Int) > 600)) then
(Gl).bind fun v1=> some v1 else
(IQ a1).bind fun v2=> AI (τ:=Unit) (fun k3=> Av (σ:=Int×JAI) (fun next4 (v5,v6)=> if (decide (v5<6)) then
(EW v6).bind fun (v7,v8)=>
(EW v8).bind fun (v9,v10)=>
(E8 v10).bind fun (v11,v12)=> AI (τ:=JAK) (fun k13=> if (v5==5) then k13 a0 else k13 v11
) fun v14=> AI (τ:=Bool) (fun k15=>
(Dy v7).bind fun v16=>
(FX v7).bind fun v17=> if (v16 != v17) then k15 true else
(Di v7 v9 v14 a2 a3).bind fun v18=>
(E9 v7 v9 v14 a2 a3).bind fun v19=>
(He v18 v19).bind fun v20=> k15 (cond false true (!v20))
) fun v21=> if v21 then some false else next4 ((AK (v5 + 1)),v12) else k3 ()
) fuel (0,v2)
) fun _=>
(FC a4 40).bind fun v22=> AI (τ:=Bool) (fun k23=>
(FC a3 40).bind fun v24=>
(Ee (⟨(⟨0,ByteArray.empty,0,0,[]⟩:JAQ),false,[],v22⟩:RIB) v24).bind fun v25=>
(FC a3 40).bind fun v26=>
(IV (⟨(⟨0,ByteArray.empty,0,0,[]⟩:JAQ),false,[],v22⟩:RIB) v26).bind fun v27=> if (v25==v27) then
(Ee (⟨(⟨0,ByteArray.empty,0,0,[]⟩:JAQ),false,[],a4⟩:RIB) a3).bind fun v28=>
(IV (⟨(⟨0,ByteArray.empty,0,0,[]⟩:JAQ),false,[],a4⟩:RIB) a3).bind fun v29=> if (cond true (v28==v29) false) then
(Gl).bind fun v30=> k23 (cond true v30 false) else k23 false else k23 false
) fun v31=> some v31
end Go.AX.Q33
end
section
namespace Go.AX.Q33
open Go Go.AX Go.Proofs
set_option maxRecDepth 100000
set_option maxHeartbeats 4000000
set_option linter.unusedVariables false
def keep:FuncId->List Bool:=fun f=>(match Nat.beq f 261 with | true=>[true]|false=>(match Nat.beq f 144 with | true=>[true]|false=>(match Nat.beq f 277 with | true=>[true]|false=>(match Nat.beq f 272 with | true=>[true]|false=>(match Nat.beq f 278 with | true=>[true]|false=>(match Nat.beq f 273 with | true=>[true]|false=>(match Nat.beq f 262 with | true=>[true]|false=>[])))))))
def Vt:FuncId->Bool:=fun f=>(match Nat.beq f 268 with | true=>true | false=>(match Nat.beq f 264 with | true=>true | false=>(match Nat.beq f 258 with | true=>true | false=>(match Nat.beq f 257 with | true=>true | false=>(match Nat.beq f 256 with | true=>true | false=>(match Nat.beq f 255 with | true=>true | false=>(match Nat.beq f 254 with | true=>true | false=>(match Nat.beq f 253 with | true=>true | false=>(match Nat.beq f 252 with | true=>true | false=>(match Nat.beq f 251 with | true=>true | false=>(match Nat.beq f 250 with | true=>true | false=>(match Nat.beq f 141 with | true=>true | false=>(match Nat.beq f 137 with | true=>true | false=>(match Nat.beq f 108 with | true=>true | false=>(match Nat.beq f 100 with | true=>true | false=>(match Nat.beq f 60 with | true=>true | false=>(match Nat.beq f 51 with | true=>true | false=>false)))))))))))))))))
def cV:Nat->Option (List (D×D)):=fun g=>(match Nat.beq g 1 with | true=>some ([(D.i 1,D.val (.func (.func 250) #[] #[])),(D.i 2,D.val (.func (.func 251) #[] #[])),(D.i 3,D.val (.func (.func 252) #[] #[])),(D.i 4,D.val (.func (.func 253) #[] #[])),(D.i 5,D.val (.func (.func 255) #[] #[])),(D.i 8,D.val (.func (.func 256) #[] #[])),(D.i 32,D.val (.func (.func 257) #[] #[])),(D.i 35,D.val (.func (.func 258) #[] #[]))])|false=>(match Nat.beq g 0 with | true=>some (BS D.i D.i I8)|false=>none))
abbrev Wl (p:Prop):WL:=⟨p,cV⟩
theorem ok {wl:Prop} {f:FuncId} (fn:Func) {args:List AV} {objs:List OB} {res:AV} {objs':List OB}
    (hf : Tryz.prog.funcs[f]? = some fn) (hn : (fn.name == "runtime.NumGoroutine") = false) (h : Ye (mcx (Wl wl) Tryz.prog tt keep Vt 0 objs.length) fn args objs fun r o => r = res ∧ o = objs') : CallsOK (Wl wl) Tryz.prog f args objs res objs' :=
  aP Yx (by kernel_rfl) keep Vt 0 hf hn h
theorem okx {wl:Prop} {f:FuncId} (ex:Nat) (fn:Func) {args:List AV} {objs:List OB} {res:AV} {objs':List OB}
    (hf : Tryz.prog.funcs[f]? = some fn) (hn : (fn.name == "runtime.NumGoroutine") = false) (h : Ye (mcx (Wl wl) Tryz.prog tt keep Vt ex objs.length) fn args objs fun r o => r = res ∧ o = objs') : CallsOK (Wl wl) Tryz.prog f args objs res objs' :=
  aP Yx (by kernel_rfl) keep Vt ex hf hn h
theorem inl {wl:Prop} {f:FuncId} (fn:Func) (np:Nat) {args:List AV} {ob:List (Option OB)} {K:AV->List (Option OB)->Prop}
    (hf : Tryz.prog.funcs[f]? = some fn) (hn : (fn.name == "runtime.NumGoroutine") = false) (h : ax (mcx (Wl wl) Tryz.prog tt keep Vt 0 np) fn args ob K) : InlOK (Wl wl) Tryz.prog f args ob K :=
  aV Yx (by kernel_rfl) keep Vt np hf hn h
abbrev X:AV:=.dead
abbrev N:Option OB:=none
def dd:Nat->List AV->List AV
  | 0,l=>l
  | n + 1,l=>.dead::dd n l
def nn:Nat->List (Option OB)->List (Option OB)
  | 0,l=>l
  | n + 1,l=>none::nn n l
abbrev yb (x:Bool):AV:=.d (D.b x)
abbrev yi (x:Int):AV:=.d (D.i x)
abbrev yu (x:UInt64):AV:=.d (D.u64 x)
abbrev yv (x:UInt8):AV:=.d (D.u8 x)
abbrev ys (x:ByteArray):AV:=.d (D.s x)
theorem sJ {b:Bool} {ρ:Type} {X Y:Option ρ} {r:ρ} {A B:Prop} (h:(if b=true then X else Y)=some r) (h1:X=some r->A) (h2:Y=some r->B):M5 b A B:=az h1 h2 h
theorem oK {wl:Prop} {f:FuncId} (fn:Func) {args:List AV} {objs:List OB} {res:AV} {objs':List OB} (h:Ye (mcx (Wl wl) Tryz.prog tt keep Vt 0 objs.length) fn args objs fun r o=>r=res∧o=objs') (hf:Tryz.prog.funcs[f]?=some fn:=by kernel_rfl) (hn:(fn.name == "runtime.NumGoroutine")=false:=by kernel_rfl):CallsOK (Wl wl) Tryz.prog f args objs res objs':=ok fn hf hn h
theorem cO {ops:Array Oper} {e:List (List Nat×List Nat)} {K:Prop} (k:K) (h:confB ops e=true:=by kernel_rfl):FG ops 0 e=true/\K:=cOB h k
theorem dO {ops:Array Oper} {K:Prop} (k:K) (h:drawB ops=true:=by kernel_rfl):HW ops=true/\K:=dOB h k
abbrev yr (a b:Nat):AV:=.ref a b
abbrev yO {α:Type} (r:Nat) (f:α->D) (l:List α):AV:=.own r (List.map f l).length
abbrev yR {α:Type} (e s:Nat) (f:α->D) (l:List α):Option OB:=some (OB.row e s (List.map f l) .no)
abbrev yB (l:List AV):Option OB:=some (OB.box l)
abbrev y0 (l:List JAB):AV:=.d (D.l 3 JAB.toD l)
abbrev y1 (l:List UInt8):AV:=.d (D.l 1 D.u8 l)
abbrev y2 (l:List JAC):AV:=.d (D.l 2 JAC.toD l)
abbrev y3 (l:List Int):AV:=.d (D.l 1 D.i l)
abbrev y4 (l:List JAA):AV:=.d (D.l 2 JAA.toD l)
abbrev y5 (l:List JAE):AV:=.d (D.l 3 JAE.toD l)
abbrev y6 (l:List JAD):AV:=.d (D.l 4 JAD.toD l)
abbrev y7 (l:List JAJ):AV:=.d (D.l 24 JAJ.toD l)
abbrev yA0 (a0:Int) (a1:List JAC) (a2:Bool) (a3:UInt64) (a4:UInt64) (a5:Int) (a6:Int) (a7:Int) (a8:List JAA) (a9:List JAE):Option OB:=yB [yi a0,y2 a1,yb a2,yu a3,yu a4,yi a5,yi a6,yi a7,y4 a8,y5 a9,AV.d (D.nil 3)]
abbrev yA1 (a1:Int) (a3:Bool) (a4:UInt64) (a5:UInt64) (a6:Int) (a7:Int) (a8:Int):Option OB:=yB [AV.d (D.nil 4),yi a1,AV.d (D.nil 2),yb a3,yu a4,yu a5,yi a6,yi a7,yi a8,AV.d (D.nil 2),AV.d (D.nil 3),AV.d (D.nil 3),AV.d (D.nil 4)]
abbrev yA2 (a0:Int) (a1:Int) (a2:Int) (a3:Int) (a5:Int) (a7:Bool) (a8:UInt64) (a9:UInt64) (a10:Int) (a11:Int) (a12:Int) (a17:Int) (a18:Bool) (a19:Bool) (a20:Bool) (a21:Int):Option OB:=yB [yi a0,yi a1,yi a2,yi a3,AV.d (D.nil 4),yi a5,AV.d (D.nil 2),yb a7,yu a8,yu a9,yi a10,yi a11,yi a12,AV.d (D.nil 2),AV.d (D.nil 3),AV.d (D.nil 3),AV.d (D.nil 4),yi a17,yb a18,yb a19,yb a20,yi a21,AV.d (D.nil 1),AV.d (D.nil 2)]
abbrev yA3 (a0:Int) (a1:List JAC) (a2:Bool) (a3:UInt64) (a4:UInt64) (a5:Int) (a6:Int) (a7:Int) (a8:List JAA) (a9:List JAE) (a10:List JAB):Option OB:=yB [yi a0,y2 a1,yb a2,yu a3,yu a4,yi a5,yi a6,yi a7,y4 a8,y5 a9,y0 a10]
end Go.AX.Q33
end
section
namespace Go.AX.Q33
open Go Go.AX Go.Proofs Go.Proofs.YtdljbnbckcecdaaGreatDoor
set_option maxRecDepth 100000
def dR (n:Int):FuncId:=if n=1 then 250 else if n=2 then 251 else if n=3 then 252 else if n=4 then 253 else if n=5 then 255 else if n=8 then 256 else if n=32 then 257 else 258
def D2f {H:Type}:Lit×DataW H->D×D
 | (.int k n,.lit (.int k' m))=>(.val (.int k n),.val (.int k' m))
 | _=>(D.i 0,D.i 0)
def D2r {H:Type}:Lit×DataW H->D×D
 | (.int k n,_)=>(.val (.int k n),.val (.func (.func (dR n)) #[] #[]))
 | _=>(D.i 0,D.i 0)
theorem glob_ok {W:World} {p:Prop} (h:laidMetH Tryz.prog Rows.restartRecordsRow.laid W) :∃gb:Nat->Prop,(Wl p).gf gb W/\∀b,gb b->b<W.heap.size:=by
 obtain⟨h1,_⟩:=laidMetH_iff.1 h
 have e1 : (Rows.restartRecordsRow.laid.filter fun x => x.2.handleName?.isNone) = [("exchangepoint/attribute.flags", Rows.laid_exchangepoint_attribute_flags)] := by kernel_rfl
 rw[e1] at h1
 obtain⟨ps,⟨g0,t0,cs0,f0,p0,q0,hg0,ht0,hv0,hd0,_⟩,_,_⟩:=h1
 obtain rfl := X25 ((show Tryz.prog.globalNamed "exchangepoint/attribute.flags" = some 0 by kernel_rfl).symm.trans hg0)
 obtain rfl:=X25 ((show (Tryz.prog.globals[0]?).map (·.type)=some 276 by kernel_rfl).symm.trans ht0)
 obtain⟨b0,a0,c0,hc0,hb0,hp0,ho0⟩:=VL (kd:=.i64) Tryz.underlying276 Tryz.underlying3 hd0 D2f (fun n v d m q hm hv hf=>by
  obtain⟨j,h1,h2,_⟩:=DataW.trod_int Tryz.underlying3 hv
  simp only[X26] at h2
  obtain⟨rfl,_⟩:=h2
  have hv:v=.int .i64 j:=by
   unfold Value.formed at hf
   rw[Tryz.underlying3] at hf
   cases v<;>simp_all [Value.cells]
  subst hv
  exact⟨rfl,rfl⟩)
 obtain ⟨g1, t1, cs1, f1, p1, hg1, ht1, hv1, hd1⟩ := h.funcs (n := "exchangepoint/attribute.readers") (X19 _ (X14.2 rfl))
 obtain rfl := X25 ((show Tryz.prog.globalNamed "exchangepoint/attribute.readers" = some 1 by kernel_rfl).symm.trans hg1)
 obtain rfl:=X25 ((show (Tryz.prog.globals[1]?).map (·.type)=some 281 by kernel_rfl).symm.trans ht1)
 have hd1:DataW.trod (funcToken Tryz.prog) Tryz.prog W 0 (fun _=>true) true f1 281 cs1.toList=some (.map [(.int .i64 1,.held [101,120,99,104,97,110,103,101,112,111,105,110,116,47,97,116,116,114,105,98,117,116,101,46,114,101,97,100,79,114,105,103,105,110]),(.int .i64 2,.held [101,120,99,104,97,110,103,101,112,111,105,110,116,47,97,116,116,114,105,98,117,116,101,46,114,101,97,100,80,97,116,104]),(.int .i64 3,.held [101,120,99,104,97,110,103,101,112,111,105,110,116,47,97,116,116,114,105,98,117,116,101,46,114,101,97,100,78,101,120,116]),(.int .i64 4,.held [101,120,99,104,97,110,103,101,112,111,105,110,116,47,97,116,116,114,105,98,117,116,101,46,114,101,97,100,101,114,115,36,49]),(.int .i64 5,.held [101,120,99,104,97,110,103,101,112,111,105,110,116,47,97,116,116,114,105,98,117,116,101,46,114,101,97,100,101,114,115,36,50]),(.int .i64 8,.held [101,120,99,104,97,110,103,101,112,111,105,110,116,47,97,116,116,114,105,98,117,116,101,46,114,101,97,100,67,111,109,109,117,110,105,116,105,101,115]),(.int .i64 32,.held [101,120,99,104,97,110,103,101,112,111,105,110,116,47,97,116,116,114,105,98,117,116,101,46,114,101,97,100,76,97,114,103,101]),(.int .i64 35,.held [101,120,99,104,97,110,103,101,112,111,105,110,116,47,97,116,116,114,105,98,117,116,101,46,114,101,97,100,101,114,115,36,51])],p1):=hd1
 obtain⟨b1,a1,c1,hc1,hb1,hp1,ho1⟩:=VL (kd:=.i64) Tryz.underlying281 Tryz.underlying3 hd1 D2r (fun n v d m q hm hv hf=>by
  have hv1:v.cells.toList=[v]:=by
   unfold Value.formed at hf
   rw[Tryz.underlying279] at hf
   cases v<;>simp_all [Value.cells]
  rw[hv1] at hv
  simp only[List.mem_cons,List.not_mem_nil,or_false,X26,Lit.int.injEq,true_and] at hm
  rcases hm with ⟨rfl,rfl⟩|⟨rfl,rfl⟩|⟨rfl,rfl⟩|⟨rfl,rfl⟩|⟨rfl,rfl⟩|⟨rfl,rfl⟩|⟨rfl,rfl⟩|⟨rfl,rfl⟩
  ·obtain rfl:=func_of_trod (f0:=250) Tryz.underlying279 (by kernel_rfl) hv
   exact⟨rfl,rfl⟩
  ·obtain rfl:=func_of_trod (f0:=251) Tryz.underlying279 (by kernel_rfl) hv
   exact⟨rfl,rfl⟩
  ·obtain rfl:=func_of_trod (f0:=252) Tryz.underlying279 (by kernel_rfl) hv
   exact⟨rfl,rfl⟩
  ·obtain rfl:=func_of_trod (f0:=253) Tryz.underlying279 (by kernel_rfl) hv
   exact⟨rfl,rfl⟩
  ·obtain rfl:=func_of_trod (f0:=255) Tryz.underlying279 (by kernel_rfl) hv
   exact⟨rfl,rfl⟩
  ·obtain rfl:=func_of_trod (f0:=256) Tryz.underlying279 (by kernel_rfl) hv
   exact⟨rfl,rfl⟩
  ·obtain rfl:=func_of_trod (f0:=257) Tryz.underlying279 (by kernel_rfl) hv
   exact⟨rfl,rfl⟩
  obtain rfl:=func_of_trod (f0:=258) Tryz.underlying279 (by kernel_rfl) hv
  exact⟨rfl,rfl⟩)
 have cell :∀{g:Nat} {n:String} {cs:Array Value} {v:Value},Tryz.prog.globalNamed n=some g->W.var? Tryz.prog n=some cs->cs.toList=[v]->cellAt W g 0=some v/\g<W.heap.size:=by
  intro g n cs v hg hv hc
  have h1:=World.var?_cell hg hv 0
  rw[Array.eq_one_of_toList hc] at h1
  have h1:W.cell? ⟨g,0,none⟩=some v:=by simpa using h1
  refine⟨h1,?_⟩
  unfold World.var? at hv
  rw[hg,Option.bind_some] at hv
  cases hh:W.heap[g]? with
  | none=>rw[hh] at hv;cases hv
  | some o=>exact (Array.getElem?_eq_some_iff.1 hh).1
 obtain⟨k0,s0⟩:=cell hg0 hv0 hc0
 obtain⟨k1,s1⟩:=cell hg1 hv1 hc1
 refine⟨fun b=>b=0\/b=1\/b=b0\/b=b1,fun g es hg=>?_,fun b hb=>?_⟩
 rotate_left
 ·rcases hb with rfl | rfl | rfl | rfl
  ·exact s0
  ·exact s1
  ·exact (Array.getElem?_eq_some_iff.1 hb0).1
  exact (Array.getElem?_eq_some_iff.1 hb1).1
 match g,hg with
 | 0,hg=>
  obtain rfl:BS D.i D.i I8=es:=X25 hg
  refine⟨.inl rfl,b0,a0,c0,_,.inr (.inr (.inl rfl)),k0,hb0,fun tk x q hq=>?_,Rn ho0⟩
  refine OC (l:=BS D.i D.i I8) (hp0.symm) ?_ (by unfold I8 BS;simp[D.i]) hq
  intro q hq
  obtain⟨z,_,rfl⟩:=List.mem_map.1 hq
  exact⟨_,rfl⟩
 | 1,hg=>
  obtain rfl:=X25 hg
  refine⟨.inr (.inl rfl),b1,a1,c1,_,.inr (.inr (.inr rfl)),k1,hb1,fun tk x q hq=>?_,Rn ho1⟩
  refine OC (hp1.symm) ?_ (by simp[D2r]) hq
  intro q hq
  obtain⟨z,hz,rfl⟩:=List.mem_map.1 hq
  simp only[List.mem_cons,List.not_mem_nil,or_false] at hz
  rcases hz with rfl | rfl | rfl | rfl | rfl | rfl | rfl | rfl<;>exact⟨_,rfl⟩
 | g + 2,hg=>cases hg
end Go.AX.Q33
end
