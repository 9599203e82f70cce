/-
  Texts of one proof, packed.
-/
import Derived.Test.YtbohbnpaadcfmaaGreatDoorKB3
import Derived.Below
import Derived.Carry
import Derived.ChangeOld
import Derived.Deep.Draws
import Derived.Deep.Slices
import Derived.IntWalk
import Derived.KernelRfl
import Derived.LaidHandle
import Derived.LaidMore
import Derived.Lib.MakeNoZero
import Derived.MakeChecks
import Derived.OpenShut
import Derived.ProofKit
import Derived.Shelf.SlSortCmp.Insertion
import Derived.SizedLaws
import Derived.Sort.AssemblyPlain
import Derived.Test.YtbohbnpaadcfmaaGreatDoorProg
import Derived.WalkKit
import Derived.WideKeyElems2
set_option linter.all false
set_option maxRecDepth 100000
set_option maxHeartbeats 4000000
open List renaming length_map→X10,length_append→X11,length_cons→X12,length_nil→X13,mem_singleton→X14,getElem?_eq_getElem→X15,getElem?_eq_some_iff→X16,length_drop→X17,length_take→X18,mem_cons_of_mem→X19,mem_append→X23
open Option.some renaming injEq→X24,inj→X25
open Prod.mk renaming injEq→X26
open Bool renaming and_eq_true→X27
open Nat renaming le_of_ble_eq_true→X29,eq_of_beq_eq_true→X30,mul_le_mul_right→X31
section
namespace Go.AX
def HU (np:Nat)(o:Oper)(av:Operand->AV):List Nat:=
 (match F7 o.op with
  | true=>[np+o.dst.getD 0]
  | false=>[])++(Ql o.op).flatMap fun x=>(av x).refs
def Ox (cx:Cx)(o:Oper)(av:Operand->AV)(ob:List (Option OB))(K:AV->W->Prop):Prop:=
 ∃v w,K v w/\(F7 o.op=false->w=[])/\(∀q∈w,q.1∈HU cx.np o av)/\
  ∀av' ob',(∀x∈o.op.operands.toList,av' x=av x)->Agree (HU cx.np o av) ob ob'->∀K':AV->W->Prop,K' v w->opK cx o av' ob' K'
theorem Ox.pure {cx:Cx}{o:Oper}{av:Operand->AV}{ob:List (Option OB)}{K:AV->W->Prop}(v:AV)(hK:K v [])
  (h :∀av' ob',(∀x∈o.op.operands.toList,av' x=av x)->Agree (HU cx.np o av) ob ob'->∀K':AV->W->Prop,K' v []->opK cx o av' ob' K'):Ox cx o av ob K:=
 ⟨v,[],hK,fun _=>rfl,fun q hq=>by simp at hq,h⟩
theorem Dm {np:Nat}{o:Oper}{av:Operand->AV}{x:Operand}(hx:x∈o.op.operands.toList)(hf:Ql o.op=o.op.operands.toList) :∀r∈(av x).refs,r∈HU np o av:=fun _ hr=>
 List.mem_append_right _ (List.mem_flatMap.2 ⟨x,hf ▸ hx,hr⟩)
theorem D6 {np:Nat}{o:Oper}{av:Operand->AV}(h:F7 o.op=true):np+o.dst.getD 0∈HU np o av:=by
 unfold HU;rw[h];simp
theorem Kr {av av':Operand->AV} :∀(l:List (Nat×Operand)),(∀x∈l.map (·.2),av' x=av x)->(l.map fun (i,x)=>(i,av' x))=l.map fun (i,x)=>(i,av x)
 | [],_=>rfl
 | (i,x)::l,h=>by
  simp only[List.map_cons,List.mem_cons,forall_eq_or_imp] at h ⊢
  rw[h.1,Kr l h.2]
theorem TD {asz:List AV}{r:Nat}:r∈AV.refs.refsL asz ↔∃a∈asz,r∈a.refs:=by
 induction asz with
 | nil=>simp[AV.refs.refsL]
 | cons a l ih=>simp[AV.refs.refsL,ih]
theorem Rm {av:Operand->AV}{r:Nat} :∀{l:List (Nat×Operand)},r∈AV.refs.refsL ((l.map fun (i,x)=>(i,av x)).map (·.2))->∃x∈l.map (·.2),r∈(av x).refs
 | [],h=>by simp[AV.refs.refsL] at h
 | (i,x)::l,h=>by
  simp only[List.map_cons,AV.refs.refsL,X23] at h
  rcases h with h | h
  ·exact⟨x,by simp,h⟩
  obtain⟨y,hy,h⟩:=Rm h
  exact⟨y,by simp only[List.map_cons,List.mem_cons];exact .inr hy,h⟩
theorem FP {T:TT}{t:Nat}{a:AV} :∀r∈(En T t a).refs,r∈a.refs:=by
 intro r hr
 unfold En at hr
 split at hr
 ·split at hr
  ·simp[AV.refs] at hr
  exact hr
 exact hr
theorem PX {T:TT}{av av':Operand->AV} :∀(l:List Operand) (ts:List Nat),(∀x∈l,av' x=av x)->Gl T av' l ts=Gl T av l ts
 | [],ts,_=>by simp[Gl]
 | x::xs,[],h=>by
  simp only[Gl]
  exact List.map_congr_left h
 | x::xs,t::ts,h=>by
  simp only[Gl]
  rw[h x (by simp),PX xs ts fun y hy=>h y (by simp[hy])]
theorem RZ {T:TT}{av:Operand->AV}{a:AV} :∀{l:List Operand} {ts:List Nat},a∈Gl T av l ts->∃x∈l,∀r∈a.refs,r∈(av x).refs
 | [],ts,h=>by simp[Gl] at h
 | x::xs,[],h=>by
  simp only[Gl] at h
  obtain⟨y,hy,rfl⟩:=List.mem_map.1 h
  exact⟨y,hy,fun r hr=>hr⟩
 | x::xs,t::ts,h=>by
  simp only[Gl,List.mem_cons] at h
  rcases h with rfl | h
  ·exact⟨x,by simp,FP⟩
  obtain⟨y,hy,hr⟩:=RZ h
  exact⟨y,by simp[hy],hr⟩
theorem eu {cx:Cx}{o:Oper}{av:Operand->AV}{ob:List (Option OB)}{K:AV->W->Prop}(h:opK cx o av ob K):Ox cx o av ob K:=by
 have self :∀{ob':List (Option OB)},F7 o.op=true->Agree (HU cx.np o av) ob ob'->ob'[cx.np+o.dst.getD 0]?=ob[cx.np+o.dst.getD 0]?:=fun hr ha=>ha _ (D6 hr)
 have opd :∀{ob':List (Option OB)} (x:Operand),x∈o.op.operands.toList->Ql o.op=o.op.operands.toList->Agree (HU cx.np o av) ob ob'->Agree (av x).refs ob ob':=fun x hx hf ha=>ha.mono (Dm hx hf)
 unfold opK at h
 split at h<;>rename_i heq
 ·rename_i x
  split at h
  ·rename_i cv
   obtain⟨v,w,h1,h2,h3⟩:=X5 h
   have hrw:F7 o.op=true:=by rw[heq];rfl
   refine⟨v,w,h1,fun e=>by rw[hrw] at e;simp at e,fun q hq=>by rw[h2 q hq];exact D6 hrw,fun av' ob' hav ha K' hK=>?_⟩
   unfold opK;rw[heq]
   simp only
   rw[hav (.const cv) (by rw[heq];simp[Op.operands])]
   exact h3 ob' (self hrw ha) _ hK
  rename_i hnc
  obtain⟨v,h1,h2⟩:=Hr h
  refine .pure v h1 fun av' ob' hav ha K' hK=>?_
  unfold opK;rw[heq]
  simp only
  rw[hav x (by rw[heq];simp[Op.operands])]
  exact h2 (fun v=>K' v []) hK
 ·rename_i x
  split at h
  ·rename_i cv
   obtain⟨v,w,h1,h2,h3⟩:=X5 h
   have hrw:F7 o.op=true:=by rw[heq];rfl
   refine⟨v,w,h1,fun e=>by rw[hrw] at e;simp at e,fun q hq=>by rw[h2 q hq];exact D6 hrw,fun av' ob' hav ha K' hK=>?_⟩
   unfold opK;rw[heq]
   simp only
   rw[hav (.const cv) (by rw[heq];simp[Op.operands])]
   exact h3 ob' (self hrw ha) _ hK
  rename_i hnc
  obtain⟨v,h1,h2⟩:=Hr h
  refine .pure v h1 fun av' ob' hav ha K' hK=>?_
  unfold opK;rw[heq]
  simp only
  rw[hav x (by rw[heq];simp[Op.operands])]
  exact h2 (fun v=>K' v []) hK
 ·rename_i c a b
  obtain⟨v,h1,h2⟩:=cK h
  refine .pure v h1 fun av' ob' hav ha K' hK=>?_
  unfold opK;rw[heq];simp only
  rw[hav c (by rw[heq];simp[Op.operands]),hav a (by rw[heq];simp[Op.operands]),hav b (by rw[heq];simp[Op.operands])]
  exact h2 (fun v=>K' v []) hK
 ·rename_i t
  have hrw:F7 o.op=true:=by rw[heq];rfl
  rw[AD] at h
  obtain⟨hk,h⟩:=h
  have h0:=h
  rw[CC] at h
  refine⟨_,_,h.2,fun e=>by rw[hrw] at e;simp at e,fun q hq=>by simp only[X14] at hq;rw[hq];exact D6 hrw,fun av' ob' hav ha K' hK=>?_⟩
  unfold opK;rw[heq];simp only
  exact (AD _ _).2 ⟨hk,KB h0 (self hrw ha) hK⟩
 ·rename_i t x
  have hrw:F7 o.op=true:=by rw[heq];rfl
  have h0:=h
  rw[CC,Es] at h
  obtain⟨hs,l,hl,h⟩:=h
  rw[AD] at h
  refine⟨_,_,h.2,fun e=>by rw[hrw] at e;simp at e,fun q hq=>by simp only[X14] at hq;rw[hq];exact D6 hrw,fun av' ob' hav ha K' hK=>?_⟩
  unfold opK;rw[heq];simp only
  refine KB h0 (self hrw ha) ?_
  rw[hav x (by rw[heq];simp[Op.operands]),Es]
  exact⟨l,hl,(AD _ _).2 ⟨h.1,hK⟩⟩
 ·rename_i t ps
  obtain⟨v,h1,h2⟩:=aY h
  refine .pure v h1 fun av' ob' hav ha K' hK=>?_
  unfold opK;rw[heq];simp only
  rw[Kr (av:=av) ps.toList fun x hx=>hav x (by rw[heq];simpa[Op.operands] using hx)]
  exact h2 (fun v=>K' v []) hK
 ·rename_i t len ps
  have hrw:F7 o.op=true:=by rw[heq];rfl
  obtain⟨v,w,h1,h2,h3⟩:=SK h
  have hfp :∀r∈(cx.np+o.dst.getD 0)::AV.refs.refsL ((ps.toList.map fun (i,x)=>(i,av x)).map (·.2)),r∈HU cx.np o av:=by
   intro r hr
   rcases List.mem_cons.1 hr with hr | hr
   ·rw[hr];exact D6 hrw
   obtain⟨x,hx,hr⟩:=Rm hr
   exact Dm (by rw[heq];simpa[Op.operands] using hx) (by rw[heq];rfl) r hr
  refine⟨v,w,h1,fun e=>by rw[hrw] at e;simp at e,fun q hq=>hfp _ (h2 q hq),fun av' ob' hav ha K' hK=>?_⟩
  unfold opK;rw[heq];simp only
  rw[Kr (av:=av) ps.toList fun x hx=>hav x (by rw[heq];simpa[Op.operands] using hx)]
  exact h3 ob' (ha.mono hfp) _ hK
 ·rename_i t x
  obtain⟨v,h1,h2⟩:=bi h
  refine .pure v h1 fun av' ob' hav ha K' hK=>?_
  unfold opK;rw[heq];simp only
  rw[hav x (by rw[heq];simp[Op.operands])]
  exact h2 ob' (opd x (by rw[heq];simp[Op.operands]) (by rw[heq];rfl) ha) (fun v=>K' v []) hK
 ·rename_i t a x
  have hrw:F7 o.op=true:=by rw[heq];rfl
  obtain⟨v,w,h1,h2,h3⟩:=aG h
  have hnx :∀r∈(En cx.T t (av x)).refs,r∈(av x).refs:=by
   intro r hr
   unfold En at hr
   split at hr
   ·split at hr
    ·simp[AV.refs] at hr
    exact hr
   exact hr
  have hfp :∀r∈(av a).refs++(En cx.T t (av x)).refs,r∈HU cx.np o av:=by
   intro r hr
   rcases X23.1 hr with hr | hr
   ·exact Dm (x:=a) (by rw[heq];simp[Op.operands]) (by rw[heq];rfl) r hr
   exact Dm (x:=x) (by rw[heq];simp[Op.operands]) (by rw[heq];rfl) r (hnx r hr)
  refine⟨v,w,h1,fun e=>by rw[hrw] at e;simp at e,fun q hq=>hfp _ (h2 q hq),fun av' ob' hav ha K' hK=>?_⟩
  unfold opK;rw[heq];simp only
  rw[hav a (by rw[heq];simp[Op.operands]),hav x (by rw[heq];simp[Op.operands])]
  exact h3 ob' (ha.mono hfp) _ hK
 ·rename_i x
  split at h
  all_goals first | exact h.elim | skip
  all_goals
   rename_i hx
   refine .pure _ h fun av' ob' hav ha K' hK=>?_
   unfold opK;rw[heq];simp only
   rw[hav x (by rw[heq];simp[Op.operands]),hx]
   exact hK
 ·rename_i op t x y _
  obtain⟨v,h1,h2⟩:=dK h
  refine .pure v h1 fun av' ob' hav ha K' hK=>?_
  unfold opK;rw[heq];simp only
  rw[hav x (by rw[heq];simp[Op.operands]),hav y (by rw[heq];simp[Op.operands])]
  exact h2 (fun v=>K' v []) hK
 ·rename_i op t x
  obtain⟨v,h1,h2⟩:=fY h
  refine .pure v h1 fun av' ob' hav ha K' hK=>?_
  unfold opK;rw[heq];simp only
  rw[hav x (by rw[heq];simp[Op.operands])]
  exact h2 (fun v=>K' v []) hK
 ·rename_i src dst x
  obtain⟨v,h1,h2⟩:=cE h
  refine .pure v h1 fun av' ob' hav ha K' hK=>?_
  unfold opK;rw[heq];simp only
  rw[hav x (by rw[heq];simp[Op.operands])]
  exact h2 ob' (opd x (by rw[heq];simp[Op.operands]) (by rw[heq];rfl) ha) (fun v=>K' v []) hK
 ·rename_i t x i
  obtain⟨a,b,c,h,hf⟩:=W5 h
  split at h
  ·rename_i r off hx
   refine .pure _ h fun av' ob' hav ha K' hK=>?_
   unfold opK;rw[heq];simp only
   rw[hav x (by rw[heq];simp[Op.operands]),hx]
   exact hf _ hK
  ·rename_i cs hx
   rw[Ds,DG] at h
   refine .pure _ h fun av' ob' hav ha K' hK=>?_
   unfold opK;rw[heq];simp only
   rw[hav x (by rw[heq];simp[Op.operands]),hx]
   refine hf _ ?_
   simp only
   rw[Ds,DG]
   exact hK
  ·rename_i r n i k hx
   obtain⟨q,h,ho⟩:=CB h
   cases q with
   | box=>exact h.elim
   | map=>exact h.elim
   | amap=>exact h.elim
   | gone=>exact h.elim
   | row e sz es f=>
    refine .pure _ h.2 fun av' ob' hav ha K' hK=>?_
    unfold opK;rw[heq];simp only
    rw[hav x (by rw[heq];simp[Op.operands]),hx]
    exact hf _ (ho ob' (opd x (by rw[heq];simp[Op.operands]) (by rw[heq];rfl) ha r (by rw[hx];simp[AV.refs])) _ ⟨h.1,hK⟩)
  exact h.elim
 ·rename_i t x i
  obtain⟨v,h1,h2⟩:=ah h
  refine .pure v h1 fun av' ob' hav ha K' hK=>?_
  unfold opK;rw[heq];simp only
  rw[hav x (by rw[heq];simp[Op.operands])]
  exact h2 (fun v=>K' v []) hK
 ·rename_i t x y
  obtain⟨v,h1,h2⟩:=Ux h
  refine .pure v h1 fun av' ob' hav ha K' hK=>?_
  unfold opK;rw[heq];simp only
  rw[hav x (by rw[heq];simp[Op.operands]),hav y (by rw[heq];simp[Op.operands])]
  exact h2 ob' (opd x (by rw[heq];simp[Op.operands]) (by rw[heq];rfl) ha) (fun v=>K' v []) hK
 ·rename_i t x y
  obtain⟨v,h1,h2⟩:=ag h
  refine .pure v h1 fun av' ob' hav ha K' hK=>?_
  unfold opK;rw[heq];simp only
  rw[hav x (by rw[heq];simp[Op.operands]),hav y (by rw[heq];simp[Op.operands])]
  exact h2 (fun v=>K' v []) hK
 ·rename_i t
  have hrw:F7 o.op=true:=by rw[heq];rfl
  split at h
  ·rename_i k e hk
   have h0:=h
   rw[CC] at h
   obtain⟨_,h⟩:=h
   refine⟨_,_,h,fun e=>by rw[hrw] at e;simp at e,fun q hq=>by simp only[X14] at hq;rw[hq];exact D6 hrw,fun av' ob' hav ha K' hK=>?_⟩
   unfold opK;rw[heq];simp only[hk]
   exact KB h0 (self hrw ha) hK
  exact h.elim
 ·rename_i t x y ok
  obtain⟨v,h1,h2⟩:=bm h
  refine .pure v h1 fun av' ob' hav ha K' hK=>?_
  unfold opK;rw[heq];simp only
  rw[hav x (by rw[heq];simp[Op.operands]),hav y (by rw[heq];simp[Op.operands])]
  exact h2 ob' (opd x (by rw[heq];simp[Op.operands]) (by rw[heq];rfl) ha) (fun v=>K' v []) hK
 ·rename_i t mm k v
  have hrw:F7 o.op=true:=by rw[heq];rfl
  obtain⟨u,w,h1,h2,h3⟩:=Tj h
  have hfp :∀r∈(av mm).refs++(av v).refs,r∈HU cx.np o av:=by
   intro r hr
   rcases X23.1 hr with hr | hr
   ·exact Dm (x:=mm) (by rw[heq];simp[Op.operands]) (by rw[heq];rfl) r hr
   exact Dm (x:=v) (by rw[heq];simp[Op.operands]) (by rw[heq];rfl) r hr
  refine⟨u,w,h1,fun e=>by rw[hrw] at e;simp at e,fun q hq=>hfp _ (h2 q hq),fun av' ob' hav ha K' hK=>?_⟩
  unfold opK;rw[heq];simp only
  rw[hav mm (by rw[heq];simp[Op.operands]),hav k (by rw[heq];simp[Op.operands]),hav v (by rw[heq];simp[Op.operands])]
  exact h3 ob' (ha.mono hfp) _ hK
 ·rename_i t mm k v
  have hrw:F7 o.op=true:=by rw[heq];rfl
  obtain⟨u,w,h1,h2,h3⟩:=Tj h
  have hfp :∀r∈(av mm).refs++(av v).refs,r∈HU cx.np o av:=by
   intro r hr
   rcases X23.1 hr with hr | hr
   ·exact Dm (x:=mm) (by rw[heq];simp[Op.operands]) (by rw[heq];rfl) r hr
   exact Dm (x:=v) (by rw[heq];simp[Op.operands]) (by rw[heq];rfl) r hr
  refine⟨u,w,h1,fun e=>by rw[hrw] at e;simp at e,fun q hq=>hfp _ (h2 q hq),fun av' ob' hav ha K' hK=>?_⟩
  unfold opK;rw[heq];simp only
  rw[hav mm (by rw[heq];simp[Op.operands]),hav k (by rw[heq];simp[Op.operands]),hav v (by rw[heq];simp[Op.operands])]
  exact h3 ob' (ha.mono hfp) _ hK
 ·rename_i t x lo hi
  have hrw:F7 o.op=true:=by rw[heq];rfl
  obtain⟨v,w,h1,_,h2,h3⟩:=VL h
  have hfp :∀r∈(cx.np+o.dst.getD 0)::(En cx.T t (av x)).refs,r∈HU cx.np o av:=by
   intro r hr
   rcases List.mem_cons.1 hr with hr | hr
   ·rw[hr];exact D6 hrw
   refine Dm (x:=x) (by rw[heq];simp[Op.operands]) (by rw[heq];rfl) r ?_
   unfold En at hr
   split at hr
   ·split at hr
    ·simp[AV.refs] at hr
    exact hr
   exact hr
  refine⟨v,w,h1,fun e=>by rw[hrw] at e;simp at e,fun q hq=>hfp _ (h2 q hq),fun av' ob' hav ha K' hK=>?_⟩
  unfold opK;rw[heq];simp only
  have e1:En cx.T t (av' x)=En cx.T t (av x):=by rw[hav x (by rw[heq];simp[Op.operands])]
  have e2:lo.map av'=lo.map av:=by
   cases lo with
   | none=>rfl
   | some y=>simp only[Option.map_some];rw[hav y (by rw[heq];simp[Op.operands])]
  have e3:hi.map av'=hi.map av:=by
   cases hi with
   | none=>rfl
   | some y=>simp only[Option.map_some];rw[hav y (by rw[heq];simp[Op.operands])]
  rw[e1,e2,e3]
  exact h3 ob' (ha.mono hfp) _ hK
 ·rename_i t x lo hi mx
  have hrw:F7 o.op=true:=by rw[heq];rfl
  obtain⟨v,w,h1,_,h2,h3⟩:=UE h
  have hfp :∀r∈(cx.np+o.dst.getD 0)::(av x).refs,r∈HU cx.np o av:=by
   intro r hr
   rcases List.mem_cons.1 hr with hr | hr
   ·rw[hr];exact D6 hrw
   exact Dm (x:=x) (by rw[heq];simp[Op.operands]) (by rw[heq];rfl) r hr
  refine⟨v,w,h1,fun e=>by rw[hrw] at e;simp at e,fun q hq=>hfp _ (h2 q hq),fun av' ob' hav ha K' hK=>?_⟩
  unfold opK;rw[heq];simp only
  have e1:av' x=av x:=hav x (by rw[heq];simp[Op.operands])
  have e2:lo.map av'=lo.map av:=by
   cases lo with
   | none=>rfl
   | some y=>simp only[Option.map_some];rw[hav y (by rw[heq];simp[Op.operands])]
  have e3:hi.map av'=hi.map av:=by
   cases hi with
   | none=>rfl
   | some y=>simp only[Option.map_some];rw[hav y (by rw[heq];simp[Op.operands])]
  have e4:av' mx=av mx:=hav mx (by rw[heq];simp[Op.operands])
  rw[e1,e2,e3,e4]
  exact h3 ob' (ha.mono hfp) _ hK
 ·rename_i t n c
  have hrw:F7 o.op=true:=by rw[heq];rfl
  unfold V3 at h
  split at h
  ·rename_i e n' c' hk hn hc
   have h0:=h
   rw[CC] at h
   obtain⟨_,h⟩:=h
   rw[AD] at h
   obtain⟨h1,hb,z,hz,zs,hzs,h⟩:=h
   refine⟨_,_,h,fun e=>by rw[hrw] at e;simp at e,fun q hq=>by simp only[X14] at hq;rw[hq];exact D6 hrw,fun av' ob' hav ha K' hK=>?_⟩
   unfold opK;rw[heq];simp only
   unfold V3
   rw[hav n (by rw[heq];simp[Op.operands]),hav c (by rw[heq];simp[Op.operands]),hk,hn,hc]
   simp only
   refine KB h0 (self hrw ha) ?_
   exact (AD _ _).2 ⟨h1,hb,z,hz,zs,hzs,hK⟩
  exact h.elim
 ·rename_i x i
  split at h
  ·rename_i vs hx
   split at h
   ·rename_i a hi
    obtain⟨v,h1,h2⟩:=Hr h
    refine .pure v h1 fun av' ob' hav ha K' hK=>?_
    unfold opK;rw[heq];simp only
    rw[hav x (by rw[heq];simp[Op.operands]),hx]
    simp only[hi]
    exact h2 (fun v=>K' v []) hK
   exact h.elim
  exact h.elim
 ·rename_i f first caps
  split at h
  ·rename_i hf
   refine .pure _ h fun av' ob' hav ha K' hK=>?_
   unfold opK;rw[heq];simp only[hf]
   rw[List.map_congr_left (g:=av) fun x hx=>hav x (by rw[heq];simp only[Op.operands,Array.toList_append,X23];exact .inr hx)]
   exact hK
  exact h.elim
 ·rename_i c
  split at h
  ·rename_i x hc
   have hops:o.op.operands.toList=x::c.args.toList:=by rw[heq];simp[Op.operands,Call.operands,hc]
   have hrw:F7 o.op=true:=by rw[heq];simp[F7,hc]
   obtain⟨f,caps,h,hx⟩:=QG h
   obtain⟨v,w,h1,h2,h3⟩:=cd h
   have hxr :∀r∈AV.refs.refsL caps,r∈(av x).refs:=by
    intro r hr
    rcases hx with hx | ⟨hx,rfl⟩
    ·rw[hx];exact hr
    simp[AV.refs.refsL] at hr
   have hfp :∀r∈(cx.np+o.dst.getD 0)::AV.refs.refsL (Gl cx.T av c.args.toList c.argTypes.toList++caps),r∈HU cx.np o av:=by
    intro r hr
    rcases List.mem_cons.1 hr with hr | hr
    ·rw[hr];exact D6 hrw
    obtain⟨a,ha,hr⟩:=TD.1 hr
    rcases X23.1 ha with ha | ha
    ·obtain⟨y,hy,hr2⟩:=RZ ha
     exact Dm (x:=y) (by rw[hops];simp only[List.mem_cons];exact .inr hy) (by rw[heq];rfl) r (hr2 r hr)
    exact Dm (x:=x) (by rw[hops];simp) (by rw[heq];rfl) r (hxr r (TD.2 ⟨a,ha,hr⟩))
   refine⟨v,w,h1,fun e=>by rw[hrw] at e;simp at e,fun q hq=>hfp _ (h2 q hq),fun av' ob' hav ha K' hK=>?_⟩
   unfold opK;rw[heq];simp only[hc]
   rw[hav x (by rw[hops];simp),PX (av:=av) _ _ fun y hy=>hav y (by rw[hops];simp only[List.mem_cons];exact .inr hy)]
   exact eM (h3 ob' (ha.mono hfp) _ hK) hx
  ·rename_i hc
   have hops:o.op.operands.toList=c.args.toList:=by rw[heq];simp[Op.operands,Call.operands,hc]
   split at h
   ·rename_i x t hx ht
    obtain⟨v,h1,h2⟩:=da h
    refine .pure v h1 fun av' ob' hav ha K' hK=>?_
    unfold opK;rw[heq];simp only[hc,hx,ht]
    rw[hav x (by rw[hops,hx];simp)]
    exact h2 (fun v=>K' v []) hK
   exact h.elim
  ·rename_i hc
   have hops:o.op.operands.toList=c.args.toList:=by rw[heq];simp[Op.operands,Call.operands,hc]
   have hrw:F7 o.op=true:=by rw[heq];simp[F7,hc]
   split at h
   ·rename_i x y t u hx ht
    split at h
    rotate_left
    ·rename_i htu
     obtain⟨v,w,h1,h2,h3⟩:=YG h
     have hfp :∀r∈(cx.np+o.dst.getD 0)::(En cx.T t (av x)).refs,r∈HU cx.np o av:=by
      intro r hr
      rcases List.mem_cons.1 hr with hr | hr
      ·rw[hr];exact D6 hrw
      exact Dm (x:=x) (by rw[hops,hx];simp) (by rw[heq];rfl) r (FP r hr)
     refine⟨v,w,h1,fun e=>by rw[hrw] at e;simp at e,fun q hq=>hfp _ (h2 q hq),fun av' ob' hav ha K' hK=>?_⟩
     unfold opK;rw[heq];simp only[hc,hx,ht]
     rw[htu,hav x (by rw[hops,hx];simp),hav y (by rw[hops,hx];simp)]
     exact h3 ob' (ha.mono hfp) _ hK
    rename_i h0
    obtain⟨v,w,h1,h2,h3⟩:=SZ h
    have hfp :∀r∈(cx.np+o.dst.getD 0)::((En cx.T t (av x)).refs++(En cx.T t (av y)).refs),r∈HU cx.np o av:=by
     intro r hr
     rcases List.mem_cons.1 hr with hr | hr
     ·rw[hr];exact D6 hrw
     rcases X23.1 hr with hr | hr
     ·exact Dm (x:=x) (by rw[hops,hx];simp) (by rw[heq];rfl) r (FP r hr)
     exact Dm (x:=y) (by rw[hops,hx];simp) (by rw[heq];rfl) r (FP r hr)
    refine⟨v,w,h1,fun e=>by rw[hrw] at e;simp at e,fun q hq=>hfp _ (by
     rcases List.mem_cons.1 (h2 q hq) with e | e
     ·rw[e];simp
     exact X19 _ (List.mem_append_left _ e)),fun av' ob' hav ha K' hK=>?_⟩
    unfold opK;rw[heq];simp only[hc,hx,ht]
    rw[hav x (by rw[hops,hx];simp),hav y (by rw[hops,hx];simp)]
    rw[h0]
    exact h3 ob' (ha.mono hfp) _ hK
   exact h.elim
  ·rename_i hc
   have hops:o.op.operands.toList=c.args.toList:=by rw[heq];simp[Op.operands,Call.operands,hc]
   split at h
   ·rename_i x t hx ht
    obtain⟨v,h1,h2⟩:=dp h
    refine .pure v h1 fun av' ob' hav ha K' hK=>?_
    unfold opK;rw[heq];simp only[hc,hx,ht]
    rw[hav x (by rw[hops,hx];simp)]
    exact h2 (fun v=>K' v []) hK
   exact h.elim
  ·rename_i hc
   have hops:o.op.operands.toList=c.args.toList:=by rw[heq];simp[Op.operands,Call.operands,hc]
   have hrw:F7 o.op=true:=by rw[heq];simp[F7,hc]
   split at h
   ·rename_i x t hx ht
    split at h
    ·rename_i r a n m hxo
     obtain⟨v,w,h1,h2,h3⟩:=Zx h
     have hfp :∀q ∈ [r],q∈HU cx.np o av:=by
      intro q hq
      refine Dm (x:=x) (by rw[hops,hx];simp) (by rw[heq];rfl) q ?_
      rw[hxo];simpa[AV.refs] using hq
     refine⟨v,w,h1,fun e=>by rw[hrw] at e;simp at e,fun q hq=>hfp _ (h2 q hq),fun av' ob' hav ha K' hK=>?_⟩
     unfold opK;rw[heq];simp only[hc,hx,ht]
     rw[hav x (by rw[hops,hx];simp),hxo]
     exact h3 ob' (ha.mono hfp) _ hK
    exact h.elim
   exact h.elim
  ·rename_i hc
   have hops:o.op.operands.toList=c.args.toList:=by rw[heq];simp[Op.operands,Call.operands,hc]
   have hrw:F7 o.op=true:=by rw[heq];simp[F7,hc]
   split at h
   ·rename_i x y t u hx ht
    obtain⟨v,w,h1,h2,h3⟩:=cP h
    have hfp :∀q∈(av x).refs++(av y).refs,q∈HU cx.np o av:=by
     intro q hq
     rcases X23.1 hq with hq | hq
     ·exact Dm (x:=x) (by rw[hops,hx];simp) (by rw[heq];rfl) q hq
     exact Dm (x:=y) (by rw[hops,hx];simp) (by rw[heq];rfl) q hq
    refine⟨v,w,h1,fun e=>by rw[hrw] at e;simp at e,fun q hq=>hfp _ (List.mem_append_left _ (h2 q hq)),fun av' ob' hav ha K' hK=>?_⟩
    unfold opK;rw[heq];simp only[hc,hx,ht]
    rw[hav x (by rw[hops,hx];simp),hav y (by rw[hops,hx];simp)]
    exact h3 ob' (ha.mono hfp) _ hK
   exact h.elim
  ·rename_i hc
   have hops:o.op.operands.toList=c.args.toList:=by rw[heq];simp[Op.operands,Call.operands,hc]
   split at h
   ·rename_i x y hx
    obtain⟨v,h1,h2⟩:=dz h
    refine .pure v h1 fun av' ob' hav ha K' hK=>?_
    unfold opK;rw[heq];simp only[hc,hx]
    rw[hav x (by rw[hops,hx];simp),hav y (by rw[hops,hx];simp)]
    exact h2 (fun v=>K' v []) hK
   exact h.elim
  ·rename_i hc
   have hops:o.op.operands.toList=c.args.toList:=by rw[heq];simp[Op.operands,Call.operands,hc]
   split at h
   ·rename_i x y hx
    obtain⟨v,h1,h2⟩:=dt h
    refine .pure v h1 fun av' ob' hav ha K' hK=>?_
    unfold opK;rw[heq];simp only[hc,hx]
    rw[hav x (by rw[hops,hx];simp),hav y (by rw[hops,hx];simp)]
    exact h2 (fun v=>K' v []) hK
   exact h.elim
  exact h.elim
 exact h.elim
theorem dy {cx:Cx}{o:Oper}{av:Operand->AV}{ob:List (Option OB)}{K:AV->W->Prop}(h:opK cx o av ob K) :
  ∃v w,K v w/\(F7 o.op=false->w=[])/\(cL o.op=true->v.isOsl=true->w=[])/\(∀x,apX o.op=some x->∀q∈w,q.1∈(cx.np+o.dst.getD 0)::(av x).refs)/\(∀q∈w,q.1∈HU cx.np o av)/\
   ∀av' ob',(∀x∈o.op.operands.toList,av' x=av x)->Agree (HU cx.np o av) ob ob'->∀K':AV->W->Prop,K' v w->opK cx o av' ob' K':=by
 by_cases hs:cL o.op=true
 case neg=>
  cases hap:apX o.op with
  | none=>
   obtain⟨v,w,h1,h2,h3,h4⟩:=eu h
   exact⟨v,w,h1,h2,fun e=>absurd e hs,fun x e=>by simp at e,h3,h4⟩
  | some x=>
   obtain⟨c,y,heq,hc,hx⟩ :∃c y,o.op=.call c/\c.callee=.builtin .append/\c.args.toList=[x,y]:=by
    unfold apX at hap
    split at hap
    ·rename_i c heq
     split at hap
     ·rename_i x' y' hc hx
      simp only[X24] at hap
      subst hap
      exact⟨c,_,heq,hc,hx⟩
     simp at hap
    simp at hap
   have hops:o.op.operands.toList=c.args.toList:=by rw[heq];simp[Op.operands,Call.operands,hc]
   have hrw:F7 o.op=true:=by rw[heq];simp[F7,hc]
   unfold opK at h
   rw[heq] at h
   simp only[hc,hx] at h
   split at h
   ·rename_i x' y' t u hx' ht
    simp only[List.cons.injEq,and_true] at hx'
    obtain⟨rfl,rfl⟩:=hx'
    split at h
    rotate_left
    ·rename_i htu
     obtain⟨v,w,h1,h2,h3⟩:=YG h
     have hfp :∀r∈(cx.np+o.dst.getD 0)::(En cx.T t (av x)).refs,r∈HU cx.np o av:=by
      intro r hr
      rcases List.mem_cons.1 hr with hr | hr
      ·rw[hr];exact D6 hrw
      exact Dm (x:=x) (by rw[hops,hx];simp) (by rw[heq];rfl) r (FP r hr)
     refine⟨v,w,h1,fun e=>by rw[hrw] at e;simp at e,fun e=>absurd e hs,fun x2 e q hq=>?_,fun q hq=>hfp _ (h2 q hq),fun av' ob' hav ha K' hK=>?_⟩
     ·simp only[X24] at e
      subst e
      rcases List.mem_cons.1 (h2 q hq) with e | e
      ·rw[e];simp
      exact X19 _ (FP _ e)
     unfold opK;rw[heq];simp only[hc,hx,ht]
     rw[htu,hav x (by rw[hops,hx];simp),hav y (by rw[hops,hx];simp)]
     exact h3 ob' (ha.mono hfp) _ hK
    rename_i h0
    obtain⟨v,w,h1,h2,h3⟩:=SZ h
    have hfp :∀r∈(cx.np+o.dst.getD 0)::((En cx.T t (av x)).refs++(En cx.T t (av y)).refs),r∈HU cx.np o av:=by
     intro r hr
     rcases List.mem_cons.1 hr with hr | hr
     ·rw[hr];exact D6 hrw
     rcases X23.1 hr with hr | hr
     ·exact Dm (x:=x) (by rw[hops,hx];simp) (by rw[heq];rfl) r (FP r hr)
     exact Dm (x:=y) (by rw[hops,hx];simp) (by rw[heq];rfl) r (FP r hr)
    refine⟨v,w,h1,fun e=>by rw[hrw] at e;simp at e,fun e=>absurd e hs,fun x2 e q hq=>?_,fun q hq=>hfp _ (by
     rcases List.mem_cons.1 (h2 q hq) with e | e
     ·rw[e];simp
     exact X19 _ (List.mem_append_left _ e)),fun av' ob' hav ha K' hK=>?_⟩
    ·simp only[X24] at e
     subst e
     rcases List.mem_cons.1 (h2 q hq) with e | e
     ·rw[e];simp
     exact X19 _ (FP _ e)
    unfold opK;rw[heq];simp only[hc,hx,ht]
    rw[hav x (by rw[hops,hx];simp),hav y (by rw[hops,hx];simp)]
    rw[h0]
    exact h3 ob' (ha.mono hfp) _ hK
   exact h.elim
 obtain⟨t,x,lo,hi,mx,heq⟩ :∃t x lo hi mx,o.op=.slice t x lo hi mx:=by
  revert hs
  cases o.op<;>simp[cL]
 cases mx with
 | some y=>
  unfold opK at h
  rw[heq] at h
  simp only at h
  have hrw:F7 o.op=true:=by rw[heq];rfl
  obtain⟨v,w,h1,hos,h2,h3⟩:=UE h
  have hfp :∀r∈(cx.np+o.dst.getD 0)::(av x).refs,r∈HU cx.np o av:=by
   intro r hr
   rcases List.mem_cons.1 hr with hr | hr
   ·rw[hr];exact D6 hrw
   exact Dm (x:=x) (by rw[heq];simp[Op.operands]) (by rw[heq];rfl) r hr
  refine⟨v,w,h1,fun e=>by rw[hrw] at e;simp at e,fun _=>hos,fun x2 e=>by rw[heq] at e;simp[apX] at e,fun q hq=>hfp _ (h2 q hq),fun av' ob' hav ha K' hK=>?_⟩
  unfold opK;rw[heq];simp only
  have e1:av' x=av x:=hav x (by rw[heq];simp[Op.operands])
  have e2:lo.map av'=lo.map av:=by
   cases lo with
   | none=>rfl
   | some y=>simp only[Option.map_some];rw[hav y (by rw[heq];simp[Op.operands])]
  have e3:hi.map av'=hi.map av:=by
   cases hi with
   | none=>rfl
   | some y=>simp only[Option.map_some];rw[hav y (by rw[heq];simp[Op.operands])]
  have e4:av' y=av y:=hav y (by rw[heq];simp[Op.operands])
  rw[e1,e2,e3,e4]
  exact h3 ob' (ha.mono hfp) _ hK
 | none=>
 unfold opK at h
 rw[heq] at h
 simp only at h
 have hrw:F7 o.op=true:=by rw[heq];rfl
 obtain⟨v,w,h1,hos,h2,h3⟩:=VL h
 have hfp :∀r∈(cx.np+o.dst.getD 0)::(En cx.T t (av x)).refs,r∈HU cx.np o av:=by
  intro r hr
  rcases List.mem_cons.1 hr with hr | hr
  ·rw[hr];exact D6 hrw
  refine Dm (x:=x) (by rw[heq];simp[Op.operands]) (by rw[heq];rfl) r ?_
  unfold En at hr
  split at hr
  ·split at hr
   ·simp[AV.refs] at hr
   exact hr
  exact hr
 refine⟨v,w,h1,fun e=>by rw[hrw] at e;simp at e,fun _=>hos,fun x2 e=>by rw[heq] at e;simp[apX] at e,fun q hq=>hfp _ (h2 q hq),fun av' ob' hav ha K' hK=>?_⟩
 unfold opK;rw[heq];simp only
 have e1:En cx.T t (av' x)=En cx.T t (av x):=by rw[hav x (by rw[heq];simp[Op.operands])]
 have e2:lo.map av'=lo.map av:=by
  cases lo with
  | none=>rfl
  | some y=>simp only[Option.map_some];rw[hav y (by rw[heq];simp[Op.operands])]
 have e3:hi.map av'=hi.map av:=by
  cases hi with
  | none=>rfl
  | some y=>simp only[Option.map_some];rw[hav y (by rw[heq];simp[Op.operands])]
 rw[e1,e2,e3]
 exact h3 ob' (ha.mono hfp) _ hK
def app (dst:Option Nat)(v:AV)(w:W)(st:ASt):ASt:=⟨J3 st.tm dst v,wrL st.ob w⟩
def Look (ops:Array Oper)(o:Oper)(st st':ASt):Prop:=∀t∈o.looksAt ops,st'.tm.getD t .dead=st.tm.getD t .dead
structure StpE (cx:Cx)(ops:Array Oper)(o:Oper)(st:ASt)(e:List Nat×List Nat)(v:AV)(w:W):Prop where
 ee:e.1=QZ cx.np o st.tm
 wr :∀q∈w,q.1∈e.2
 sub :∀q∈w,q.1∈e.1
 go :∀st',Look ops o st st'->Agree e.1 st.ob st'.ob->∀K:ASt->Prop,K (app o.dst v w st')->Ln cx ops o st' K
theorem VE {ops:Array Oper}{o:Oper}{st st':ASt}(h:Look ops o st st') :∀x∈o.op.operands.toList,evO st'.tm x=evO st.tm x:=by
 intro x hx
 cases x with
 | tmp t=>exact h t (List.mem_append_left _ (List.mem_filterMap.2 ⟨.tmp t,hx,rfl⟩))
 | _=>rfl
theorem K0 {α β:Type}{f g:α->List β} :∀{l:List α},(∀x∈l,f x=g x)->l.flatMap f=l.flatMap g
 | [],_=>rfl
 | x::l,h=>by
  simp only[List.flatMap_cons]
  rw[h x (by simp),K0 fun y hy=>h y (by simp[hy])]
theorem be {np:Nat}{ops:Array Oper}{o:Oper}{st st':ASt}(h:Look ops o st st'):QZ np o st'.tm=QZ np o st.tm:=by
 unfold QZ
 congr 1
 refine K0 fun x hx=>?_
 have hm:x∈o.op.operands.toList:=by
  unfold Ql at hx
  split at hx
  all_goals first
   | (simp at hx;done)
   | exact hx
 rw[VE h x hm]
theorem Look.trans {ops:Array Oper}{o:Oper}{a b c:ASt}(h:Look ops o a b)(k:Look ops o b c):Look ops o a c:=fun t ht=>(k t ht).trans (h t ht)
theorem Agree.trans {rs:List Nat}{a b c:List (Option OB)}(h:Agree rs a b)(k:Agree rs b c):Agree rs a c:=fun t ht=>(k t ht).trans (h t ht)
theorem Look.symm {ops:Array Oper}{o:Oper}{a b:ASt}(h:Look ops o a b):Look ops o b a:=fun t ht=>(h t ht).symm
theorem Agree.symm {rs:List Nat}{a b:List (Option OB)}(h:Agree rs a b):Agree rs b a:=fun t ht=>(h t ht).symm
theorem StpE.move {cx:Cx}{ops:Array Oper}{o:Oper}{st st2:ASt}{e:List Nat×List Nat}{v:AV}{w:W}(h:StpE cx ops o st e v w)(hl:Look ops o st st2)(ha:Agree e.1 st.ob st2.ob):StpE cx ops o st2 e v w:=
 ⟨by rw[be hl];exact h.ee,h.wr,h.sub,fun st' hl' ha' K hK=>h.go st' (hl.trans hl') (ha.trans ha') K hK⟩
theorem Yi {tm:List AV}{t:Nat}{a:AV}(h:tm.getD t .dead=a):tm.set t a=tm:=by
 by_cases ht:t<tm.length
 ·have:tm[t]=a:=by simpa[ht] using h
  rw[<- this];exact List.set_getElem_self ht
 exact List.set_eq_of_length_le (by omega)
theorem Z8 {ops:Array Oper}{o:Oper}{tm:List AV}{yes no:List AV->Prop}(h:JD ops o tm yes no) :
  (yes tm/\∀tm' yes' no',(∀t∈o.looksAt ops,tm'.getD t .dead=tm.getD t .dead)->yes' tm'->JD ops o tm' yes' no') \/
  (no tm/\∀tm' yes' no',(∀t∈o.looksAt ops,tm'.getD t .dead=tm.getD t .dead)->no' tm'->JD ops o tm' yes' no'):=by
 unfold JD at h ⊢
 cases hg:o.guard with
 | none=>simp only[hg] at h ⊢;exact .inl ⟨h,fun _ _ _ _ hy=>hy⟩
 | some g=>
  obtain⟨j,want⟩:=g
  simp only[hg] at h ⊢
  cases hd:(ops[j]?).bind (·.dst) with
  | none=>simp only[hd] at h
  | some t=>
   simp only[hd] at h ⊢
   have hm:t∈o.looksAt ops:=List.mem_append_right _ (by rw[hg];simp[hd])
   split at h
   ·rename_i b hb
    have hs :∀{tm':List AV},tm'.getD t .dead=tm.getD t .dead->tm'.set t (.b b)=tm':=fun hq=>Yi (hq.trans hb)
    have hs0:=hs (tm':=tm) rfl
    cases b<;>cases want<;>simp only[N4,GN] at h<;>rw[hs0] at h
    ·exact .inl ⟨h,fun tm' yes' no' hl hy=>by rw[hl t hm,hb];simp only[N4,GN];rw[hs (hl t hm)];exact hy⟩
    ·exact .inr ⟨h,fun tm' yes' no' hl hy=>by rw[hl t hm,hb];simp only[N4,GN];rw[hs (hl t hm)];exact hy⟩
    ·exact .inr ⟨h,fun tm' yes' no' hl hy=>by rw[hl t hm,hb];simp only[N4,GN];rw[hs (hl t hm)];exact hy⟩
    exact .inl ⟨h,fun tm' yes' no' hl hy=>by rw[hl t hm,hb];simp only[N4,GN];rw[hs (hl t hm)];exact hy⟩
   ·rename_i vs hb
    exact .inr ⟨h,fun tm' yes' no' hl hy=>by rw[hl t hm,hb];exact hy⟩
   exact h.elim
theorem cI {cx:Cx}{ops:Array Oper}{o:Oper}{st:ASt}{K:ASt->Prop}(h:Ln cx ops o st K) :
  ∃v w,K (app o.dst v w st)/\StpE cx ops o st (QZ cx.np o st.tm,Zt cx.np o st.tm (app o.dst v w st).tm) v w:=by
 obtain⟨tm,ob⟩:=st
 simp only[Ln] at h
 rcases Z8 h with ⟨h,hg⟩|⟨h,hg⟩
 ·obtain⟨v,w,h1,h2,hos,hap,h3,h4⟩:=dy h
  rw[HC,QE] at h1
  refine⟨v,w,h1,rfl,fun q hq=>?_,h3,fun st' hl ha K hK=>?_⟩
  ·simp only[Zt]
   split
   ·rename_i hs
    split
    ·rename_i d hd
     split
     ·rename_i e
      have:=hos hs (by
       simp only[app,hd,J3,List.getD_eq_getElem?_getD] at e
       by_cases hlt:d<tm.length
       ·rw[List.getElem?_set_self (by simpa using hlt)] at e
        exact e
       rw[List.getElem?_eq_none (by simpa using hlt)] at e
       simp[AV.isOsl] at e)
      rw[this] at hq;simp at hq
     exact h3 q hq
    exact h3 q hq
   split
   ·split
    ·rename_i x hx;exact hap x hx q hq
    exact h3 q hq
   rename_i e;rw[h2 e] at hq;simp at hq
  obtain⟨tm',ob'⟩:=st'
  simp only[Ln]
  refine hg tm' _ _ hl (h4 _ ob' (VE hl) ha _ ?_)
  rw[HC,QE]
  exact hK
 rw[HC] at h
 refine⟨.tup [],[],h,rfl,fun q hq=>by simp at hq,fun q hq=>by simp at hq,fun st' hl ha K hK=>?_⟩
 obtain⟨tm',ob'⟩:=st'
 simp only[Ln]
 refine hg tm' _ _ hl ?_
 rw[HC]
 exact hK
def Run (cx:Cx)(ops:Array Oper)(f:Nat->List Nat×List Nat)(fin:ASt):List Nat->ASt->Prop
 | [],st=>st=fin
 | i::l,st=>∃o v w,ops[i]?=some o/\StpE cx ops o st (f i) v w/\Run cx ops f fin l (app o.dst v w st)
structure Free (ops:Array Oper)(f:Nat->List Nat×List Nat)(j i:Nat):Prop where
 apart :∀a b,ops[j]?=some a->ops[i]?=some b->a.apart ops b=true
 conf:(∀r∈(f j).2,r∉(f i).1)/\∀r∈(f j).1,r∉(f i).2
theorem Tm {tm:List AV}{d:Option Nat}{v:AV}{t:Nat}(h :∀x,d=some x->x≠t):(J3 tm d v).getD t .dead=tm.getD t .dead:=by
 cases d with
 | none=>rfl
 | some x=>
  simp only[J3,List.getD_eq_getElem?_getD]
  rw[List.getElem?_set_ne (h x rfl)]
theorem Of {r:Nat} :∀(w:W) (ob:List (Option OB)),(∀q∈w,q.1≠r)->(wrL ob w)[r]?=ob[r]?
 | [],ob,_=>rfl
 | (x,o)::w,ob,h=>by
  simp only[wrL]
  rw[Of w _ fun q hq=>h q (by simp[hq]),List.getElem?_set_ne (h (x,o) (by simp))]
theorem NI {r:Nat}{o:Option OB} :∀(w:W) (ob:List (Option OB)),(∀q∈w,q.1≠r)->wrL (ob.set r o) w=(wrL ob w).set r o
 | [],ob,_=>rfl
 | (x,y)::w,ob,h=>by
  simp only[wrL]
  rw[List.set_comm _ _ (Ne.symm (h (x,y) (by simp))),NI w _ fun q hq=>h q (by simp[hq])]
theorem WP :∀(w w':W) (ob:List (Option OB)),(∀q∈w,∀q'∈w',q.1≠q'.1)->wrL (wrL ob w) w'=wrL (wrL ob w') w
 | [],w',ob,_=>rfl
 | (x,y)::w,w',ob,h=>by
  simp only[wrL]
  rw[WP w w' _ fun q hq q' hq'=>h q (by simp[hq]) q' hq',NI w' ob fun q' hq'=>Ne.symm (h (x,y) (by simp) q' hq')]
theorem Y6 (tm:List AV){x y:Option Nat}(v u:AV)(h :∀d,x=some d->y≠some d):J3 (J3 tm x v) y u=J3 (J3 tm y u) x v:=by
 cases x with
 | none=>rfl
 | some d=>
  cases y with
  | none=>rfl
  | some e=>
   have hne:d≠e:=fun he=>h d rfl (he ▸ rfl)
   simp only[J3]
   rw[List.set_comm _ _ hne]
theorem XX {cx:Cx}{ops:Array Oper}{f:Nat->List Nat×List Nat}{fin:ASt}{i:Nat}{post:List Nat} :∀(pre:List Nat) {st:ASt},(∀j∈pre,Free ops f j i)->Run cx ops f fin (pre++i::post) st->
  ∃o v w,ops[i]?=some o/\StpE cx ops o st (f i) v w/\Run cx ops f fin (pre++post) (app o.dst v w st)
 | [],st,_,h=>h
 | j::pre,st,hf,h=>by
  obtain⟨a,va,wa,ha,sa,h⟩:=h
  obtain⟨b,vb,wb,hb,sb,h⟩:=XX pre (fun k hk=>hf k (by simp[hk])) h
  have hF:=hf j (by simp)
  obtain⟨p1,p2,p3⟩:=Oper.apart_spec (hF.apart a b ha hb)
  have lb:Look ops b st (app a.dst va wa st):=fun t ht=>Tm fun x hx e=>p1 x hx (e ▸ ht)
  have ab:Agree (f i).1 st.ob (app a.dst va wa st).ob:=fun r hr=>Of wa _ fun q hq e=>hF.conf.1 q.1 (sa.wr q hq) (e ▸ hr)
  have sb0:StpE cx ops b st (f i) vb wb:=sb.move lb.symm ab.symm
  have la:Look ops a st (app b.dst vb wb st):=fun t ht=>Tm fun x hx e=>p3 x hx (e ▸ ht)
  have aa:Agree (f j).1 st.ob (app b.dst vb wb st).ob:=fun r hr=>Of wb _ fun q hq e=>hF.conf.2 r hr (e ▸ sb.wr q hq)
  have sa':StpE cx ops a (app b.dst vb wb st) (f j) va wa:=sa.move la aa
  refine⟨b,vb,wb,hb,sb0,a,va,wa,ha,sa',?_⟩
  have he:app a.dst va wa (app b.dst vb wb st)=app b.dst vb wb (app a.dst va wa st):=by
   simp only[app]
   rw[Y6 st.tm va vb p2,WP wa wb]
   intro q hq q' hq' e
   exact hF.conf.1 q.1 (sa.wr q hq) (e ▸ sb.sub q' hq')
  rw[he]
  exact h
end Go.AX
end
section
namespace Go.AX
theorem VR :∀(l:List Oper) (done:List Oper) (acc:List (List Nat)),acc.length=done.length->
  (∀p (hp:p<done.length),(CS done[p]).all (fun j=>Nat.blt j p)=true->∀k∈acc.getD (acc.length-1-p) [],k∈CS done[p] \/∃q∈CS done[p],k∈acc.getD (acc.length-1-q) [])->
  (IQ l acc).length=(done++l).length/\∀p (hp:p<(done++l).length),(CS (done++l)[p]).all (fun j=>Nat.blt j p)=true->∀k∈(IQ l acc).getD ((IQ l acc).length-1-p) [],k∈CS (done++l)[p] \/∃q∈CS (done++l)[p],k∈(IQ l acc).getD ((IQ l acc).length-1-q) []
 | [],done,acc,hlen,h=>by simpa[IQ,hlen] using h
 | o::l,done,acc,hlen,h=>by
  simp only[IQ]
  have:=VR l (done++[o]) (((CS o).flatMap fun j=>j::acc.getD (acc.length-1-j) [])::acc) (by simp[hlen]) ?_
  ·simpa using this
  intro p hp hb k hk
  simp only[X11,X12,X13,Nat.zero_add] at hp
  have old :∀q,q<acc.length->(((CS o).flatMap fun j=>j::acc.getD (acc.length-1-j) [])::acc).getD ((((CS o).flatMap fun j=>j::acc.getD (acc.length-1-j) [])::acc).length-1-q) []=acc.getD (acc.length-1-q) []:=by
   intro q hq
   have:(((CS o).flatMap fun j=>j::acc.getD (acc.length-1-j) [])::acc).length-1-q=(acc.length-1-q)+1:=by simp only[X12];omega
   rw[this,List.getD_cons_succ]
  rcases Nat.lt_or_ge p done.length with hlt | hge
  ·rw[old p (by omega)] at hk
   have hb':(CS done[p]).all (fun j=>Nat.blt j p)=true:=by simpa[List.getElem_append_left hlt] using hb
   rw[List.getElem_append_left hlt]
   rcases h p hlt hb' k hk with h1 | ⟨q,h1,h2⟩
   ·exact .inl h1
   refine .inr ⟨q,h1,?_⟩
   have:=List.all_eq_true.1 hb' q h1
   have hqp:q<p:=by simpa using this
   rw[old q (by omega)]
   exact h2
  have hpe:p=done.length:=by omega
  subst hpe
  have hge':(done++[o])[done.length]'(by simp)=o:=by simp
  rw[hge'] at hb ⊢
  have:(((CS o).flatMap fun j=>j::acc.getD (acc.length-1-j) [])::acc).length-1-done.length=0:=by simp only[X12];omega
  rw[this,List.getD_cons_zero] at hk
  obtain⟨q,hq,hk⟩:=List.mem_flatMap.1 hk
  rcases List.mem_cons.1 hk with rfl | hk
  ·exact .inl hq
  refine .inr ⟨q,hq,?_⟩
  have:=List.all_eq_true.1 hb q hq
  have hqp:q<done.length:=by simpa using this
  rw[old q (by omega)]
  exact hk
theorem JG {ops:Array Oper}{p:Nat}{o:Oper}(ho:ops[p]?=some o)(hb:(CS o).all (fun j=>Nat.blt j p)=true){k:Nat}(hk:k∈GV ops p) :
  k∈CS o \/∃q∈CS o,k∈GV ops q:=by
 obtain⟨h1,h2⟩:=VR ops.toList [] [] rfl (fun p hp=>by simp at hp)
 obtain⟨hp,hpo⟩:=Array.getElem?_eq_some_iff.1 ho
 simp only[List.nil_append,Array.length_toList] at h1 h2
 have:=h2 p (by simpa using hp)
 simp only[Array.getElem_toList,hpo,h1] at this
 unfold GV at hk ⊢
 exact this hb k hk
theorem TQ {ops:Array Oper}{f:Nat->List Nat×List Nat}{i:Nat}{fp wr:List Nat} :∀(n j:Nat),F9.conf ops i fp wr j ((List.range' j n).map f)=true->
  ∀k,j<=k->k<j+n->i∈GV ops k\/((∀r∈wr,r∉(f k).1)/\∀r∈fp,r∉(f k).2)
 | 0,j,_,k,h1,h2=>by omega
 | n+1,j,h,k,h1,h2=>by
  simp only[List.range'_succ,List.map_cons,F9.conf] at h
  rw[show f j=((f j).1,(f j).2) from rfl] at h
  simp only[X27,Bool.or_eq_true] at h
  rcases Nat.eq_or_lt_of_le h1 with rfl | hlt
  ·rcases h.1 with h0 | h0
   ·exact .inl (by simpa using h0)
   refine .inr ⟨fun r hr=>?_,fun r hr=>?_⟩
   ·have:=List.all_eq_true.1 h0.1 r hr
    simpa using this
   have:=List.all_eq_true.1 h0.2 r hr
   simpa using this
  exact TQ n (j+1) h.2 k (by omega) (by omega)
theorem J9 {ops:Array Oper}{f:Nat->List Nat×List Nat} :∀(n i:Nat),F9 ops i ((List.range' i n).map f)=true->
  ∀j k,i<=j->j<k->k<i+n->j∈GV ops k\/((∀r∈(f j).2,r∉(f k).1)/\∀r∈(f j).1,r∉(f k).2)
 | 0,i,_,j,k,h1,h2,h3=>by omega
 | n+1,i,h,j,k,h1,h2,h3=>by
  simp only[List.range'_succ,List.map_cons] at h
  rw[show f i=((f i).1,(f i).2) from rfl] at h
  simp only[F9,X27] at h
  rcases Nat.eq_or_lt_of_le h1 with rfl | hlt
  ·exact TQ n (i+1) h.1 k (by omega) (by omega)
  exact J9 n (i+1) h.2 j k (by omega) h2 (by omega)
theorem OY {cx:Cx}{ops:Array Oper} :∀(os:List Oper) (i:Nat) (evs:List (List Nat×List Nat)) {st:ASt} {K:List (List Nat×List Nat)->ASt->Prop},
  (∀k (hk:k<os.length),ops[i+k]?=some os[k])->Rb cx ops os evs st K->
  ∃(es:List (List Nat×List Nat)) (fin:ASt),es.length=os.length/\K (evs.reverse++es) fin/\∀f:Nat->List Nat×List Nat,(∀k (hk:k<es.length),f (i+k)=es[k])->Run cx ops f fin (List.range' i os.length) st
 | [],i,evs,st,K,_,h=>⟨[],st,rfl,by simpa[Rb] using h,fun f _=>rfl⟩
 | o::os,i,evs,st,K,hi,h=>by
  have h:Ln cx ops o st fun st'=>Rb cx ops os ((QZ cx.np o st.tm,Zt cx.np o st.tm st'.tm)::evs) st' K:=by
   obtain⟨tm,ob⟩:=st;exact h
  obtain⟨v,w,h,hs⟩:=cI h
  obtain⟨es,fin,h1,h2,h3⟩:=OY os (i+1) _ (fun k hk=>by
   have:=hi (k+1) (by simpa using hk)
   rw[show i+1+k=i+(k+1) by omega,this];rfl) h
  refine⟨(QZ cx.np o st.tm,Zt cx.np o st.tm (app o.dst v w st).tm)::es,fin,by simp[h1],by simpa using h2,fun f hf=>?_⟩
  simp only[X12,List.range'_succ]
  refine⟨o,v,w,hi 0 (by simp),?_,h3 f fun k hk=>?_⟩
  ·have:=hf 0 (by simp)
   simp only[Nat.add_zero,List.getElem_cons_zero] at this
   rw[this];exact hs
  have:=hf (k+1) (by simpa using hk)
  rw[show i+1+k=i+(k+1) by omega,this];rfl
theorem Dw {ops:Array Oper}(h:Ha ops=true){i:Nat}{o:Oper}(ho:ops[i]?=some o) :
  (CS o).all (fun j=>Nat.blt j i)=true/\∀j,j<i->j∈GV ops i \/∀q,ops[j]?=some q->q.apart ops o=true:=by
 obtain⟨hi,_⟩:=Array.getElem?_eq_some_iff.1 ho
 have h1:=List.all_eq_true.1 h i (List.mem_range.2 hi)
 simp only[ho,X27] at h1
 refine⟨h1.1.1,fun j hj=>?_⟩
 have h2:=List.all_eq_true.1 h1.2 j (List.mem_range.2 hj)
 simp only[Bool.or_eq_true] at h2
 rcases h2 with h2 | h2
 ·exact .inl (by simpa using h2)
 refine .inr fun q hq=>?_
 simpa[hq] using h2
theorem Jl {ops:Array Oper}(hd:Ha ops=true){listed:Nat->Prop}(hdown :∀i o,ops[i]?=some o->listed i->∀j∈CS o,listed j) :
  ∀(n i:Nat),i<n->i<ops.size->listed i->∀k∈GV ops i,listed k
 | 0,i,h,_,_=>by omega
 | n+1,i,h,hi,hl=>by
  intro k hk
  have ho:ops[i]?=some ops[i]:=by simp[hi]
  obtain⟨hb,_⟩:=Dw hd ho
  rcases JG ho hb hk with h1 | ⟨q,h1,h2⟩
  ·exact hdown i _ ho hl k h1
  have:=List.all_eq_true.1 hb q h1
  have hq:q<i:=by simpa using this
  exact Jl hd hdown n q (by omega) (by omega) (hdown i _ ho hl q h1) k h2
theorem I8 {ops:Array Oper}{listed:Array Bool}{i:Nat}(h:i∈Region.ready .any ops listed) :
  i<ops.size/\listed.getD i true=false/\∃o,ops[i]?=some o/\∀j∈CS o,listed.getD j false=true:=by
 unfold Region.ready at h
 rw[List.mem_filter,List.mem_range] at h
 obtain⟨hi,h⟩:=h
 have ho:ops[i]?=some ops[i]:=by simp[hi]
 simp only[X27,ho,Option.map_some,Option.getD_some] at h
 refine⟨hi,by simpa using h.1,_,ho,fun j hj=>?_⟩
 unfold CS at hj
 obtain⟨e,he,rfl⟩:=List.mem_map.1 hj
 obtain⟨he1,he2⟩:=List.mem_filter.1 he
 have:=Array.all_eq_true'.1 h.2 e (by simpa using he1)
 simpa[he2] using this
theorem mem_ready {ops:Array Oper}{listed:Array Bool}{i:Nat}{o:Oper}(ho:ops[i]?=some o)(hl:listed.getD i true=false)(hp :∀j∈CS o,listed.getD j false=true):i∈Region.ready .any ops listed:=by
 obtain⟨hi,_⟩:=Array.getElem?_eq_some_iff.1 ho
 unfold Region.ready
 rw[List.mem_filter,List.mem_range]
 refine⟨hi,?_⟩
 simp only[X27,ho,Option.map_some,Option.getD_some]
 refine⟨by simp[hl],Array.all_eq_true'.2 fun e he=>?_⟩
 cases hb:Region.binds .any e with
 | false=>rfl
 | true=>
  simp only[Bool.not_true,Bool.false_or]
  exact hp e.on (List.mem_map.2 ⟨e,List.mem_filter.2 ⟨by simpa using he,hb⟩,rfl⟩)
section
variable {P:Program} {E:Env} {tr:Trk}
theorem TF {cx:Cx}(hT:TabOk P cx.T)(hC:P7 E.wl P cx){ops:Array Oper}{f:Nat->List Nat×List Nat}{fin:ASt}{Q:Exit->Act->World->Prop}
  (hd:Ha ops=true) (hc :∀j k,j<k->k<ops.size->j∈GV ops k\/((∀r∈(f j).2,r∉(f k).1)/\∀r∈(f j).1,r∉(f k).2))
  (hQ :∀a w,RR E tr fin a w->Q .normal a w) :∀(fuel:Nat) (L:List Nat) (listed:Array Bool) {st:ASt} {a:Act} {w:World},
  L.length=fuel->listed.size=ops.size->L.Pairwise (·<·)->(∀k,k∈L↔k<ops.size/\listed.getD k true=false)->(∀i o,ops[i]?=some o->listed.getD i false=true->∀j∈CS o,listed.getD j false=true)->
  Run cx ops f fin L st->RR E tr st a w->wpAny P .any ops Q fuel listed a w
 | 0,L,listed,st,a,w,hL,hsz,hp,hm,hdown,hrun,hR=>by
  have:L=[]:=List.length_eq_zero_iff.1 hL
  subst this
  refine⟨?_,hQ _ _ (by rw[<- (show st=fin from hrun)];exact hR)⟩
  cases hr:Region.ready .any ops listed with
  | nil=>rfl
  | cons i l=>
   obtain⟨h1,h2,_⟩:=I8 (i:=i) (by rw[hr];simp)
   exact absurd ((hm i).2 ⟨h1,h2⟩) (by simp)
 | fuel+1,L,listed,st,a,w,hL,hsz,hp,hm,hdown,hrun,hR=>by
  have gd :∀k,k<ops.size->listed.getD k true=listed.getD k false:=fun k hk=>by simp[Array.getD,hsz,hk]
  refine⟨fun hr=>?_,fun i hi=>?_⟩
  ·exfalso
   cases L with
   | nil=>simp at hL
   | cons i l=>
    obtain⟨h1,h2⟩:=(hm i).1 (by simp)
    have ho:ops[i]?=some ops[i]:=by simp[h1]
    have:i∈Region.ready .any ops listed:=mem_ready ho h2 fun j hj=>by
     obtain⟨hb,_⟩:=Dw hd ho
     have:=List.all_eq_true.1 hb j hj
     have hji:j<i:=by simpa using this
     cases hx:listed.getD j false with
     | true=>rfl
     | false=>
      have hjL:=(hm j).2 ⟨by omega,by rw[gd j (by omega)];exact hx⟩
      rcases List.mem_cons.1 hjL with e | e
      ·omega
      have:=(List.pairwise_cons.1 hp).1 j e
      omega
    rw[hr] at this
    simp at this
  obtain⟨h1,h2,o,ho,h3⟩:=I8 hi
  have hiL:=(hm i).2 ⟨h1,h2⟩
  obtain⟨pre,post,rfl⟩:=List.append_of_mem hiL
  obtain⟨hp1,hp2,hp3⟩:=List.pairwise_append.1 hp
  have hfree :∀j∈pre,Free ops f j i:=by
   intro j hj
   have hji:j<i:=hp3 j hj i (by simp)
   have hnl:¬ listed.getD j false=true:=by
    obtain⟨q1,q2⟩:=(hm j).1 (by simp[hj])
    rw[gd j q1] at q2
    rw[q2];simp
   have hna:j∉GV ops i:=by
    intro hja
    obtain⟨hb,_⟩:=Dw hd ho
    rcases JG ho hb hja with e | ⟨q,e1,e2⟩
    ·exact hnl (h3 j e)
    have:=List.all_eq_true.1 hb q e1
    have hq:q<i:=by simpa using this
    exact hnl (Jl hd (listed:=fun k=>listed.getD k false=true) hdown (q+1) q (by omega) (by omega) (h3 q e1) j e2)
   refine⟨fun x y hx hy=>?_,?_⟩
   ·rw[ho] at hy
    cases hy
    exact ((Dw hd ho).2 j hji).resolve_left hna x hx
   exact (hc j i hji h1).resolve_left hna
  obtain⟨o',v,wr,ho',hs,hrun'⟩:=XX pre hfree hrun
  rw[ho] at ho'
  cases ho'
  have hstep:Ln cx ops o st fun st'=>Run cx ops f fin (pre++post) st':=hs.go st (fun _ _=>rfl) (fun _ _=>rfl) _ hrun'
  have hnext :∀st' a' w',Run cx ops f fin (pre++post) st'->RR E tr st' a' w'->wpAny P .any ops Q fuel (listed.setIfInBounds i true) a' w':=by
   intro st' a' w' hr' hR'
   have gs :∀k b,(listed.setIfInBounds i true).getD k b=if k=i then true else listed.getD k b:=by
    intro k b
    by_cases hk:k=i
    ·subst hk;simp[Array.getD,hsz,h1]
    have:¬ i=k:=fun e=>hk e.symm
    simp only[hk,if_false,Array.getD,Array.size_setIfInBounds]
    split
    ·rename_i hlt
     exact Array.getElem_setIfInBounds_ne hlt this
    rfl
   refine TF hT hC hd hc hQ fuel (pre++post) (listed.setIfInBounds i true) (by simp at hL ⊢;omega) (by simpa using hsz) ?_ (fun k=>?_) ?_ hr' hR'
   ·exact List.pairwise_append.2 ⟨hp1,(List.pairwise_cons.1 hp2).2,fun x hx y hy=>hp3 x hx y (by simp[hy])⟩
   ·rw[gs]
    have:=hm k
    by_cases hk:k=i
    ·subst hk
     simp only[if_true]
     constructor
     ·intro hh
      rcases X23.1 hh with hh | hh
      ·exact absurd (hp3 k hh k (by simp)) (by omega)
      exact absurd ((List.pairwise_cons.1 hp2).1 k hh) (by omega)
     intro hh;simp at hh
    simp only[hk,if_false]
    rw[<- this]
    simp[hk]
   intro j q hq hl p hpq
   rw[gs] at hl ⊢
   split
   ·rfl
   by_cases hj:j=i
   ·subst hj
    rw[ho] at hq;cases hq
    exact h3 p hpq
   simp only[hj,if_false] at hl
   exact hdown j q hq hl p hpq
  unfold wpOp
  simp only[ho]
  have:=Qn (Q:=Q) hT hC hstep hR (next:=wpAny P .any ops Q fuel (listed.setIfInBounds i true)) hnext
  split
  ·rename_i hw;rw[if_pos hw] at this;exact .inl this
  rename_i hw;rw[if_neg hw] at this;exact this
theorem RP {cx:Cx}(hT:TabOk P cx.T)(hC:P7 E.wl P cx){ops:Array Oper}{f:Nat->List Nat×List Nat}{fin:ASt}{Q:Exit->Act->World->Prop}{t:Nat}(ht:t+1=ops.size)(hanc :∀j,j<t->j∈GV ops t)
  (hd:Ha ops=true) (hc :∀j k,j<k->k<t->j∈GV ops k\/((∀r∈(f j).2,r∉(f k).1)/\∀r∈(f j).1,r∉(f k).2))
  (hQ :∀a w,RR E tr fin a w->wpOp P ops Q t (Q .normal) a w) :∀(fuel:Nat) (L:List Nat) (listed:Array Bool) {st:ASt} {a:Act} {w:World},
  L.length=fuel->listed.size=ops.size->L.Pairwise (·<·)->listed.getD t true=false->(∀k,k∈L↔k<t/\listed.getD k true=false)->(∀i o,ops[i]?=some o->listed.getD i false=true->∀j∈CS o,listed.getD j false=true)->
  Run cx ops f fin L st->RR E tr st a w->wpAny P .any ops Q (fuel+1) listed a w
 | 0,L,listed,st,a,w,hL,hsz,hp,htl,hm,hdown,hrun,hR=>by
  have:L=[]:=List.length_eq_zero_iff.1 hL
  subst this
  have gd :∀k,k<ops.size->listed.getD k true=listed.getD k false:=fun k hk=>by simp[Array.getD,hsz,hk]
  have hall :∀k,k<t->listed.getD k true=true:=by
   intro k hk
   cases hx:listed.getD k true with
   | true=>rfl
   | false=>exact absurd ((hm k).2 ⟨hk,hx⟩) (by simp)
  have hot:ops[t]?=some (ops[t]'(by omega)):=by simp[show t<ops.size by omega]
  have hpt :∀j∈CS (ops[t]'(by omega)),listed.getD j false=true:=by
   intro j hj
   obtain⟨hb,_⟩:=Dw hd hot
   have:=List.all_eq_true.1 hb j hj
   have hji:j<t:=by simpa using this
   rw[<- gd j (by omega)];exact hall j hji
  have htr:t∈Region.ready .any ops listed:=mem_ready hot htl hpt
  refine⟨fun hr=>?_,fun i hi=>?_⟩
  ·rw[hr] at htr;simp at htr
  obtain⟨h1,h2,_⟩:=I8 hi
  have hit:i=t:=by
   refine Nat.le_antisymm (by omega) (Nat.le_of_not_lt fun hlt=>?_)
   rw[hall i hlt] at h2
   simp at h2
  subst hit
  refine wpOp_mono (fun a' w' hq=>⟨?_,hq⟩) (hQ a w (by rw[<- (show st=fin from hrun)];exact hR))
  cases hr:Region.ready .any ops (listed.setIfInBounds i true) with
  | nil=>rfl
  | cons k l=>
   exfalso
   obtain⟨h3,h4,_⟩:=I8 (i:=k) (by rw[hr];simp)
   by_cases hk:k=i
   ·subst hk;simp[Array.getD,hsz,h1] at h4
   have h5:(listed.setIfInBounds i true).getD k true=listed.getD k true:=by
    have:¬ i=k:=fun e=>hk e.symm
    simp only[Array.getD,Array.size_setIfInBounds]
    split
    ·rename_i hlt
     exact Array.getElem_setIfInBounds_ne hlt this
    rfl
   rw[h5,hall k (by omega)] at h4
   simp at h4
 | fuel+1,L,listed,st,a,w,hL,hsz,hp,htl,hm,hdown,hrun,hR=>by
  have gd :∀k,k<ops.size->listed.getD k true=listed.getD k false:=fun k hk=>by simp[Array.getD,hsz,hk]
  refine⟨fun hr=>?_,fun i hi=>?_⟩
  ·exfalso
   cases L with
   | nil=>simp at hL
   | cons i l=>
    obtain⟨h1',h2⟩:=(hm i).1 (by simp)
    have h1:i<ops.size:=by omega
    have ho:ops[i]?=some ops[i]:=by simp[h1]
    have:i∈Region.ready .any ops listed:=mem_ready ho h2 fun j hj=>by
     obtain⟨hb,_⟩:=Dw hd ho
     have:=List.all_eq_true.1 hb j hj
     have hji:j<i:=by simpa using this
     cases hx:listed.getD j false with
     | true=>rfl
     | false=>
      have hjL:=(hm j).2 ⟨by omega,by rw[gd j (by omega)];exact hx⟩
      rcases List.mem_cons.1 hjL with e | e
      ·omega
      have:=(List.pairwise_cons.1 hp).1 j e
      omega
    rw[hr] at this
    simp at this
  obtain⟨h1,h2,o,ho,h3⟩:=I8 hi
  have hit:i≠t:=by
   intro e
   subst e
   cases L with
   | nil=>simp at hL
   | cons j l=>
    obtain⟨q1,q2⟩:=(hm j).1 (by simp)
    have hja:=hanc j q1
    obtain⟨hb,_⟩:=Dw hd ho
    rw[gd j (by omega)] at q2
    rcases JG ho hb hja with e | ⟨q,e1,e2⟩
    ·rw[h3 j e] at q2;simp at q2
    have:=List.all_eq_true.1 hb q e1
    have hq:q<i:=by simpa using this
    have:=Jl hd (listed:=fun k=>listed.getD k false=true) hdown (q+1) q (by omega) (by omega) (h3 q e1) j e2
    rw[this] at q2;simp at q2
  have hlt:i<t:=by omega
  have hiL:=(hm i).2 ⟨hlt,h2⟩
  obtain⟨pre,post,rfl⟩:=List.append_of_mem hiL
  obtain⟨hp1,hp2,hp3⟩:=List.pairwise_append.1 hp
  have hfree :∀j∈pre,Free ops f j i:=by
   intro j hj
   have hji:j<i:=hp3 j hj i (by simp)
   have hnl:¬ listed.getD j false=true:=by
    obtain⟨q1,q2⟩:=(hm j).1 (by simp[hj])
    rw[gd j (by omega)] at q2
    rw[q2];simp
   have hna:j∉GV ops i:=by
    intro hja
    obtain⟨hb,_⟩:=Dw hd ho
    rcases JG ho hb hja with e | ⟨q,e1,e2⟩
    ·exact hnl (h3 j e)
    have:=List.all_eq_true.1 hb q e1
    have hq:q<i:=by simpa using this
    exact hnl (Jl hd (listed:=fun k=>listed.getD k false=true) hdown (q+1) q (by omega) (by omega) (h3 q e1) j e2)
   refine⟨fun x y hx hy=>?_,?_⟩
   ·rw[ho] at hy
    cases hy
    exact ((Dw hd ho).2 j hji).resolve_left hna x hx
   exact (hc j i hji hlt).resolve_left hna
  obtain⟨o',v,wr,ho',hs,hrun'⟩:=XX pre hfree hrun
  rw[ho] at ho'
  cases ho'
  have hstep:Ln cx ops o st fun st'=>Run cx ops f fin (pre++post) st':=hs.go st (fun _ _=>rfl) (fun _ _=>rfl) _ hrun'
  have hnext :∀st' a' w',Run cx ops f fin (pre++post) st'->RR E tr st' a' w'->wpAny P .any ops Q (fuel+1) (listed.setIfInBounds i true) a' w':=by
   intro st' a' w' hr' hR'
   have gs :∀k b,(listed.setIfInBounds i true).getD k b=if k=i then true else listed.getD k b:=by
    intro k b
    by_cases hk:k=i
    ·subst hk;simp[Array.getD,hsz,h1]
    have:¬ i=k:=fun e=>hk e.symm
    simp only[hk,if_false,Array.getD,Array.size_setIfInBounds]
    split
    ·rename_i hlt
     exact Array.getElem_setIfInBounds_ne hlt this
    rfl
   refine RP hT hC ht hanc hd hc hQ fuel (pre++post) (listed.setIfInBounds i true) (by simp at hL ⊢;omega) (by simpa using hsz) ?_ (by rw[gs,if_neg (Ne.symm hit)];exact htl) (fun k=>?_) ?_ hr' hR'
   ·exact List.pairwise_append.2 ⟨hp1,(List.pairwise_cons.1 hp2).2,fun x hx y hy=>hp3 x hx y (by simp[hy])⟩
   ·rw[gs]
    have:=hm k
    by_cases hk:k=i
    ·subst hk
     simp only[if_true]
     constructor
     ·intro hh
      rcases X23.1 hh with hh | hh
      ·exact absurd (hp3 k hh k (by simp)) (by omega)
      exact absurd ((List.pairwise_cons.1 hp2).1 k hh) (by omega)
     intro hh;simp at hh
    simp only[hk,if_false]
    rw[<- this]
    simp[hk]
   intro j q hq hl p hpq
   rw[gs] at hl ⊢
   split
   ·rfl
   by_cases hj:j=i
   ·subst hj
    rw[ho] at hq;cases hq
    exact h3 p hpq
   simp only[hj,if_false] at hl
   exact hdown j q hq hl p hpq
  unfold wpOp
  simp only[ho]
  have:=Qn (Q:=Q) hT hC hstep hR (next:=wpAny P .any ops Q (fuel+1) (listed.setIfInBounds i true)) hnext
  split
  ·rename_i hw;rw[if_pos hw] at this;exact .inl this
  rename_i hw;rw[if_neg hw] at this;exact this
theorem SA {wl:WL}{cx:Cx}(hT:TabOk P cx.T)(hC:P7 wl P cx)(hm:P.follows .mixedOrders=true) :∀(E:Env),E.wl=wl->∀(tr:Trk) (id:Nat) (ops:Array Oper) (st:ASt) (a:Act) (w:World) (K:ASt->Prop) (Q:Exit->Act->World->Prop),tr.np=cx.np->
 Ha ops=true->Rb cx ops ops.toList [] st (fun evs st'=>F9 ops 0 evs=true/\K st')->RR E tr st a w->(∀st' a' w',K st'->RR E tr st' a' w'->Q .normal a' w')->(Code.region id ops true).wp P Q a w:=by
 intro E hwl tr id ops st a w K Q hnp hd h hR hQ
 subst hwl
 obtain⟨es,fin,hlen,⟨hconf,hK⟩,hrun⟩:=OY ops.toList 0 [] (fun k hk=>by simp at hk;simp[hk]) h
 have hrun:=hrun (fun k=>es.getD k default) fun k hk=>by simp[hk]
 simp only[Array.length_toList] at hlen hrun
 have hes:es=(List.range' 0 ops.size).map fun k=>es.getD k default:=by
  apply List.ext_getElem
  ·simp[hlen]
  intro k h1 h2;simp[h1]
 rw[List.reverse_nil,List.nil_append,hes] at hconf
 have hspec:=J9 ops.size 0 hconf
 refine wp_region_any hm ?_
 obtain⟨S,φ,hR1,htr⟩:=hR
 obtain⟨md,kd⟩:=hR1.mem.drew
 have hR':RR E tr st a w.drew:=⟨S,φ,⟨hR1.sz,fun i hi=>⟨kd.rep (hR1.tm i hi).2 (hR1.tm i hi).1,(hR1.tm i hi).2⟩,hR1.df,md⟩,htr⟩
 refine TF hT hC hd (f:=fun k=>es.getD k default) (fun j k h1 h2=>hspec j k (by omega) h1 (by omega)) (fun a w hR=>hQ fin a w hK hR) ops.size (List.range' 0 ops.size) _ (by simp) (by simp) List.pairwise_lt_range' (fun k=>?_) ?_ hrun hR'
 ·simp[Array.getD]
 intro i o ho hl
 simp[Array.getD] at hl
theorem Ta :∀(l:List Oper),(KX l).length=l.length-1/\∀k (hk:k<(KX l).length),∃hk':k<l.length,(KX l)[k]=l[k]
 | []=>⟨rfl,fun k hk=>by simp[KX] at hk⟩
 | [_]=>⟨rfl,fun k hk=>by simp[KX] at hk⟩
 | o::p::l=>by
  obtain⟨h1,h2⟩:=Ta (p::l)
  refine⟨by simp only[KX,X12] at *;omega,fun k hk=>?_⟩
  cases k with
  | zero=>exact⟨by simp,rfl⟩
  | succ k=>
   obtain⟨q1,q2⟩:=h2 k (by simpa[KX] using hk)
   exact⟨by simpa using q1,by simpa[KX] using q2⟩
theorem TY {cx:Cx}{ops:Array Oper}{st:ASt}{K:ASt->Prop} :∀{l:List Oper},aV cx ops st K l->∃o,l[l.length-1]?=some o/\YV cx ops o st K
 | [],h=>h.elim
 | [o],h=>⟨o,rfl,h⟩
 | _::p::l,h=>by
  obtain⟨o,h1,h2⟩:=TY (l:=p::l) h
  exact⟨o,by simpa using h1,h2⟩
theorem NA {wl:WL}{cx:Cx}(hT:TabOk P cx.T)(hC:P7 wl P cx)(hm:P.follows .mixedOrders=true):U4 wl P cx:=by
 intro E hwl tr id ops st a w K Q hnp h hR hQ
 rcases h with ⟨hd,h⟩|⟨⟨hd,ht⟩,h⟩
 ·exact SA hT hC hm E hwl tr id ops st a w K Q hnp hd h hR hQ
 subst hwl
 simp only[Uu,X27,List.all_eq_true,List.mem_range] at ht
 obtain⟨ht0,hanc⟩:=ht
 have hpos:0<ops.size:=X29 ht0
 obtain⟨il,ig⟩:=Ta ops.toList
 simp only[Array.length_toList] at il
 obtain⟨es,fin,hlen,⟨hconf,hK⟩,hrun⟩:=OY (KX ops.toList) 0 [] (fun k hk=>by
  obtain⟨q1,q2⟩:=ig k hk
  rw[q2]
  simp only[Array.length_toList] at q1
  simp[q1]) h
 have hrun:=hrun (fun k=>es.getD k default) fun k hk=>by simp[hk]
 rw[il] at hlen hrun
 have hes:es=(List.range' 0 (ops.size-1)).map fun k=>es.getD k default:=by
  apply List.ext_getElem
  ·simp[hlen]
  intro k h1 h2;simp[h1]
 rw[List.reverse_nil,List.nil_append,hes] at hconf
 have hspec:=J9 (ops.size-1) 0 hconf
 obtain⟨o,ho,hlast⟩:=TY hK
 simp only[Array.length_toList] at ho
 have ho:ops[ops.size-1]?=some o:=by simpa using ho
 refine wp_region_any hm ?_
 obtain⟨S,φ,hR1,htr⟩:=hR
 obtain⟨md,kd⟩:=hR1.mem.drew
 have hR':RR E tr st a w.drew:=⟨S,φ,⟨hR1.sz,fun i hi=>⟨kd.rep (hR1.tm i hi).2 (hR1.tm i hi).1,(hR1.tm i hi).2⟩,hR1.df,md⟩,htr⟩
 have key:=RP (t:=ops.size-1) (Q:=Q) (fin:=fin) hT hC (by omega) (fun j hj=>by simpa using hanc j hj) hd (f:=fun k=>es.getD k default) (fun j k h1 h2=>hspec j k (by omega) h1 (by omega)) (fun a w hR=>?_) (ops.size-1) (List.range' 0 (ops.size-1)) (Array.replicate ops.size false) (by simp) (by simp) List.pairwise_lt_range' (by simp[Array.getD,show ops.size-1<ops.size by omega]) (fun k=>?_) (fun i o ho hl=>?_) hrun hR'
 ·rw[show ops.size-1+1=ops.size by omega] at key
  exact key
 ·unfold wpOp
  simp only[ho]
  have:=PR (Q:=Q) hT hC hnp hlast hR (next:=Q .normal) hQ
  split
  ·rename_i hw;rw[if_pos hw] at this;exact .inl this
  rename_i hw;rw[if_neg hw] at this;exact this
 ·rw[List.mem_range'_1]
  constructor
  ·rintro⟨_,hi⟩
   exact⟨by omega,by simp[Array.getD,show k<ops.size by omega]⟩
  rintro⟨hi,_⟩
  exact⟨by omega,by omega⟩
 simp[Array.getD] at hl
end
end Go.AX
end
section
namespace Go.AX
def aI:D->Value->Bool
 | .val (.int k n),.int k' n'=>decide (k=k')&&decide (n=n')
 | .val (.bool b),.bool b'=>b==b'
 | .val (.string s),.string s'=>Nat.beq s.data.toList.length 0&&Nat.beq s'.data.toList.length 0
 | .val (.pointer none),.pointer none=>true
 | .val .nilFunc,.nilFunc=>true
 | .val .nilIface,.nilIface=>true
 | .val (.map none),.map none=>true
 | .nil _,.slice none 0 0=>true
 | _,_=>false
theorem aZ {d:D}{v:Value}(h:aI d v=true):Il d v:=by
 unfold aI at h
 split at h
 ·simp only[X27,decide_eq_true_eq] at h
  obtain⟨rfl,rfl⟩:=h
  exact⟨rfl,rfl⟩
 ·have h:=eq_of_beq h
  subst h
  exact⟨rfl,rfl⟩
 ·rename_i s s'
  simp only[X27,Bq,List.length_eq_zero_iff] at h
  have e:s=s':=by
   cases s;cases s'
   congr
   apply Array.toList_inj.1
   rw[h.1,h.2]
  subst e
  exact⟨rfl,rfl⟩
 all_goals first | exact⟨rfl,rfl⟩|rfl | simp at h
def OF:List D->List Value->Bool
 | [],[]=>true
 | d::ds,v::vs=>aI d v&&OF ds vs
 | _,_=>false
theorem Tz :∀{ds:List D} {vs:List Value},OF ds vs=true->ds.length=vs.length/\∀j (hj:j<ds.length) v,vs[j]?=some v->Il ds[j] v
 | [],[],_=>⟨rfl,fun j hj=>by simp at hj⟩
 | d::ds,v::vs,h=>by
  simp only[OF,X27] at h
  obtain⟨h1,h2⟩:=Tz h.2
  refine⟨by simp[h1],fun j hj u hu=>?_⟩
  cases j with
  | zero=>
   simp only[List.getElem?_cons_zero,X24] at hu
   subst hu
   exact aZ h.1
  | succ j=>exact h2 j (by simpa using hj) u (by simpa using hu)
 | [],_::_,h=>by simp[OF] at h
 | _::_,[],h=>by simp[OF] at h
def fieldsB (P:Program):List Field->List (Nat×Nat×Nat)->Bool
 | [],[]=>true
 | f::fs,(o,s,t)::l=>Nat.beq f.offset o&&Nat.beq f.type t&&(match P.info? f.type with
  | some i=>Nat.beq i.size s
  | none => false) && !(f.name == "_") && fieldsB P fs l
 | _,_=>false
theorem Ry {P:Program} :∀{F:List Field} {l:List (Nat×Nat×Nat)},fieldsB P F l=true->
  F.map (fun f => (f.offset, (P.info? f.type).map (·.size), f.type)) = l.map (fun x => (x.1, some x.2.1, x.2.2)) ∧ ∀ f ∈ F, f.name ≠ "_"
 | [],[],_=>⟨rfl,fun f hf=>by simp at hf⟩
 | f::fs,(o,s,t)::l,h=>by
  simp only[fieldsB,X27,Bq] at h
  obtain⟨⟨⟨⟨h1,h2⟩,h3⟩,h4⟩,h5⟩:=h
  obtain⟨g1,g2⟩:=Ry h5
  refine⟨?_,fun g hg=>?_⟩
  ·simp only[List.map_cons,g1,List.cons.injEq,X26,and_true]
   refine⟨h1,?_,h2⟩
   split at h3
   ·rename_i i hi
    rw[hi]
    simpa using h3
   simp at h3
  rcases List.mem_cons.1 hg with rfl | hg
  ·simpa using h4
  exact g2 g hg
 | [],_::_,h=>by simp[fieldsB] at h
 | _::_,[],h=>by simp[fieldsB] at h
def aR (P:Program)(t:Nat)(k:TK):Bool:=match k,P.underlying t with
 | .bool,some .bool=>true
 | .int k,some (.int k')=>decide (k'=k)
 | .str,some .string=>true
 | .ptr,some (.pointer _)=>true
 | .fn,some (.func _ _ _)=>true
 | .slice e,some (.slice e')=>Nat.beq e' e
 | .arr n e,some (.array n' e')=>Nat.beq n' n&&Nat.beq e' e
 | .map k e,some (.map k' e')=>Nat.beq k' k&&Nat.beq e' e
 | .struct fs,some (.struct F)=>!P.stoodInHeld t&&!P.eqGuardType P.depth t&&fieldsB P F.toList fs
 | .other,_=>true
 | _,_=>false
theorem bP {P:Program}{t:Nat}{k:TK}(h:aR P t k=true):KindOk P t k:=by
 unfold aR at h
 split at h<;>simp only[KindOk]
 ·assumption
 ·rename_i hu;rw[hu,of_decide_eq_true h]
 ·assumption
 ·exact⟨_,by assumption⟩
 ·exact⟨_,_,_,by assumption⟩
 ·rename_i hu;rw[hu,X30 h]
 ·rename_i hu
  simp only[X27,Bq] at h
  rw[hu,h.1,h.2]
 ·rename_i hu
  simp only[X27,Bq] at h
  rw[hu,h.1,h.2]
 ·rename_i fs F hu
  simp only[X27,Bool.not_eq_true'] at h
  exact⟨h.1.1,h.1.2,F,hu,Ry h.2⟩
 simp at h
def dQ (k:TK)(z:Value):Bool:=match z,k.cls with
 | .agg _,some false=>false
 | .agg _,_=>true
 | _,some true=>false
 | _,_=>true
def tiB (P:Program)(t:Nat)(ti:TI):Bool:=match P.info? t with
 | some i=>(match i.zero with
  | some z=>Nat.beq i.size ti.size&&Nat.beq i.bytes ti.bytes&&Nat.beq ti.zero.length ti.size&&OF ti.zero z.cells.toList&&aR P t ti.kind&&dQ ti.kind z
  | none=>false)
 | none=>false
theorem dS {P:Program}{t:Nat}{ti:TI}(h:tiB P t ti=true):TiOk P t ti:=by
 unfold tiB at h
 split at h
 ·rename_i i hi
  split at h
  ·rename_i z hz
   simp only[X27,Bq] at h
   obtain⟨⟨⟨⟨⟨h1,h2⟩,h3⟩,h4⟩,h5⟩,h6⟩:=h
   obtain⟨g1,g2⟩:=Tz h4
   exact⟨⟨i,z,hi,h1,h2,hz,by rw[<- Array.length_toList,<- g1,h3],h3,fun j hj v hv=>g2 j hj v (by simpa using hv)⟩,bP h5,fun i' z' hi' hz'=>by
    rw[hi] at hi'
    obtain rfl:=X25 hi'
    rw[hz] at hz'
    obtain rfl:=X25 hz'
    refine⟨fun hc=>?_,fun hc cs e=>?_⟩
    ·cases z<;>first | exact⟨_,rfl⟩|(simp[dQ,hc] at h6)
    subst e;simp[dQ,hc] at h6⟩
  simp at h
 simp at h
def bv (P:Program):TT->Bool
 | .tip=>true
 | .node k v l r=>(v.kind.cls.isNone || tiB P k v)&&bv P l&&bv P r
theorem U7 {P:Program} :∀{T:TT},bv P T=true->TabOk P T
 | .tip,_=>fun t=>.inl rfl
 | .node k v l r,h=>fun t=>by
  simp only[bv,X27,Bool.or_eq_true] at h
  simp only[TT.get]
  cases hb:Nat.beq t k with
  | true=>
   have:=X30 hb
   subst this
   simp only
   rcases h.1.1 with h | h
   ·exact .inl (by simpa using h)
   exact .inr (dS h)
  | false=>
   simp only
   cases Nat.blt t k with
   | true=>exact U7 h.1.2 t
   | false=>exact U7 h.2 t
abbrev mcx (wl:WL)(P:Program)(T:TT)(keep:FuncId->List Bool)(inl:FuncId->Bool)(ex np:Nat):Cx:=⟨T,np,CallsOK wl P,keep,wl.G,inl,YO wl P,ex⟩
theorem dJ {wl:WL}{P:Program}{T:TT}(hT:TabOk P T)(hm:P.follows .mixedOrders=true)(keep:FuncId->List Bool)(inl:FuncId->Bool)(ex:Nat){f:FuncId}{fn:Func}{args:List AV}{objs:List OB}{res:AV}{objs':List OB}
  (hf : P.funcs[f]? = some fn) (hn : (fn.name == "runtime.NumGoroutine") = false) (h : ax (mcx wl P T keep inl ex objs.length) fn args objs fun r o => r = res ∧ o = objs') : CallsOK wl P f args objs res objs' :=
 XK (cx:=mcx wl P T keep inl ex objs.length) hT ⟨rfl,fun _ _ _ _ _ h=>h,fun _ _ _ _ h=>h⟩ (NA hT ⟨rfl,fun _ _ _ _ _ h=>h,fun _ _ _ _ h=>h⟩ hm) hf (by simpa using hn) h
theorem dZ {wl:WL}{P:Program}{T:TT}(hT:TabOk P T)(hm:P.follows .mixedOrders=true)(keep:FuncId->List Bool)(inl:FuncId->Bool)(np:Nat){f:FuncId}{fn:Func}{args:List AV}{ob:List (Option OB)}{K:AV->List (Option OB)->Prop}
  (hf : P.funcs[f]? = some fn) (hn : (fn.name == "runtime.NumGoroutine") = false) (h : dR (mcx wl P T keep inl 0 np) fn args ob K) : YO wl P f args ob K :=
 .inl <| Ww (cx:=mcx wl P T keep inl 0 np) hT ⟨rfl,fun _ _ _ _ _ h=>h,fun _ _ _ _ h=>h⟩ (NA hT ⟨rfl,fun _ _ _ _ _ h=>h,fun _ _ _ _ h=>h⟩ hm) hf (by simpa using hn) h
def I64 (x:Int):Prop:=-9223372036854775808<=x/\x<=9223372036854775807
theorem U9 {a b:Int}(h1:a=b)(h2:I64 b):IntKind.i64.wrap a=b:=by
 subst h1
 exact IntWalk.i64_in a h2
theorem I64.of {x:Int}(h:-9223372036854775808<=x/\x<=9223372036854775807):I64 x:=h
end Go.AX
end
section
namespace Go.AX
open Go.RowKit
def Old (w:World):Sc:=fun b o=>∃v,cellAt w b o=some v
theorem cV {P:Program}{f:FuncId}{args:List AV}{res:AV}{wl:WL}(h:CallsOK wl P f args [] res [])(w:World){gb:Nat->Prop}(hg:wl.gf gb w/\∀b,gb b->b<w.heap.size)(vals:Array Value)(hs:vals.size=args.length)
  (hr :∀i (hi:i<args.length),RepA (Old w) w (fun _=>none) (ofL []) args[i] (vals.getD i undef)/\Closed (ofL []) args[i]) :
  Calls P f vals w fun e w'=>(∃v S φ,e=.returned v/\RepA S w' φ (ofL []) res v)/\Below w.heap.size w w':=by
 have hn :∀r,ofL [] r=none:=fun r=>by simp[ofL]
 refine (h.2 w (Old w) (fun _=>none) gb ⟨hg.1,hg.2,(by rintro b hb ⟨r,c,h1,_⟩;simp at h1),fun b o _ hc=>by
  cases hv:cellAt w b o with
  | none=>exact absurd hv hc
  | some v=>exact⟨v,hv⟩⟩ vals hs hr (fun _ _=>rfl) ⟨fun r o ho=>by rw[hn] at ho;simp at ho,fun r _ _ _ _ hr=>absurd (hn r) hr,fun r o ho=>by rw[hn] at ho;simp at ho,fun _ _ h=>h,fun _ _ _=>rfl,fun b o hS=>?_,fun _ _ h _ _=>h,fun _ _ _=>rfl,Nat.le_refl _,fun r _ _ hr=>absurd (hn r) hr,⟨rfl,rfl,rfl,.inr (Nat.le_refl _)⟩⟩).mono fun e w' he=>?_
 ·obtain⟨v,hv⟩:=hS
  refine Nat.lt_of_not_le fun hge=>?_
  simp[cellAt,World.cell?,hge] at hv
 obtain⟨v,rfl,S',φ',m,_,hv,_⟩:=he
 refine⟨⟨v,S',φ',rfl,hv⟩,m.os.1,m.os.2.2.1,m.os.2.1,m.sz,fun k hk=>m.fr k hk ?_⟩
 rintro⟨r,c,hr,_⟩
 exact absurd hr (by simp)
theorem ZT {P:Program}{f:FuncId}{args:List AV}{wl:WL}(h:CallsOK wl P f args [] (.b true) [])(w:World){gb:Nat->Prop}(hg:wl.gf gb w/\∀b,gb b->b<w.heap.size)(vals:Array Value)(hs:vals.size=args.length)
  (hr :∀i (hi:i<args.length),RepA (Old w) w (fun _=>none) (ofL []) args[i] (vals.getD i undef)/\Closed (ofL []) args[i]) :
  Calls P f vals w fun e w'=>e=.returned (.bool true)/\Below w.heap.size w w':=
 (cV h w hg vals hs hr).mono fun e w' ⟨⟨v,S,φ,he,hv⟩,hb⟩=>⟨by rw[he,hv.bool],hb⟩
end Go.AX
end
section
namespace Go.AX
open Go.RowKit Go.Deep Go.ChangeShapes Go.WideShapes
section
variable {H:Type} {enc:TypeId×Value->H} {P:Program} {w:World}
def RepI (w:World)(ds:List D)(cs:List Value):Prop:=
 ds.length=cs.length/\(∀d∈ds,d.isAgg=false)/\∀j (hj:j<ds.length) v,cs[j]?=some v->RepD (Old w) w ds[j] v
def Wt (P:Program)(t:Nat)(d:DataW H):Prop:=(d.weights P t).all (·<=reachBytes)=true
theorem weightsAll_mem {e:Nat} :∀{l:List (DataW H)} {d:DataW H},d∈l->∀n∈d.weights P e,n∈DataW.weightsAll P e l
 | x::l,d,hd,n,hn=>by
  simp only[DataW.weightsAll,X23]
  rcases List.mem_cons.1 hd with rfl | hd
  ·exact .inl hn
  exact .inr (weightsAll_mem hd n hn)
theorem Wt.slice {t e:Nat}{el sp:List (DataW H)}(ht:P.underlying t=some (.slice e))(h:Wt P t (.slice el sp)):(el.length+sp.length)*P.bytesOf e<=reachBytes/\∀d∈el,Wt P e d:=by
 have h:=List.all_eq_true.1 h
 simp only[DataW.weights,ht,List.mem_cons,X23] at h
 refine⟨by simpa using h _ (.inl rfl),fun d hd=>List.all_eq_true.2 fun n hn=>h n (.inr (.inl (weightsAll_mem hd n hn)))⟩
theorem Wt.string {t:Nat}{b:List UInt8}(h:Wt (H:=H) P t (.lit (.string b))):b.length<=reachBytes:=by
 have h:=List.all_eq_true.1 h
 simp only[DataW.weights] at h
 simpa using h _ (X14.2 rfl)
theorem Wt.agg {t:Nat}{F:Array Field}{ds:List (DataW H)}(ht:P.underlying t=some (.struct F))(h:Wt P t (.agg ds)){i:Nat}{f:Field}{d:DataW H}(hf:F[i]?=some f)(hd:ds[i]?=some d):Wt P f.type d:=by
 have h:=List.all_eq_true.1 h
 simp only[DataW.weights,ht] at h
 exact List.all_eq_true.2 fun n hn=>h n (DataW.weights_mem_each (ts:=F.toList.map (·.type)) (j:=i) (by simp[hf]) hd n hn)
def Reads (enc:TypeId×Value->H)(P:Program)(w:World)(t:Nat){α:Type}(cells:α->List D)(ok:α->Prop):Prop:=
 ∀fuel cs x,DataW.trod enc P w 0 (fun _=>true) true fuel t cs=some x->Wt P t x.1->∃a,ok a/\RepI w (cells a) cs
theorem RepI.one {d:D}{v:Value}(hd:d.isAgg=false)(h:RepD (Old w) w d v):RepI w [d] [v]:=
 ⟨rfl,fun x hx=>by simp only[X14] at hx;rw[hx];exact hd,fun j hj u hu=>by
  have:j=0:=by simpa using hj
  subst this
  simp only[List.getElem?_cons_zero,X24] at hu
  subst hu
  exact h⟩
theorem RepI.append {ds es:List D}{cs ks:List Value}(h:RepI w ds cs)(k:RepI w es ks):RepI w (ds++es) (cs++ks):=by
 obtain⟨h1,h2,h3⟩:=h
 obtain⟨k1,k2,k3⟩:=k
 refine⟨by simp[h1,k1],fun d hd=>?_,fun j hj v hv=>?_⟩
 ·rcases X23.1 hd with hd | hd
  ·exact h2 d hd
  exact k2 d hd
 rw[List.getElem_append]
 split
 ·rename_i hlt
  rw[List.getElem?_append_left (by omega)] at hv
  exact h3 j hlt v hv
 rename_i hge
 rw[List.getElem?_append_right (by omega),<- h1] at hv
 exact k3 (j-ds.length) (by simp at hj;omega) v hv
theorem Reads.map {t:Nat}{α β:Type}{cells:α->List D}{ok:α->Prop}(h:Reads enc P w t cells ok){cells':β->List D}{ok':β->Prop}(g:α->β)(hc :∀a,cells' (g a)=cells a)(hk :∀a,ok a->ok' (g a)):Reads enc P w t cells' ok':=by
 intro fuel cs x hx hw
 obtain⟨a,h1,h2⟩:=h fuel cs x hx hw
 exact⟨g a,hk a h1,by rw[hc];exact h2⟩
theorem ZQ {t:Nat}{k:IntKind}(ht:P.underlying t=some (.int k)):Reads enc P w t (fun n:Int=>[.val (.int k n)]) (fun n=>(Lit.int k n).wf=true):=by
 intro fuel cs x h _
 obtain⟨n,rfl,_,hw⟩:=DataW.trod_int ht h
 exact⟨n,hw,RepI.one rfl (.val _ rfl)⟩
theorem reads_slice {t e sz by':Nat}{α:Type}{el:α->D}{ok:α->Prop}(ht:P.underlying t=some (.slice e))(hsz:P.cellsOf e=sz)(hpos:0<sz)(hby:P.bytesOf e=by')(h:Reads enc P w e (fun a=>(el a).cells) ok) :
  Reads enc P w t (fun l:List α=>[.lst sz (l.map el)]) (fun l=>l.length<=maxLen/\l.length*by'<=reachBytes/\∀a∈l,ok a):=by
 intro fuel cs x hx hw
 rcases open_slice ht hx with ⟨rfl,_⟩|⟨a,len,cap,m,n,D,Pl,rfl,_,hlc,hm,hmm,rfl,hel⟩
 ·exact⟨[],⟨by simp,by simp,by simp⟩,RepI.one rfl (.lst0 _ _ _)⟩
 obtain⟨hw1,hw2⟩:=Wt.slice ht hw
 have hw1:len*by'<=reachBytes:=by
  refine Nat.le_trans ?_ hw1
  rw[hby]
  exact X31 _ (by simp)
 have hmm:m=cap:=hmm.trans (if_pos rfl)
 subst hmm
 rw[hsz] at hel
 have one :∀i,i<len->∃q:α×List Value,ok q.1/\RepI w (el q.1).cells q.2/\w.cells? 0 (a.add (i*sz)) sz=some q.2:=by
  intro i hi
  obtain⟨cs',h1,h2⟩:=hel i (by omega)
  obtain⟨b,h3,h4⟩:=h n cs' _ h2 (hw2 _ (List.mem_map.2 ⟨i,List.mem_range.2 hi,rfl⟩))
  exact⟨(b,cs'),h3,h4,h1⟩
 by_cases h0:len=0
 ·subst h0
  exact⟨[],⟨by simp,by simp,by simp⟩,RepI.one rfl (.lst0 _ _ _)⟩
 obtain⟨q0,_⟩:=one 0 (by omega)
 haveI:Inhabited (α×List Value):=⟨q0⟩
 obtain⟨f,hf⟩:=choose_lt one
 have hspot:a.spot=none:=by
  obtain⟨_,_,h3⟩:=hf 0 (by omega)
  obtain⟨_,hl,hc⟩:=World.cells?_some h3
  have:=hc 0 hpos
  rw[Nat.zero_mul] at this
  have e:(a.add 0).add 0=a:=by simp[Addr.add]
  rw[e] at this
  have hlt:0<(f 0).2.length:=by omega
  rw[X15 hlt] at this
  unfold World.cell? at this
  split at this
  ·cases hs:a.spot with
   | none=>rfl
   | some s=>simp[hs] at this
  simp at this
 obtain⟨b,o,sp⟩:=a
 simp only at hspot
 subst hspot
 have hadd :∀i j,((⟨b,o,none⟩:Addr).add i).add j=⟨b,o+i+j,none⟩:=by
  intro i j
  rw[Addr.add_none,Addr.add_none]
 have hcell :∀i j,i<len->j<sz->∃v,(f i).2[j]?=some v/\cellAt w b (o+i*sz+j)=some v:=by
  intro i j hi hj
  obtain⟨_,_,h3⟩:=hf i hi
  obtain⟨_,hl,hc⟩:=World.cells?_some h3
  have:=hc j hj
  rw[hadd] at this
  have hlt:j<(f i).2.length:=by omega
  exact⟨(f i).2[j],X15 hlt,by rw[X15 hlt] at this;exact this⟩
 have hlenq :∀i,i<len->(el (f i).1).cells.length=sz:=by
  intro i hi
  obtain⟨_,h2,h3⟩:=hf i hi
  obtain⟨_,hl,_⟩:=World.cells?_some h3
  rw[h2.1,hl]
 refine⟨(List.range len).map fun i=>(f i).1,⟨by simp;omega,by simpa using hw1,fun a ha=>?_⟩,RepI.one rfl ?_⟩
 ·obtain⟨i,hi,rfl⟩:=List.mem_map.1 ha
  exact (hf i (List.mem_range.1 hi)).1
 have hL:(((List.range len).map fun i=>(f i).1).map el).length=len:=by simp
 have:=RepD.lst (S:=Old w) (w:=w) sz (((List.range len).map fun i=>(f i).1).map el) b o m (fun i j=>((f i).2[j]?).getD undef) (by rw[hL];exact Nat.le_trans hlc hm) (by rw[hL];exact hlc) (fun i hi=>?_) (fun i j hi hj=>?_) (fun i hi j hj=>?_) (fun i hi j hj=>?_)
 ·rw[hL] at this
  exact this
 ·rw[hL] at hi
  simpa using hlenq i hi
 ·rw[hL] at hi
  obtain⟨v,h1,h2⟩:=hcell i j hi hj
  exact⟨⟨v,h2⟩,by rw[h2,h1];rfl⟩
 ·rw[hL] at hi
  obtain⟨_,h2,_⟩:=hf i hi
  exact h2.2.1 _ (by simp)
 rw[hL] at hi
 obtain⟨_,h2,_⟩:=hf i hi
 simp only[List.getElem_map,List.getElem_range] at hj ⊢
 have hj':j<sz:=by rw[hlenq i hi] at hj;exact hj
 obtain⟨v,h1,_⟩:=hcell i j hi hj'
 rw[h1]
 exact h2.2.2 j hj v h1
theorem RepI.val {d:D}{v:Value}(h:RepI w [d] [v]):RepD (Old w) w d v:=h.2.2 0 (by simp) v (by simp)
theorem RepI.agg {ds:List D}{cs:Array Value}(h:RepI w ds cs.toList):RepD (Old w) w (.agg ds) (.agg cs):=by
 obtain⟨h1,h2,h3⟩:=h
 refine .agg ds cs (fun i=>cs.getD i undef) (by simpa using h1.symm) (fun i hi=>?_) (fun i hi=>h2 _ (by simp)) fun i hi=>h3 i hi _ ?_
 ·have:i<cs.size:=by have:=h1;simp at this;omega
  simp[this]
 have:i<cs.size:=by have:=h1;simp at this;omega
 simp[this]
end
end Go.AX
end
section
namespace Go.AX
def AI {τ ρ:Type}(m:(τ->Option ρ)->Option ρ)(k:τ->Option ρ):Option ρ:=m k
def geti {α:Type}(l:List α)(i:Int):Option α:=if 0<=i/\i<l.length then l[i.toNat]? else none
def seti {α:Type}(l:List α)(i:Int)(x:α):Option (List α):=if 0<=i/\i<l.length then some (l.set i.toNat x) else none
def apnd {α:Type}(b:Nat)(l m:List α):Option (List α):=if (l.length+m.length)*b<=2^47/\l.length+m.length<=2^47 then some (l++m) else none
def part {α:Type}(l:List α)(a b:Int):Option (List α):=if 0<=a/\a<=b/\b<=l.length then some ((l.drop a.toNat).take (b.toNat-a.toNat)) else none
def chk (p:Prop)[Decidable p]:Option Unit:=if p then some () else none
abbrev AN (x:Int):Int:=IntKind.i64.wrap x
def Ao {α σ ρ:Type}(done:σ->Option ρ)(body:(σ->Option ρ)->α->Nat->σ->Option ρ):List α->Nat->σ->Option ρ
 | [],_,s=>done s
 | x::t,i,s=>body (Ao done body t (i+1)) x i s
def A6 {σ ρ:Type}(body:(σ->Option ρ)->σ->Option ρ):Nat->σ->Option ρ
 | 0,_=>none
 | n+1,s=>body (A6 body n) s
def fuel:Nat:=2^64
abbrev D.u8 (x:UInt8):D:=.val (.int .u8 (x.toNat:Int))
abbrev D.u32 (x:UInt32):D:=.val (.int .u32 (x.toNat:Int))
abbrev D.u64 (x:UInt64):D:=.val (.int .u64 (x.toNat:Int))
abbrev D.l {α:Type}(sz:Nat)(f:α->D)(l:List α):D:=.lst sz (l.map f)
theorem AB {α ρ:Type}{x:Option α}{f:α->Option ρ}{r:ρ}(h:x.bind f=some r) :∃a,x=some a/\f a=some r:=by
 cases x with
 | none=>cases h
 | some a=>exact⟨a,rfl,h⟩
theorem dM {b:Bool}{ρ:Type}{X Y:Option ρ}{r:ρ}{A B:Prop}(h1:X=some r->A)(h2:Y=some r->B):(if b=true then X else Y)=some r->N4 b A B:=by
 intro h
 cases b
 ·exact h2 h
 exact h1 h
theorem BD {b:Bool}{A B:Prop}(hb:b=true)(h:A):N4 b A B:=by subst hb;exact h
theorem BI {b:Bool}{A B:Prop}(hb:b=false)(h:B):N4 b A B:=by subst hb;exact h
theorem Ah {α β:Type}{f:α->β}{l:List α}{i:Int}{v:α}(h:geti l i=some v):0<=i/\i<((l.map f).length:Int):=by
 unfold geti at h
 split at h
 ·rename_i hb;simpa using hb
 cases h
theorem Aj {α:Type}{f:α->D}{l:List α}{i:Int}{v:α}(h:geti l i=some v):(l.map f).getD i.toNat default=f v:=by
 unfold geti at h
 split at h
 ·rename_i hb;simp[h]
 cases h
def bs (l:List UInt8):ByteArray:=⟨l.toArray⟩
theorem O2 {α:Type}{f:α->D}{l l':List α}{i:Int}{v:α}(h:seti l i v=some l'):(l.map f).set i.toNat (f v)=l'.map f:=by
 unfold seti at h
 split at h
 ·cases h;rw[List.map_set]
 cases h
theorem I6 {α:Type}{l l':List α}{i:Int}{v:α}(h:seti l i v=some l'):l'.length=l.length:=by
 unfold seti at h
 split at h
 ·cases h;simp
 cases h
theorem du {α:Type}{b:Nat}{l m l':List α}(h:apnd b l m=some l'):l'=l++m:=by
 unfold apnd at h
 split at h
 ·cases h;rfl
 cases h
theorem Ab {α:Type}{b:Nat}{l m l':List α}{f g:α->D}(h:apnd b l m=some l'):((l.map f).length+(m.map g).length)*b<=2^47/\(l.map f).length+(m.map g).length<=2^47:=by
 unfold apnd at h
 split at h
 ·rename_i hb;simpa using hb
 cases h
theorem F2 {α:Type}{b:Nat}{m l':List α}{g:α->D}(h:apnd b [] m=some l'):(m.map g).length*b<=2^47/\(m.map g).length<=2^47:=by
 simpa using Ab (f:=g) (g:=g) h
theorem Ag {α:Type}{b:Nat}{l m l':List α}{f:α->D}(h:apnd b l m=some l'):l.map f++m.map f=l'.map f:=by
 rw[du h,List.map_append]
theorem Fe {α:Type}{f:α->D}{l l':List α}{a b:Int}(h:part l a b=some l'):0<=a/\a<=b/\b<=((l.map f).length:Int):=by
 unfold part at h
 split at h
 ·rename_i hb;simpa using hb
 cases h
theorem Gj {α:Type}{f:α->D}{l l':List α}{a:Int}(h:part l a l.length=some l'):0<=a/\a<=((l.map f).length:Int)/\((l.map f).length:Int)<=((l.map f).length:Int):=by
 have:=Fe (f:=f) h
 simp at this ⊢
 exact this
theorem EL {α:Type}{f:α->D}{l l':List α}{a b:Int}(h:part l a b=some l'):((l.map f).drop a.toNat).take (b.toNat-a.toNat)=l'.map f:=by
 unfold part at h
 split at h
 ·cases h;rw[List.map_take,List.map_drop]
 cases h
theorem Gf {α:Type}{f:α->D}{l l':List α}{a:Int}(h:part l a l.length=some l'):((l.map f).drop a.toNat).take (((l.map f).length:Int).toNat-a.toNat)=l'.map f:=by
 have:=EL (f:=f) h
 simpa using this
theorem W4 {n c:Int}{b:Nat}{u:Unit}(h:chk (0<=n/\n<=c/\c<=1048576)=some u)(hb:b<=65536):0<=n/\n<=c/\c<=1048576/\b<=65536:=by
 unfold chk at h
 split at h
 ·rename_i q;exact⟨q.1,q.2.1,q.2.2,hb⟩
 cases h
theorem fO {n:Int}{b:Nat}{u:Unit}(h:chk (0<n/\n<=1048576)=some u)(hb:b<=65536):0<n/\n<=1048576/\b<=65536:=by
 unfold chk at h
 split at h
 ·rename_i q;exact⟨q.1,q.2,hb⟩
 cases h
def BB {K V:Type}[BEq K]:List (K×V)->K->Option V
 | [],_=>none
 | p::l,k=>if k==p.1 then some p.2 else BB l k
def Cc {K V:Type}[BEq K]:List (K×V)->K->V->List (K×V)
 | [],k,v=>[(k,v)]
 | p::l,k,v=>if k==p.1 then (k,v)::l else p::Cc l k v
def Bn {K V:Type}(ek:K->D)(ev:V->D)(l:List (K×V)):List (D×D):=l.map fun p=>(ek p.1,ev p.2)
theorem BX {K V:Type}[BEq K]{tk:TK}{ek:K->D}{ev:V->D}{l:List (K×V)}{k:K}(h :∀a b,D1 tk (ek a) (ek b)=some (a==b)):BZ tk (ek k) (Bn ek ev l)=some ((BB l k).map ev):=by
 induction l with
 | nil=>rfl
 | cons p l ih=>
  simp only[Bn,List.map_cons,BZ,h,BB]
  cases k==p.1
  ·simpa[Bn] using ih
  simp
theorem Ej {K V:Type}[BEq K]{tk:TK}{ek:K->D}{ev:V->D}{l:List (K×V)}{k:K}{v:V}(h :∀a b,D1 tk (ek a) (ek b)=some (a==b)):F4 tk (ek k) (ev v) (Bn ek ev l)=some (Bn ek ev (Cc l k v)):=by
 induction l with
 | nil=>rfl
 | cons p l ih=>
  simp only[Bn,List.map_cons,F4,h,Cc]
  cases k==p.1
  ·simp only[Bn] at ih
   simp[ih]
  simp
theorem Pn {K V:Type}[BEq K]{tk:TK}{ek:K->D}{ev:V->D}{l:List (K×V)}{k:K}{u:Unit}(h :∀a b,D1 tk (ek a) (ek b)=some (a==b))(g:chk ((BB l k).isNone=true)=some u):BZ tk (ek k) (Bn ek ev l)=some none:=by
 rw[BX h]
 unfold chk at g
 split at g
 ·rename_i q
  cases hm:BB l k with
  | none=>rfl
  | some v=>rw[hm] at q;simp at q
 simp at g
theorem eU {V:Type}{f:V->D}{o:Option V}{z:V}{zD:D}(hz:zD=f z):(o.map f).getD zD=f (o.getD z):=by
 cases o<;>simp[hz]
theorem eT {V:Type}{f:V->D}{o:Option V}:(o.map f).isSome=o.isSome:=by
 cases o<;>rfl
theorem D7 {V:Type}{f:V->D}{o:Option V}{z v:V}{zD:D}(hz:zD=f z)(g:some (o.getD z)=some v):(o.map f).getD zD=f v:=by
 rw[eU hz,X25 g]
theorem ce {V:Type}{f:V->D}{o:Option V}{b:Bool}(g:some o.isSome=some b):(o.map f).isSome=b:=by
 rw[eT,X25 g]
theorem BL (a b:Int):D1 (.int .i64) (D.i a) (D.i b)=some (a==b):=by simp[D1]
theorem Em {p:Prop}[Decidable p]{u:Unit}(h:chk p=some u):p:=by
 unfold chk at h
 split at h
 ·assumption
 cases h
theorem AG {τ ρ:Type}{np:Nat}{X:(ASt->Prop)->Prop}{K:ASt->Prop}{m:(τ->Option ρ)->Option ρ}{k:τ->Option ρ}{r:ρ}(St:τ->ASt)
  (h1 :∀k':τ->Option ρ,m k'=some r->X (fun t=>∃s,Weak np t s/\∃v,k' v=some r/\s=St v)) (h2 :∀v,k v=some r->K (St v)):AI m k=some r->CutP np X K:=
 fun h=>.cut (fun s=>∃v,k v=some r/\s=St v) (h1 k h) fun _ ⟨v,hv,hs⟩=>hs ▸ h2 v hv
theorem bR {α:Type}{l:List α}{a b:Int}{u:Unit}{f:α->D}(h:chk (0<=a/\a<=b/\b<=(l.length:Int))=some u):0<=a/\a<=b/\b<=((l.map f).length:Int):=by
 rw[X10];exact Em h
theorem JY {α:Type}{l:List α}{a:Int}{u:Unit}{f:α->D}(h:chk (0<=a/\a<=(l.length:Int)/\(l.length:Int)<=(l.length:Int))=some u):0<=a/\a<=((l.map f).length:Int)/\((l.map f).length:Int)<=((l.map f).length:Int):=by
 rw[X10];exact Em h
theorem XF {α:Type}{l:List α}{a n:Nat}{f:α->D}:((l.map f).drop a).take n=List.map f ((l.drop a).take n):=by simp
theorem Jc {α:Type}{l:List α}{a n:Nat}{i:Int}{v:α}(h:geti ((l.drop a).take n) i=some v):0<=i/\i<(n:Int):=by
 unfold geti at h
 split at h
 ·rename_i hq
  have:((l.drop a).take n).length<=n:=List.length_take_le _ _
  omega
 simp at h
theorem Jn {α:Type}{l:List α}{a n:Nat}{i:Int}{v:α}{f:α->D}(h:geti ((l.drop a).take n) i=some v):(l.map f).getD (a+i.toNat) default=f v:=by
 unfold geti at h
 split at h
 ·rename_i hq
  rw[List.getElem?_take,if_pos (by have:((l.drop a).take n).length<=n:=List.length_take_le _ _;omega),List.getElem?_drop] at h
  simp[List.getD_eq_getElem?_getD,h]
 simp at h
theorem Zf {α:Type}{f:α->D}{l:List α}{a n:Nat}:((l.map f).drop a).take n=((l.drop a).take n).map f:=by simp
theorem QW {α:Type}{l v:List α}{a b:Int}{f:α->D}(h:part l a b=some v):0<=a/\a<=b/\b<=b/\b<=((l.map f).length:Int):=by
 have:=Fe (f:=f) h
 exact⟨this.1,this.2.1,Int.le_refl _,this.2.2⟩
theorem cQ {α:Type}{l v:List α}{a:Int}{f:α->D}(h:part l a l.length=some v):0<=a/\a<=((l.map f).length:Int)/\((l.map f).length:Int)<=((l.map f).length:Int)/\((l.map f).length:Int)<=((l.map f).length:Int):=by
 have:=Gj (f:=f) h
 exact⟨this.1,this.2.1,Int.le_refl _,Int.le_refl _⟩
theorem UG {α:Type}{l:List α}{a n:Nat}{z:α}{f:α->D}:(l.map f).take a++List.replicate n (f z)++(l.map f).drop (a+n)=List.map f (l.take a++List.replicate n z++l.drop (a+n)):=by simp
def cpy {α:Type}(l:List α)(a n:Nat)(s:List α):List α:=l.take a++s.take n++l.drop (a+min s.length n)
theorem eB {α:Type}{l s:List α}{f:α->D}:(l.map f).take 0++(s.map f).take (l.map f).length++(l.map f).drop (0+min (s.map f).length (l.map f).length)=List.map f (cpy l 0 l.length s):=by simp[cpy]
theorem db {α:Type}{l s:List α}{f:α->D}:min (s.map f).length (l.map f).length=min s.length l.length:=by simp
def cw (s s':ASt):List AV->List D->Prop
 | [],[]=>True
 | a::l,y::l'=>(y.isAgg=false/\AvW s s' a (.d y))/\cw s s' l l'
 | _,_=>False
theorem Q4 {s s':ASt} :∀{cs:List AV} {ys:List D},cw s s' cs ys->ys.length=cs.length
 | [],[],_=>rfl
 | _::_,_::_,h=>by simp[Q4 h.2]
theorem RF {s s':ASt} :∀{cs:List AV} {ys:List D},cw s s' cs ys->∀i (hi:i<cs.length) (hi':i<ys.length),ys[i].isAgg=false/\AvW s s' cs[i] (.d ys[i])
 | [],[],_,i,hi,_=>by simp at hi
 | _::_,_::_,h,0,_,_=>h.1
 | _::_,_::_,h,i+1,hi,hi'=>RF h.2 i (by simpa using hi) (by simpa using hi')
theorem _root_.Go.AX.AvW.box {s s':ASt}(r:Nat)(cs:List AV)(ys:List D)(sz:Nat)(h:s.ob.getD r none=some (.box cs))(h':s'.ob.getD r none=none)(hsz:sz=cs.length)(hp:0<cs.length)(hc:cw s s' cs ys):AvW s s' (.own r 1) (.d (.lst sz [.agg ys])):=
 .lstB r cs ys sz h h' hsz (Q4 hc) hp (fun i hi hi'=>(RF hc i hi hi').2) fun i hi=>(RF hc i (by rw[<- Q4 hc];exact hi) hi).1
def aw (s s':ASt):List AV->List AV->Prop
 | [],[]=>True
 | a::l,y::l'=>AvW s s' a y/\aw s s' l l'
 | _,_=>False
def ZM:List AV->Bool
 | []=>true
 | a::l=>a.one&&ZM l
def dw (s s':ASt):List D->List AV->Prop
 | [],[]=>True
 | a::l,y::l'=>AvW s s' (.d a) y/\dw s s' l l'
 | _,_=>False
theorem O3 {s s':ASt} :∀{cs cs':List AV},aw s s' cs cs'->cs.length=cs'.length/\∀i (hi:i<cs.length) (hi':i<cs'.length),AvW s s' cs[i] cs'[i]
 | [],[],_=>⟨rfl,fun i hi=>by simp at hi⟩
 | _::_,_::_,h=>⟨by simp[(O3 h.2).1],fun i hi hi'=>match i,hi,hi' with
  | 0,_,_=>h.1
  | i+1,hi,hi'=>(O3 h.2).2 i (by simpa using hi) (by simpa using hi')⟩
theorem Uh {s s':ASt} :∀{cs:List D} {cs':List AV},dw s s' cs cs'->cs.length=cs'.length/\∀i (hi:i<cs.length) (hi':i<cs'.length),AvW s s' (.d cs[i]) cs'[i]
 | [],[],_=>⟨rfl,fun i hi=>by simp at hi⟩
 | _::_,_::_,h=>⟨by simp[(Uh h.2).1],fun i hi hi'=>match i,hi,hi' with
  | 0,_,_=>h.1
  | i+1,hi,hi'=>(Uh h.2).2 i (by simpa using hi) (by simpa using hi')⟩
theorem Qs :∀{cs:List AV},ZM cs=true->∀i (hi:i<cs.length),cs[i].one=true
 | _::_,h,0,_=>by simp only[ZM,X27] at h;exact h.1
 | _::_,h,i+1,hi=>by simp only[ZM,X27] at h;exact Qs h.2 i (by simpa using hi)
theorem _root_.Go.AX.AvW.tupL {s s':ASt}{cs cs':List AV}(h:aw s s' cs cs'):AvW s s' (.tup cs) (.tup cs'):=.tup cs cs' (O3 h).1 (O3 h).2
theorem _root_.Go.AX.AvW.aggL {s s':ASt}{cs cs':List AV}(h1:ZM cs'=true)(h:aw s s' cs cs'):AvW s s' (.agg cs) (.agg cs'):=.agg cs cs' (O3 h).1 (O3 h).2 (Qs h1)
theorem _root_.Go.AX.AvW.daggL {s s':ASt}{cs:List D}{cs':List AV}(h1:ZM cs'=true)(h:dw s s' cs cs'):AvW s s' (.d (.agg cs)) (.agg cs'):=.dagg cs cs' (Uh h).1 (Uh h).2 (Qs h1)
theorem _root_.Go.AX.AvW.aggDL {s s':ASt}{cs:List AV}{ys:List D}(h:cw s s' cs ys):AvW s s' (.agg cs) (.d (.agg ys)):=.aggD cs ys (Q4 h).symm (fun i hi hi'=>(RF h i hi hi').2) fun i hi=>(RF h i (by rw[<- Q4 h];exact hi) hi).1
theorem bI {x:Int}:BZ (.int .i64) (D.i x) []=some none:=rfl
theorem HO {x k:Int}{v:D}{l:List (D×D)}(h:(x==k)=true):BZ (.int .i64) (D.i x) ((D.i k,v)::l)=some (some v):=by
 have e:D1 (.int .i64) (D.i x) (D.i k)=some true:=by simp[D1,D.i,h]
 simp only[BZ,e]
theorem Ap {x k:Int}{v:D}{l:List (D×D)}{q:Option (Option D)}(h:¬ (x==k)=true)(hq:BZ (.int .i64) (D.i x) l=q):BZ (.int .i64) (D.i x) ((D.i k,v)::l)=q:=by
 have h:(x==k)=false:=by simpa using h
 have e:D1 (.int .i64) (D.i x) (D.i k)=some false:=by simp[D1,D.i,h]
 simp only[BZ,e]
 exact hq
theorem PG {c:Prop}[Decidable c]{α:Type}{a b r:α}(g:c)(h:(if c then a else b)=r):a=r:=by rwa [if_pos g] at h
theorem PY {c:Prop}[Decidable c]{α:Type}{a b r:α}(g:¬ c)(h:(if c then a else b)=r):b=r:=by rwa [if_neg g] at h
theorem bf {α:Type}{f:α->D}{l:List α}{i:Int}{v:α}(h:geti l i=some v):Int.toNat i<(List.map f l).length:=by
 have:=Ah (f:=f) h
 omega
theorem AA {τ ρ:Type}{np:Nat}{t:ASt}{St:τ->ASt}{k:τ->Option ρ}{r:ρ}{v:τ}(hw:Weak np t (St v))(h:k v=some r) :∃s,Weak np t s/\∃v,k v=some r/\s=St v:=
 ⟨_,hw,v,h,rfl⟩
theorem Ac {np:Nat}{body:(AE->ASt->Prop)->ASt->Prop}{K:AE->ASt->Prop}{st:ASt}{α σ ρ:Type}{done:σ->Option ρ}{bd:(σ->Option ρ)->α->Nat->σ->Option ρ}{l:List α}{s0:σ}{r:ρ}
  (slot sz:Nat) (enc:α->D) (hs:st.tm.getD slot .dead=.d (.lst sz (l.map enc))) (St:Nat->σ->ASt) (hw:Weak np st (St 0 s0))
  (hend :∀(s:σ) (K':ASt->Prop),done s=some r->body (onL K K') (St l.length s))
  (hstep :∀(next:σ->Option ρ) (i:Nat) (x:α) (s:σ) (K':ASt->Prop),i<l.length->(l.map enc).getD i default=enc x->IntKind.i64.wrap ((i:Int)+1)=((i+1:Nat):Int)->bd next x i s=some r->
   (∀t v,Weak np t (St (i+1) v)->next v=some r->K' t)->body (onL K K') (St i s)):Ao done bd l 0 s0=some r->LoopP np body K st:=by
 intro h
 refine .mk fun hb _=>?_
 have hl:l.length<=9223372036854775807:=by simpa using hb slot sz _ hs
 refine⟨fun s n=>∃(i:Nat) (v:σ),n=l.length-i/\i<=l.length/\Ao done bd (l.drop i) i v=some r/\s=St i v,⟨St 0 s0,l.length,hw,0,s0,by simp,by simp,by simpa using h,rfl⟩,?_⟩
 rintro _ n ⟨i,v,hn,hi,hf,rfl⟩
 by_cases he:i=l.length
 ·subst he
  simp only[List.drop_length,Ao] at hf
  exact hend v _ hf
 have hlt:i<l.length:=by omega
 rw[List.drop_eq_getElem_cons hlt] at hf
 simp only[Ao] at hf
 exact hstep _ i l[i] v _ hlt (by simp[hlt]) (U9 (by omega) ⟨by omega,by omega⟩) hf
  fun t v' hw' hn'=>⟨_,l.length-(i+1),by omega,hw',i+1,v',rfl,by omega,hn',rfl⟩
theorem Nr {np:Nat}{body:(AE->ASt->Prop)->ASt->Prop}{K:AE->ASt->Prop}{st:ASt}{α σ ρ:Type}{done:σ->Option ρ}{bd:(σ->Option ρ)->α->Nat->σ->Option ρ}{l:List α}{s0:σ}{r:ρ}
  (slot e sz:Nat) (fz:FZ) (enc:α->D) (hs:st.ob.getD slot none=some (.row e sz (l.map enc) fz)) (St:Nat->σ->ASt) (hw:Weak np st (St 0 s0))
  (hend :∀(s:σ) (K':ASt->Prop),done s=some r->body (onL K K') (St l.length s))
  (hstep :∀(next:σ->Option ρ) (i:Nat) (x:α) (s:σ) (K':ASt->Prop),i<l.length->(l.map enc).getD i default=enc x->IntKind.i64.wrap ((i:Int)+1)=((i+1:Nat):Int)->bd next x i s=some r->
   (∀t v,Weak np t (St (i+1) v)->next v=some r->K' t)->body (onL K K') (St i s)):Ao done bd l 0 s0=some r->LoopP np body K st:=by
 intro h
 refine .mk fun _ hb=>?_
 have hl:l.length<=9223372036854775807:=by simpa using hb slot _ _ _ _ hs
 refine⟨fun s n=>∃(i:Nat) (v:σ),n=l.length-i/\i<=l.length/\Ao done bd (l.drop i) i v=some r/\s=St i v,⟨St 0 s0,l.length,hw,0,s0,by simp,by simp,by simpa using h,rfl⟩,?_⟩
 rintro _ n ⟨i,v,hn,hi,hf,rfl⟩
 by_cases he:i=l.length
 ·subst he
  simp only[List.drop_length,Ao] at hf
  exact hend v _ hf
 have hlt:i<l.length:=by omega
 rw[List.drop_eq_getElem_cons hlt] at hf
 simp only[Ao] at hf
 exact hstep _ i l[i] v _ hlt (by simp[hlt]) (U9 (by omega) ⟨by omega,by omega⟩) hf
  fun t v' hw' hn'=>⟨_,l.length-(i+1),by omega,hw',i+1,v',rfl,by omega,hn',rfl⟩
theorem CQ {α:Type}{l:List α}{i:Nat}(h:i<l.length):decide ((i:Int)<(l.length:Int))=true:=by simpa using h
theorem Cb {α:Type}{l:List α}:decide ((l.length:Int)<(l.length:Int))=false:=by simp
theorem BF {α β:Type}{f:α->β}{l:List α}{i:Nat}(h:i<l.length):0<=(i:Int)/\(i:Int)<((l.map f).length:Int):=⟨by omega,by simpa using h⟩
theorem Aw {np:Nat}{body:(AE->ASt->Prop)->ASt->Prop}{K:AE->ASt->Prop}{st:ASt}{σ ρ:Type}{bd:(σ->Option ρ)->σ->Option ρ}{n:Nat}{s0:σ}{r:ρ}
  (St:σ->ASt) (hw:Weak np st (St s0))
  (hstep :∀(next:σ->Option ρ) (s:σ) (K':ASt->Prop),bd next s=some r->(∀t v,Weak np t (St v)->next v=some r->K' t)->body (onL K K') (St s)):A6 bd n s0=some r->LoopP np body K st:=by
 intro h
 refine .mk fun _ _=>⟨fun s n=>∃v,A6 bd n v=some r/\s=St v,⟨St s0,n,hw,s0,h,rfl⟩,?_⟩
 rintro _ m ⟨v,hf,rfl⟩
 cases m with
 | zero=>cases hf
 | succ m=>exact hstep _ v _ hf fun t v' hw' hn'=>⟨_,m,Nat.lt_succ_self m,hw',v',hn',rfl⟩
def RG (ps:List Nat)(acc:List Nat):Nat:=ps.foldl (fun m j=>m ||| 2^j ||| acc.getD (acc.length-1-j) 0) 0
def aJ:List Oper->List Nat->List Nat
 | [],acc=>acc
 | o::l,acc=>aJ l (RG (CS o) acc::acc)
def UH (ops:Array Oper)(o:Oper)(m:Nat):List Oper->Bool
 | []=>true
 | q::prev=>(m.testBit prev.length || q.apart ops o)&&UH ops o m prev
def drawB.go (ops:Array Oper):List Oper->List Oper->List Nat->Bool
 | [],_,_=>true
 | o::l,prev,masks=>(CS o).all (fun j=>Nat.blt j prev.length)&&(match o.op with | .select _ _=>false | _=>true)&&UH ops o (RG (CS o) masks) prev &&
   drawB.go ops l (o::prev) (RG (CS o) masks::masks)
def drawB (ops:Array Oper):Bool:=drawB.go ops ops.toList [] []
theorem K2 :∀(a b:List Oper) (acc:List (List Nat)),IQ (a++b) acc=IQ b (IQ a acc)
 | [],_,_=>rfl
 | o::a,b,acc=>K2 a b _
theorem PM :∀(l:List Oper) (acc:List (List Nat)),∃p,IQ l acc=p++acc/\p.length=l.length
 | [],acc=>⟨[],rfl,rfl⟩
 | o::l,acc=>by
  obtain⟨p,h1,h2⟩:=PM l (((CS o).flatMap fun j=>j::acc.getD (acc.length-1-j) [])::acc)
  exact⟨p++[(CS o).flatMap fun j=>j::acc.getD (acc.length-1-j) []],by rw[IQ,h1];simp,by simp[h2]⟩
def MaskR (masks:List Nat)(acc:List (List Nat)):Prop:=masks.length=acc.length/\∀k j,(masks.getD k 0).testBit j=true->j∈acc.getD k []
theorem RL {masks:List Nat}{acc:List (List Nat)}(h:MaskR masks acc)(ps:List Nat)(j:Nat)(hj:(RG ps masks).testBit j=true):j∈ps.flatMap fun j=>j::acc.getD (acc.length-1-j) []:=by
 have key :∀(ps:List Nat) (m:Nat),(ps.foldl (fun m j=>m ||| 2^j ||| masks.getD (masks.length-1-j) 0) m).testBit j=true->
   m.testBit j=true\/j∈ps.flatMap fun j=>j::acc.getD (acc.length-1-j) []:=by
  intro ps
  induction ps with
  | nil=>intro m h;exact .inl h
  | cons p ps ih=>
   intro m hm
   simp only[List.foldl_cons] at hm
   rcases ih _ hm with g | g
   ·simp only[Nat.testBit_or,Bool.or_eq_true,Nat.testBit_two_pow,decide_eq_true_eq] at g
    rcases g with (g | g)|g
    ·exact .inl g
    ·subst g;exact .inr (by simp)
    rw[h.1] at g
    have:=h.2 _ _ g
    exact .inr (by simp only[List.flatMap_cons,X23,List.mem_cons];exact .inl (.inr this))
   exact .inr (by simp only[List.flatMap_cons,X23];exact .inr g)
 rcases key ps 0 hj with g | g
 ·simp at g
 exact g
theorem MaskR.cons {masks:List Nat}{acc:List (List Nat)}(h:MaskR masks acc)(ps:List Nat):MaskR (RG ps masks::masks) ((ps.flatMap fun j=>j::acc.getD (acc.length-1-j) [])::acc):=by
 refine⟨by simp[h.1],fun k j hk=>?_⟩
 cases k with
 | zero=>exact RL h ps j hk
 | succ k=>exact h.2 k j hk
theorem ap :∀(l:List Oper) {masks:List Nat} {acc:List (List Nat)},MaskR masks acc->MaskR (aJ l masks) (IQ l acc)
 | [],_,_,h=>h
 | o::l,_,_,h=>ap l (h.cons (CS o))
theorem UC {ops:Array Oper}{o:Oper}{m:Nat} :∀{prev:List Oper},UH ops o m prev=true->∀j q,j<prev.length->prev.reverse[j]?=some q->m.testBit j=true\/q.apart ops o=true
 | [],_,j,q,hj,_=>by simp at hj
 | p::prev,h,j,q,hj,hq=>by
  simp only[UH,X27,Bool.or_eq_true] at h
  simp only[List.reverse_cons] at hq
  by_cases he:j=prev.length
  ·subst he
   rw[List.getElem?_append_right (by simp)] at hq
   simp at hq
   subst hq
   exact h.1
  have hlt:j<prev.length:=by simp at hj;omega
  rw[List.getElem?_append_left (by simpa using hlt)] at hq
  exact UC h.2 j q hlt hq
theorem S5 {ops:Array Oper} :∀(l prev:List Oper) (masks:List Nat),prev.reverse++l=ops.toList->MaskR masks (IQ prev.reverse [])->drawB.go ops l prev masks=true->
  ∀i o,prev.length<=i->ops[i]?=some o->((CS o).all (fun j=>Nat.blt j i)&&(match o.op with | .select _ _=>false | _=>true) &&
   (List.range i).all fun j=>(GV ops i).contains j || (match ops[j]? with
    | none=>false
    | some q=>q.apart ops o))=true
 | [],prev,masks,hl,_,_,i,o,hi,ho=>by
  have:ops.toList.length=prev.length:=by rw[<- hl];simp
  simp only[Array.length_toList] at this
  have:=(Array.getElem?_eq_some_iff.1 ho).1
  omega
 | q::l,prev,masks,hl,hR,h,i,o,hi,ho=>by
  simp only[drawB.go,X27] at h
  obtain⟨⟨⟨h1,h2⟩,h3⟩,h4⟩:=h
  by_cases he:i=prev.length
  ·subst he
   have ho':ops.toList[prev.length]?=some o:=by simpa using ho
   rw[<- hl,List.getElem?_append_right (by simp)] at ho'
   simp at ho'
   subst ho'
   have ha:GV ops prev.length=(CS q).flatMap fun j=>j::(IQ prev.reverse []).getD ((IQ prev.reverse []).length-1-j) []:=by
    unfold GV
    rw[<- hl,K2,IQ]
    obtain⟨p,hp,hpl⟩:=PM l (((CS q).flatMap fun j=>j::(IQ prev.reverse []).getD ((IQ prev.reverse []).length-1-j) [])::IQ prev.reverse [])
    have hs:ops.size-1-prev.length=p.length:=by
     have:ops.toList.length=prev.length+(l.length+1):=by rw[<- hl];simp
     simp only[Array.length_toList] at this
     omega
    rw[hp,hs]
    simp
   simp only[X27]
   refine⟨⟨h1,h2⟩,?_⟩
   rw[List.all_eq_true]
   intro j hj
   have hj:=List.mem_range.1 hj
   have hjs :∃p,ops[j]?=some p/\prev.reverse[j]?=some p:=by
    have hlt:j<prev.reverse.length:=by simpa using hj
    refine⟨prev.reverse[j],?_,X15 hlt⟩
    have:ops.toList[j]?=some prev.reverse[j]:=by rw[<- hl,List.getElem?_append_left hlt,X15 hlt]
    simpa using this
   obtain⟨p,hp1,hp2⟩:=hjs
   rw[Bool.or_eq_true]
   rcases UC h3 j p hj hp2 with g | g
   ·left
    rw[ha]
    simpa using RL hR (CS q) j g
   right
   rw[hp1]
   exact g
  refine S5 l (q::prev) _ (by simpa using hl) ?_ h4 i o (by simp;omega) ho
  rw[List.reverse_cons,K2]
  exact hR.cons (CS q)
theorem Wa {ops:Array Oper}(h:drawB ops=true):Ha ops=true:=by
 unfold Ha
 rw[List.all_eq_true]
 intro i hi
 have hi:=List.mem_range.1 hi
 have:=S5 ops.toList [] [] (by simp) ⟨rfl,fun k j hk=>by simp at hk⟩ h i ops[i] (by simp) (by simp[hi])
 simp only[hi,getElem?_pos]
 exact this
def confB.conf (M:List Nat)(n i:Nat)(fp wr:List Nat):Nat->List (List Nat×List Nat)->Bool
 | _,[]=>true
 | j,(fp',wr')::l=>((M.getD (n-1-j) 0).testBit i || ((wr.all fun r=>!fp'.contains r)&&fp.all fun r=>!wr'.contains r))&&confB.conf M n i fp wr (j+1) l
def confB.go (M:List Nat)(n:Nat):Nat->List (List Nat×List Nat)->Bool
 | _,[]=>true
 | i,(fp,wr)::l=>confB.conf M n i fp wr (i+1) l&&confB.go M n (i+1) l
def confB (ops:Array Oper)(evs:List (List Nat×List Nat)):Bool:=confB.go (aJ ops.toList []) ops.size 0 evs
theorem Zj {ops:Array Oper}{evs:List (List Nat×List Nat)}(h:confB ops evs=true):F9 ops 0 evs=true:=by
 have hR:=ap ops.toList (masks:=[]) (acc:=[]) ⟨rfl,fun k j hk=>by simp at hk⟩
 have c :∀(l:List (List Nat×List Nat)) (i:Nat) (fp wr:List Nat) (j:Nat),confB.conf (aJ ops.toList []) ops.size i fp wr j l=true->F9.conf ops i fp wr j l=true:=by
  intro l
  induction l with
  | nil=>intro i fp wr j _;rfl
  | cons x l ih=>
   intro i fp wr j hc
   obtain⟨fp',wr'⟩:=x
   simp only[confB.conf,X27] at hc
   simp only[F9.conf,X27]
   refine⟨?_,ih _ _ _ _ hc.2⟩
   have hc1:=hc.1
   rw[Bool.or_eq_true] at hc1 ⊢
   rcases hc1 with g | g
   ·exact .inl (by simpa[GV] using hR.2 _ _ g)
   exact .inr g
 have g :∀(l:List (List Nat×List Nat)) (i:Nat),confB.go (aJ ops.toList []) ops.size i l=true->F9 ops i l=true:=by
  intro l
  induction l with
  | nil=>intro i _;rfl
  | cons x l ih=>
   intro i hc
   obtain⟨fp,wr⟩:=x
   simp only[confB.go,X27] at hc
   simp only[F9,X27]
   exact⟨c _ _ _ _ _ hc.1,ih _ hc.2⟩
 exact g _ _ h
theorem dOB {ops:Array Oper}{K:Prop}(h:drawB ops=true)(k:K):Ha ops=true/\K:=⟨Wa h,k⟩
theorem tOB {ops:Array Oper}{K:Prop}(h:(drawB ops&&Uu ops)=true)(k:K):(Ha ops=true/\Uu ops=true)/\K:=by
 simp only[X27] at h
 exact⟨⟨Wa h.1,h.2⟩,k⟩
theorem cOB {ops:Array Oper}{e:List (List Nat×List Nat)}{K:Prop}(h:confB ops e=true)(k:K):F9 ops 0 e=true/\K:=⟨Zj h,k⟩
theorem FO (x:UInt8):IntKind.i64.wrap (x.toNat:Int)=(x.toNat:Int):=by
 have:=x.toNat_lt
 exact U9 rfl ⟨by omega,by omega⟩
def Aa (x:Int):UInt8:=UInt8.ofNat (x%256).toNat
def AT (x:Int):UInt64:=UInt64.ofNat (x%18446744073709551616).toNat
theorem As (x:Int):IntKind.u8.wrap x=((Aa x).toNat:Int):=by
 have e:(2^IntKind.u8.bits:Int)=256:=by decide
 simp only[IntKind.wrap,IntKind.signed,e,Aa,UInt8.toNat_ofNat']
 simp
 omega
theorem Av (x:Int):IntKind.u64.wrap x=((AT x).toNat:Int):=by
 have e:(2^IntKind.u64.bits:Int)=18446744073709551616:=by decide
 simp only[IntKind.wrap,IntKind.signed,e,AT,UInt64.toNat_ofNat']
 simp
 omega
theorem XT {n:Int}(h:0<=n/\n<256):((Aa n).toNat:Int)=n:=by
 simp only[Aa,UInt8.toNat_ofNat'];simp;omega
theorem VG {n:Int}(h:0<=n/\n<18446744073709551616):((AT n).toNat:Int)=n:=by
 simp only[AT,UInt64.toNat_ofNat'];simp;omega
theorem Rr {n m:Nat}(s:Nat)(h:n<m):0<=(n:Int).fdiv (2^s)/\(n:Int).fdiv (2^s)<m:=by
 have e:(2^s:Int)=((2^s:Nat):Int):=by simp
 rw[e,Int.fdiv_eq_ediv_of_nonneg _ (Int.natCast_nonneg _),<- Int.natCast_ediv]
 have:=Nat.div_le_self n (2^s)
 generalize n/2^s=q at *
 omega
theorem dX (x:UInt8)(s:Nat):(x.toNat:Int).fdiv (2^s)=((Aa ((x.toNat:Int).fdiv (2^s))).toNat:Int):=(XT (Rr s x.toNat_lt)).symm
theorem Np (x:UInt64)(s:Nat):(x.toNat:Int).fdiv (2^s)=((AT ((x.toNat:Int).fdiv (2^s))).toNat:Int):=(VG (Rr s x.toNat_lt)).symm
end Go.AX
end
section
namespace Go.AX
open Go.RowKit Go.Deep Go.ChangeShapes Go.WideShapes Go.ChangeAt
section
variable {H:Type} {enc:TypeId×Value->H} {P:Program} {w:World}
theorem Reads.map' {t:Nat}{α β:Type}{cells:α->List D}{ok:α->Prop}(h:Reads enc P w t cells ok){cells':β->List D}{ok':β->Prop}(g:α->β)(hc :∀a,ok a->cells' (g a)=cells a)(hk :∀a,ok a->ok' (g a)):Reads enc P w t cells' ok':=by
 intro fuel cs x hx hw
 obtain⟨a,h1,h2⟩:=h fuel cs x hx hw
 exact⟨g a,hk a h1,by rw[hc a h1];exact h2⟩
theorem Ze {k:IntKind}{n:Int}(h:(Lit.int k n).wf=true):k.min<=n/\n<=k.max:=by simpa[Lit.wf] using h
theorem reads_i64 {t:Nat}(ht:P.underlying t=some (.int .i64)):Reads enc P w t (fun n:Int=>[D.i n]) I64:=
 (ZQ ht).map' id (fun _ _=>rfl) fun a h=>by
  have:=Ze h
  simpa[IntKind.min,IntKind.max,IntKind.signed,IntKind.bits,I64] using this
theorem open_one {t:Nat}{td:TypeDesc}(ht:P.underlying t=some td)(hk:(match td with | .int _ | .bool | .string | .slice _=>true | _=>false)=true){α:Type}{c:α->D}{ok:α->Prop}(h:Reads enc P w t (fun a=>[c a]) ok){base:Nat}{v:Value}{d:DataW H}{p:List MemPlace}
  (hval:Value.okWide P w .any base t v) (hv:DataW.Trod enc P w 0 (fun _=>true) true t v d p) (hw:Wt P t d) :∃x,ok x/\RepA (Old w) w (fun _=>none) (ofL []) (.d (c x)) v:=by
 obtain⟨fuel,hf⟩:=hv
 obtain⟨x,h1,h2⟩:=h fuel _ _ hf hw
 refine⟨x,h1,.d _ _ (RepI.val (?_:RepI w [c x] [v]))⟩
 have hna :∀cs,v≠.agg cs:=by
  rintro cs rfl
  unfold Value.okWide at hval
  rw[ht] at hval
  cases td<;>simp at hk<;>simp[Cell.okWide,Cell.ok,ht] at hval
 have:v.cells.toList=[v]:=by
  cases v<;>first | rfl | (rename_i cs;exact absurd rfl (hna cs))
 rwa [this] at h2
inductive Opened (w:World):List Value->List AV->Prop
 | nil:Opened w [] []
 | cons {v:Value} {x:D} {vs:List Value} {avs:List AV} (h:RepA (Old w) w (fun _=>none) (ofL []) (.d x) v) (t:Opened w vs avs):Opened w (v::vs) (.d x::avs)
theorem Opened.get {vs:List Value}{avs:List AV}(h:Opened w vs avs):vs.length=avs.length/\∀i (hi:i<avs.length),RepA (Old w) w (fun _=>none) (ofL []) avs[i] (vs.getD i undef)/\Closed (ofL []) avs[i]:=by
 induction h with
 | nil=>exact⟨rfl,fun i hi=>by simp at hi⟩
 | cons h t ih=>
  refine⟨by simp[ih.1],fun i hi=>?_⟩
  cases i with
  | zero=>exact⟨h,BC _ _⟩
  | succ i=>simpa using ih.2 i (by simpa using hi)
theorem Ls (hl:laidOutB P=true){W W':World}(hb:Below W.heap.size W W') :∀{ts:List TypeId} {vs:List Value} {ds:List (DataW H)} {ps:List MemPlace},
  (ts.all fun t=>P.readableRec t&&decide (t<P.types.size))=true->DataW.TrodAll enc P W 0 (fun _=>true) true ts vs ds ps->DataW.TrodAll enc P W' 0 (fun b=>decide (b<W.heap.size)) true ts vs ds ps
 | [],[],[],_,_,h=>h
 | t::ts,v::vs,d::ds,ps,hr,h=>by
  have hlt:=h.lt
  obtain⟨p,q,h1,h2,rfl⟩:=h
  simp only[List.all_cons,X27,decide_eq_true_eq] at hr
  exact⟨p,q,Below.trod hl hr.1.1 hr.1.2 h1 hb fun x hx=>hlt x (by simp[hx]),Ls hl hb hr.2 h2,rfl⟩
 | [],[],_::_,_,_,h=>h.elim
 | [],_::_,_,_,_,h=>h.elim
 | _::_,[],_,_,_,h=>h.elim
 | _::_,_::_,[],_,_,h=>h.elim
theorem trodAll_length :∀{ts:List TypeId} {vs:List Value} {ds:List (DataW H)} {ps:List MemPlace} {sp:Nat->Bool},DataW.TrodAll enc P w 0 sp true ts vs ds ps->ds.length=ts.length/\vs.length=ts.length
 | [],[],[],_,_,_=>⟨rfl,rfl⟩
 | t::ts,v::vs,d::ds,_,_,h=>by
  obtain⟨p,q,_,h2,_⟩:=h
  obtain⟨a,b⟩:=trodAll_length h2
  exact⟨by simp[a],by simp[b]⟩
 | [],[],_::_,_,_,h=>h.elim
 | [],_::_,_,_,_,h=>h.elim
 | _::_,[],_,_,_,h=>h.elim
 | _::_,_::_,[],_,_,h=>h.elim
end
end Go.AX
end
section
namespace Go.AX
open Go.WideElems
section
variable {H:Type} {enc:TypeId×Value->H} {P:Program} {w:World} {sp:Nat->Bool} {held:Bool} {t k e:TypeId}
theorem keyOf_int {kd:IntKind}(hk:P.underlying k=some (.int kd)){v:Value}{y:Lit}(h:keyOf P k v=some y) :∃n,v=.int kd n/\y=.int kd n:=by
 have h':mapKey P k v=some y:=by
  unfold keyOf at h
  rw[hk] at h
  exact h
 unfold mapKey at h'
 rw[hk] at h'
 cases v with
 | int q n=>
  simp only at h'
  split at h'
  ·rename_i hc
   obtain⟨rfl,_⟩:=hc
   exact⟨n,rfl,(X25 h').symm⟩
  cases h'
 | _=>simp at h'
theorem WJ {kd:IntKind}(ht:P.underlying t=some (.map k e))(hk:P.underlying k=some (.int kd)){fuel:Nat}{cs:List Value}{tab:List (Lit×DataW H)}{p:List MemPlace}
  (h:DataW.trod enc P w 0 sp held fuel t cs=some (.map tab,p)) (D2:Lit×DataW H->D×D)
  (hD :∀(n:Int) (v:Value) (d:DataW H) (m:Nat) (q:List MemPlace),(Lit.int kd n,d)∈tab->DataW.trod enc P w 0 sp held m e v.cells.toList=some (d,q)->v.formed P e=true->D2 (.int kd n,d)=(.val (.int kd n),.val v)/\v.oneCell'=true) :
  ∃b arr clock,cs=[.map (some b)]/\w.heap[b]?=some (.map arr clock)/\(arr.toList.map fun x=>(D.val x.key,D.val x.val)).Perm (tab.map D2)/\∀x∈arr.toList,x.key.oneCell'=true/\x.val.oneCell'=true:=by
 rcases open_map ht h with ⟨_,hx⟩|⟨b,arr,clock,n,_,hcs,hb,_,F,hx⟩
 ·simp at hx
 simp only[X26,DataW.map.injEq] at hx
 have hp:tab.Perm (arr.toList.map (rg P k (elemAt enc P w 0 sp held n e))):=by
  rw[hx.1];exact Go.WideShapes.sorted_perm _
 have hone :∀x∈arr.toList,D2 (rg P k (elemAt enc P w 0 sp held n e) x)=(D.val x.key,D.val x.val)/\x.key.oneCell'=true/\x.val.oneCell'=true:=by
  intro x hx
  obtain⟨⟨yl,yd⟩,hy⟩:=F.reads x hx
  have hmem:(yl,yd)∈tab:=hp.mem_iff.2 (List.mem_map.2 ⟨x,hx,rg_of hy⟩)
  rw[rg_of hy]
  have hkey:=rd_key hy
  obtain⟨m,h1,h2⟩:=keyOf_int hk hkey
  unfold rd at hy
  rw[hkey,Option.bind_some,Option.map_eq_some_iff] at hy
  obtain⟨⟨d,q⟩,hd,hy⟩:=hy
  simp only[X26,true_and] at hy
  subst hy
  unfold elemAt at hd
  split at hd
  ·rename_i hf
   dsimp only at h2
   subst h2
   obtain⟨g1,g2⟩:=hD m x.val d n q hmem hd hf
   rw[h1]
   exact⟨g1,rfl,g2⟩
  simp at hd
 refine⟨b,arr,clock,hcs,hb,?_,fun x hx=>(hone x hx).2⟩
 have e:(arr.toList.map fun x=>(D.val x.key,D.val x.val))=(arr.toList.map (rg P k (elemAt enc P w 0 sp held n e))).map D2:=by
  rw[List.map_map]
  exact List.map_congr_left fun x hx=>(hone x hx).1.symm
 rw[e]
 exact (hp.symm.map D2)
end
section
variable {H:Type} {enc:TypeId×Value->H} {P:Program} {w:World}
open Go.ChangeShapes Go.WideShapes Go.ChangeAt Go.RowKit
theorem frame_contractX {X:World->Prop}{wl:WL}{C:Checked}{f:FuncId}{fn:Func}{s:ChangeSpec}{b:TypeId}(hl:laidOutB C.prog=true)(hvars:s.vars=[])(hfn :∀ds:List (DataW H),ds.length=fn.params.size->s.fn H (ds++[])={ results:=[.lit (.bool true)],args:=ds })
  (hres:fn.resultTypes=#[b]) (hb:C.prog.underlying b=some .bool) (hread:(fn.params.toList.all fun t=>C.prog.readableRec t&&decide (t<C.prog.types.size))=true)
  (law :∀(W:World),X W->∀(base:Nat) (args:Array Value) (ds:List (DataW H)) (p:List MemPlace),(∀(j:Nat) t v,fn.params[j]?=some t->args[j]?=some v->Value.okWide C.prog W .any base t v)->
   DataW.TrodAll enc C.prog W 0 (fun _=>true) true fn.params.toList args.toList ds p->(∀(j:Nat) t d,fn.params.toList[j]?=some t->ds[j]?=some d->Wt C.prog t d)->∃avs,Opened W args.toList avs/\CallsOK wl C.prog f avs [] (.b true) []/\∃gb:Nat->Prop,wl.gf gb W/\∀b,gb b->b<W.heap.size) :
  ∀(W:World),X W->∀(base:Nat) (args:Array Value) (ds gs:List (DataW H)) (before:List MemPlace),
   (∀(j:Nat) t v,fn.params[j]?=some t->args[j]?=some v->Value.okWide C.prog W .any base t v)->
   DataW.Whole enc C.prog fn.params.toList s.vars false W args.toList ds gs before->
   (DataW.weightsEach C.prog (fn.params.toList++s.plain.varTypes C.prog) (ds++gs)).all (·<=reachBytes)=true->
   Calls C.prog f args W fun e W'=>∃v,e=.returned v/\s.post enc C.prog fn false true false false W args v W':=by
 intro W hX base args ds gs before hval hW hwt
 have hW':=hW
 obtain⟨p,q,hA,hV,rfl,hfz,hnd⟩:=hW
 rw[hvars] at hV
 obtain⟨rfl,rfl⟩:=trodVars_none hV
 have hd:ds.length=fn.params.size:=by simpa using (trodAll_length hA).1
 obtain⟨avs,h1,h2,gb,hgb⟩:=law W hX base args ds p hval hA fun j t d ht hd'=>List.all_eq_true.2 fun n hn=>List.all_eq_true.1 hwt n (DataW.weights_mem_each (j:=j) (by
  rw[List.getElem?_append_left (X16.1 ht).1];exact ht) (by rw[List.getElem?_append_left (X16.1 hd').1];exact hd') n hn)
 obtain⟨o1,o2⟩:=h1.get
 refine (ZT h2 W hgb args (by simpa using o1) fun i hi=>by simpa[<- Array.getElem?_toList] using o2 i hi).mono fun e W' ⟨he,bel⟩=>?_
 subst he
 refine⟨_,rfl,ds,[],p++[],[],p,[],hW',?_,?_,?_,bel.frame _,fun h=>by cases h⟩
 ·rw[hfn ds hd,hres]
  exact trodAll_mk1 (shut_bool hb _)
 ·rw[hfn ds hd]
  exact Ls hl bel hread hA
 rw[hfn ds hd,hvars]
 rfl
end
theorem PL {tk:TK}{x:D}{l m:List (D×D)}(hp:l.Perm m)(hk :∀p∈l,∃n,p.1=.val (.int .i64 n))(hd:l.Pairwise fun a b=>a.1≠b.1){q:Option D}(h:BZ tk x l=some q):BZ tk x m=some q:=by
 induction hp generalizing q with
 | nil=>exact h
 | cons p hp ih=>
  simp only[BZ] at h ⊢
  have h1:=List.pairwise_cons.1 hd
  split at h
  ·exact h
  ·exact ih (fun p hp=>hk p (X19 _ hp)) h1.2 h
  cases h
 | swap a b l=>
  obtain⟨i,hi⟩:=hk b (by simp)
  obtain⟨j,hj⟩:=hk a (by simp)
  have hne:b.1≠a.1:=(List.pairwise_cons.1 hd).1 a (by simp)
  simp only[BZ,hi,hj] at h ⊢
  rw[hi,hj] at hne
  have hij:i≠j:=fun e=>hne (by rw[e])
  cases hx1:D1 tk x (.val (.int .i64 i)) with
  | none=>rw[hx1] at h;cases h
  | some b1=>
   have hx2 :∃b2,D1 tk x (.val (.int .i64 j))=some b2/\(b1=true->b2=false):=by
    unfold D1 at hx1 ⊢
    split at hx1
    ·rename_i kk a' kk' bb heq
     cases heq
     split at hx1
     ·rename_i hkk
      rw[if_pos hkk]
      refine⟨_,rfl,fun hb=>?_⟩
      obtain rfl:=X25 hx1
      simp only[beq_iff_eq] at hb
      subst hb
      simpa using hij
     cases hx1
    ·rename_i heq;cases heq
    ·rename_i heq;cases heq
    cases hx1
   obtain⟨b2,hx2,hb⟩:=hx2
   rw[hx1,hx2] at h
   rw[hx2]
   cases b1
   ·cases b2<;>exact h
   rw[hb rfl]
   exact h
 | trans h1 h2 ih1 ih2=>
  refine ih2 (fun p hp=>hk p (h1.mem_iff.2 hp)) ((h1.pairwise_iff fun h e=>h e.symm).1 hd) (ih1 hk hd h)
theorem TR {w:World}{arr:List MapEntry}(h :∀x∈arr,x.key.oneCell'=true/\x.val.oneCell'=true):EntsOK (fun _ _=>False) w (arr.map fun x=>(D.val x.key,D.val x.val)) arr:=by
 refine⟨by simp,fun i hi=>?_⟩
 have hi':i<arr.length:=by simpa using hi
 refine⟨arr[i],X15 hi',⟨arr[i].key,by simp,rfl,(h _ (List.getElem_mem hi')).1⟩,?_⟩
 simp only[List.getElem_map]
 exact .val _ (h _ (List.getElem_mem hi')).2
end Go.AX
end
section
namespace Go.AX
theorem UK {α σ ρ:Type}{done:σ->Option ρ}{body:(σ->Option ρ)->α->Nat->σ->Option ρ}(P:List α->Nat->σ->Prop)(F:List α->Nat->σ->Option ρ)
  (hd :∀i s,P [] i s->done s=F [] i s)
  (hs :∀(next:σ->Option ρ) x t i s,P (x::t) i s->(∀s,P t (i+1) s->next s=F t (i+1) s)->body next x i s=F (x::t) i s) :
  ∀(l:List α) (i:Nat) (s:σ),P l i s->Ao done body l i s=F l i s
 | [],i,s,h=>hd i s h
 | x::t,i,s,h=>hs _ x t i s h fun s' h'=>UK P F hd hs t (i+1) s' h'
theorem DW {σ ρ:Type}{body:(σ->Option ρ)->σ->Option ρ}(P:σ->Prop)(μ:σ->Nat)(F:σ->Option ρ)
  (hs :∀(next:σ->Option ρ) s,P s->(∀s',P s'->μ s'<μ s->next s'=F s')->body next s=F s) :
  ∀(n:Nat) (s:σ),P s->μ s<n->A6 body n s=F s
 | 0,s,_,h=>absurd h (Nat.not_lt_zero _)
 | n+1,s,h,hm=>hs _ s h fun s' h' hlt=>DW P μ F hs n s' h' (by omega)
theorem Tn {σ ρ:Type}{body:(σ->Option ρ)->σ->Option ρ}(P:σ->Prop)(μ:σ->Nat)(Q:ρ->Prop)
  (hs :∀(next:σ->Option ρ) s,P s->(∀s',P s'->μ s'<μ s->∃r,next s'=some r/\Q r)->∃r,body next s=some r/\Q r) :
  ∀(n:Nat) (s:σ),P s->μ s<n->∃r,A6 body n s=some r/\Q r
 | 0,s,_,h=>absurd h (Nat.not_lt_zero _)
 | n+1,s,h,hm=>hs _ s h fun s' h' hlt=>Tn P μ Q hs n s' h' (by omega)
theorem Ed {α:Type}{l:List α}{a b:Nat}(h1:a<=b)(h2:b<=l.length):part l (a:Int) (b:Int)=some ((l.drop a).take (b-a)):=by
 unfold part
 rw[if_pos (by omega)]
 simp
theorem Xt {α σ ρ:Type}{done:σ->Option ρ}{body:(σ->Option ρ)->α->Nat->σ->Option ρ}(P:List α->Nat->σ->Prop)(Q:ρ->Prop)
  (hd :∀i s,P [] i s->∃r,done s=some r/\Q r)
  (hs :∀(next:σ->Option ρ) x t i s,P (x::t) i s->(∀s,P t (i+1) s->∃r,next s=some r/\Q r)->∃r,body next x i s=some r/\Q r) :
  ∀(l:List α) (i:Nat) (s:σ),P l i s->∃r,Ao done body l i s=some r/\Q r
 | [],i,s,h=>hd i s h
 | x::t,i,s,h=>hs _ x t i s h fun s' h'=>Xt P Q hd hs t (i+1) s' h'
theorem JC {τ ρ:Type}(b:Prop)[Decidable b](x y:τ)(K:τ->Option ρ):AI (fun k=>if b then k x else k y) K=K (if b then x else y):=by
 unfold AI;split<;>rfl
theorem S3 (l:List UInt8):(bs l).toList=l:=by rw[ByteArray.toList_eq];simp[bs]
theorem B2 {n:Nat}(h:n<18446744073709551616):n<fuel:=h
theorem AO {α:Type}{b:Nat}{l m:List α}(hb:Nat.ble b 65536=true)(h:l.length+m.length<=1000000000):apnd b l m=some (l++m):=by
 unfold apnd
 have hb:=X29 hb
 rw[if_pos]
 refine⟨?_,by omega⟩
 calc _<=1000000000*65536:=Nat.mul_le_mul h hb
  _<=2^47:=by decide
theorem C7 {α:Type}{l:List α}{i:Nat}(h:i<l.length):geti l (i:Int)=some l[i]:=by
 unfold geti
 rw[if_pos (by omega)]
 simp[h]
theorem NG {α:Type}(pre:List α)(x:α)(t:List α):geti (pre++x::t) (pre.length:Int)=some x:=by
 rw[C7 (by simp)];simp
theorem AP {x:Int}(h:-9223372036854775808<=x/\x<=9223372036854775807):AN x=x:=U9 rfl h
theorem AC {α β:Type}(a:α)(f:α->Option β):(some a).bind f=f a:=Eq.trans rfl rfl
theorem AH {τ ρ:Type}(m:(τ->Option ρ)->Option ρ)(k:τ->Option ρ):AI m k=m k:=Eq.trans rfl rfl
theorem wk {np:Nat}{s s':ASt}(par:((List.range np).all fun r=>!(s.ob.getD r none).isSome || (s'.ob.getD r none).isSome)=true:=by rfl)
  (tm:tmW s s' s.tm s'.tm:=by
   repeat' (first
    | exact AvW.refl _
    | refine And.intro ?_ ?_
    | exact True.intro
    | exact AvW.norm _
    | exact AvW.fresh _ _ _ rfl rfl
    | exact AvW.lst _ _ _ _ _ _ rfl (by first | rfl | (simp only[X10];omega)) (.inl rfl)
    | exact AvW.lst _ _ _ _ _ _ rfl (by first | rfl | (simp only[X10];omega)) (.inr rfl)
    | exact AvW.ownL _ _ _ (by first | rfl | (simp only[X10];omega)|(simp only[cpy,X10,X11,X18,X17];omega))
    | exact AvW.osl _ _ _ _ _ (by first | rfl | (simp only[X10];omega))
    | exact AvW.oslD _ _ _ _ _ _ _ _ _ rfl (by first | rfl | (simp only[X10];omega)) Zf (.inl rfl)
    | exact AvW.oslD _ _ _ _ _ _ _ _ _ rfl (by first | rfl | (simp only[X10];omega)) Zf (.inr rfl)
    | refine AvW.tupL ?_
    | refine AvW.daggL rfl ?_
    | refine AvW.aggL rfl ?_
    | refine AvW.aggDL ?_
    | refine AvW.box _ _ _ _ rfl rfl rfl (Nat.zero_lt_succ _) ?_
    | exact rfl))
  (ob:obW s s' s.ob s'.ob:=by
   repeat' (first
    | exact AvW.refl _
    | refine And.intro ?_ ?_
    | exact rfl
    | exact True.intro
    | refine Exists.intro _ (And.intro rfl ?_)
    | exact .inl ⟨_,rfl,id,True.intro⟩
    | exact .inl ⟨_,rfl,fun _=>rfl,True.intro⟩
    | exact .inl ⟨_,rfl,id,.inr ⟨_,_,rfl,rfl,(by first | rfl | (simp only[X10];omega))⟩⟩
    | exact .inl ⟨_,rfl,id,.inl (X29 rfl)⟩
    | exact .inl ⟨_,rfl,id,.inl (Nat.le_of_eq (by assumption))⟩
    | exact .inr ⟨rfl,rfl,by decide⟩
    | exact .inl rfl
    | exact .inr ⟨_,_,_,rfl⟩
    | exact .inl ⟨_,rfl,(by first | rfl | (simp only[X10];omega))⟩
    | exact AvW.norm _
    | exact AvW.fresh _ _ _ rfl rfl
    | exact AvW.lst _ _ _ _ _ _ rfl (by first | rfl | (simp only[X10];omega)) (.inl rfl)
    | exact AvW.lst _ _ _ _ _ _ rfl (by first | rfl | (simp only[X10];omega)) (.inr rfl)
    | exact AvW.ownL _ _ _ (by first | rfl | (simp only[X10];omega)|(simp only[cpy,X10,X11,X18,X17];omega))
    | refine AvW.tupL ?_
    | refine AvW.daggL rfl ?_
    | refine AvW.aggL rfl ?_
    | refine AvW.aggDL ?_
    | refine AvW.box _ _ _ _ rfl rfl rfl (Nat.zero_lt_succ _) ?_))
  (closed:NM s'=true:=by rfl):Weak np s s':=.mk par tm ob closed
theorem bE {α:Type}{b:Nat}{r:List α}(h:Option.bind (apnd (α:=α) b [] []) (fun v=>some v)=some r):(some []:Option (List α))=some r:=by
 simpa[apnd] using h
end Go.AX
end
section
namespace Go.AX
open Go
def KZ:List AV->List AV->Prop
 | [],[]=>True
 | a::l,b::m=>(b=a \/∃sz,a=.d (.nil sz)/\b=.d (.lst sz []))/\KZ l m
 | _,_=>False
theorem Qv :∀{l m:List AV},KZ l m->l.length=m.length/\∀i (h:i<l.length) (h':i<m.length),m[i]=l[i] \/∃sz,l[i]=.d (.nil sz)/\m[i]=.d (.lst sz [])
 | [],[],_=>⟨rfl,fun i h=>by simp at h⟩
 | a::l,b::m,h=>by
  obtain⟨h1,h2⟩:=h
  obtain⟨g1,g2⟩:=Qv h2
  refine⟨by simp[g1],fun i hi hi'=>?_⟩
  cases i with
  | zero=>exact h1
  | succ i=>exact g2 i (by simpa using hi) (by simpa using hi')
 | [],_::_,h=>by simp[KZ] at h
 | _::_,[],h=>by simp[KZ] at h
theorem Pe :∀{l m:List AV},KZ l m->∀r∈AV.refs.refsL m,r∈AV.refs.refsL l
 | [],[],_,r,h=>h
 | a::l,b::m,h,r,hr=>by
  obtain⟨h1,h2⟩:=h
  simp only[AV.refs.refsL,X23] at hr ⊢
  rcases hr with hr | hr
  ·rcases h1 with rfl | ⟨sz,rfl,rfl⟩
   ·exact .inl hr
   simp[AV.refs] at hr
  exact .inr (Pe h2 r hr)
 | [],_::_,h,_,_=>by simp[KZ] at h
 | _::_,[],h,_,_=>by simp[KZ] at h
theorem CallsOK.box1 {wl:WL}{P:Program}{f:FuncId}{args:List AV}{cs cs':List AV}{res:AV}{objs':List OB}(h:CallsOK wl P f args [.box cs'] res objs')(hc:KZ cs cs'):CallsOK wl P f args [.box cs] res objs':=by
 obtain⟨c1,c2⟩:=Qv hc
 refine⟨h.1,fun w S φ gb hg vals hv ha hr m=>?_⟩
 have e0:ofL [OB.box cs] 0=some (.box cs):=rfl
 have e1:upd (ofL [OB.box cs]) 0 (some (.box cs'))=ofL [OB.box cs']:=by
  funext r
  cases r with
  | zero=>rfl
  | succ r=>simp[upd,ofL]
 have e2:upd φ 0 (φ 0)=φ:=by funext i;by_cases hi:i=0<;>simp[upd,hi]
 obtain⟨m',k'⟩:=m.set 0 (.box cs) (.box cs') w (φ 0) e0 (fun _ _ _=>rfl) (Nat.le_refl _) ⟨rfl,rfl,rfl,Nat.le_refl _⟩ (fun _ _ _ _ _=>rfl) (.inl rfl)
  (.inl ⟨upd_same _ _ _,by rw[upd_same,e0];rfl,fun _=>⟨cs,e0⟩⟩) (fun r' hr'=>m.men 0 _ e0 r' (Pe hc r' hr')) fun hk=>by
   obtain⟨b,c,vs,e,g,g1,g2,g3,g4,g5,g6⟩:=m.obj 0 _ e0
   refine⟨b,c,vs,e,g,by rw[upd_same];exact g1,g2,by omega,g4,fun j hj=>g5 j (by omega),fun j hj=>?_⟩
   obtain⟨o1,o2⟩:=g6 j (by omega)
   rcases c2 j (by omega) hj with q | ⟨sz,q1,q2⟩
   ·rw[q]
    refine⟨o1,hk.rep (fun r' hr'=>m.men 0 _ e0 r' ?_) o2⟩
    exact AV.refs_mem cs j (by omega) r' hr'
   rw[q1] at o2
   rw[q2]
   refine⟨rfl,?_⟩
   generalize g j=u at o2 ⊢
   cases o2 with | d _ _ o2=>
   cases o2 with | nil=>
   exact .d _ _ (.lst0 _ _ _)
 rw[e1,e2] at m' k'
 have hcl :∀r,ofL [OB.box cs] r≠none->ofL [OB.box cs'] r≠none:=fun r q=>k'.c r q
 refine (h.2 w S φ gb hg vals hv (fun i hi=>⟨k'.rep (ha i hi).2 (ha i hi).1,k'.closed (ha i hi).2⟩) hr m').mono ?_
 rintro e w' ⟨v,rfl,S',φ',q1,q2,q3,q4⟩
 exact⟨v,rfl,S',φ',q1,k'.trans q2,q3,q4⟩
end Go.AX
end
section
namespace Go.AX.Q19
open Go Go.AX Go.Proofs
def ti3:TI:=⟨.int .i64,1,8,[.val (.int .i64 0)]⟩
def ti4:TI:=⟨.bool,1,1,[.val (.bool false)]⟩
def ti5:TI:=⟨.int .u8,1,1,[.val (.int .u8 0)]⟩
def ti9:TI:=⟨.str,1,16,[.val (.string ByteArray.empty)]⟩
def gC:TI:=⟨.slice 3,1,24,[.nil 1]⟩
def iG:TI:=⟨.ptr,1,8,[.val (.pointer none)]⟩
def gg:TI:=⟨.slice 41,1,24,[.nil 4]⟩
def gJ:TI:=⟨.slice 132,1,24,[.nil 2]⟩
def hM:TI:=⟨.int .u64,1,8,[.val (.int .u64 0)]⟩
def gu:TI:=⟨.struct [(0,1,4),(1,1,27),(2,1,27)],3,24,[.val (.bool false),.val (.int .u64 0),.val (.int .u64 0)]⟩
def gG:TI:=⟨.struct [(0,1,4),(1,1,27),(2,1,27)],3,24,[.val (.bool false),.val (.int .u64 0),.val (.int .u64 0)]⟩
def gB:TI:=⟨.slice 137,1,24,[.nil 2]⟩
def gK:TI:=⟨.slice 141,1,24,[.nil 3]⟩
def gW:TI:=⟨.slice 88,1,24,[.nil 3]⟩
def gA:TI:=⟨.struct [(0,1,3),(1,1,26),(2,3,29),(5,1,3),(6,1,3),(7,1,3),(8,1,30),(9,1,31),(10,1,32)],11,152,[.val (.int .i64 0),.nil 2,.val (.bool false),.val (.int .u64 0),.val (.int .u64 0),.val (.int .i64 0),.val (.int .i64 0),.val (.int .i64 0),.nil 2,.nil 3,.nil 3]⟩
def gh:TI:=⟨.struct [(0,1,3),(1,1,26),(2,3,29),(5,1,3),(6,1,3),(7,1,3),(8,1,30),(9,1,31),(10,1,32)],11,152,[.val (.int .i64 0),.nil 2,.val (.bool false),.val (.int .u64 0),.val (.int .u64 0),.val (.int .i64 0),.val (.int .i64 0),.val (.int .i64 0),.nil 2,.nil 3,.nil 3]⟩
def gX:TI:=⟨.struct [(0,1,25),(1,11,34),(12,1,25)],13,200,[.nil 4,.val (.int .i64 0),.nil 2,.val (.bool false),.val (.int .u64 0),.val (.int .u64 0),.val (.int .i64 0),.val (.int .i64 0),.val (.int .i64 0),.nil 2,.nil 3,.nil 3,.nil 4]⟩
def gp:TI:=⟨.struct [(0,1,25),(1,11,34),(12,1,25)],13,200,[.nil 4,.val (.int .i64 0),.nil 2,.val (.bool false),.val (.int .u64 0),.val (.int .u64 0),.val (.int .i64 0),.val (.int .i64 0),.val (.int .i64 0),.nil 2,.nil 3,.nil 3,.nil 4]⟩
def gj:TI:=⟨.struct [(0,3,29),(3,1,3)],4,32,[.val (.bool false),.val (.int .u64 0),.val (.int .u64 0),.val (.int .i64 0)]⟩
def hY:TI:=⟨.struct [(0,3,29),(3,1,3)],4,32,[.val (.bool false),.val (.int .u64 0),.val (.int .u64 0),.val (.int .i64 0)]⟩
def gZ:TI:=⟨.slice 36,1,24,[.nil 13]⟩
def gq:TI:=⟨.slice 5,1,24,[.nil 1]⟩
def gk:TI:=⟨.int .i64,1,8,[.val (.int .i64 0)]⟩
def fx:TI:=⟨.slice 44,1,24,[.nil 1]⟩
def iD:TI:=⟨.fn,1,8,[.val .nilFunc]⟩
def fq:TI:=⟨.int .u64,1,8,[.val (.int .u64 0)]⟩
def gV:TI:=⟨.slice 4,1,24,[.nil 1]⟩
def gP:TI:=⟨.struct [(0,1,3),(1,1,44)],2,32,[.val (.int .i64 0),.nil 1]⟩
def gi:TI:=⟨.struct [(0,1,3),(1,1,44)],2,32,[.val (.int .i64 0),.nil 1]⟩
def iF:TI:=⟨.slice 72,1,24,[.nil 2]⟩
def iH:TI:=⟨.struct [(0,1,22),(1,1,3)],2,32,[.nil 1,.val (.int .i64 0)]⟩
def gU:TI:=⟨.struct [(0,1,22),(1,1,3)],2,32,[.nil 1,.val (.int .i64 0)]⟩
def gR:TI:=⟨.slice 29,1,24,[.nil 3]⟩
def hZ:TI:=⟨.struct [(0,1,3),(1,1,3),(2,1,44)],3,40,[.val (.int .i64 0),.val (.int .i64 0),.nil 1]⟩
def iC:TI:=⟨.struct [(0,1,3),(1,1,3),(2,1,44)],3,40,[.val (.int .i64 0),.val (.int .i64 0),.nil 1]⟩
def gx:TI:=⟨.ptr,1,8,[.val (.pointer none)]⟩
def fk:TI:=⟨.struct [(0,1,32),(1,3,29),(4,1,25),(5,1,25),(6,1,25),(7,1,25)],8,144,[.nil 3,.val (.bool false),.val (.int .u64 0),.val (.int .u64 0),.nil 4,.nil 4,.nil 4,.nil 4]⟩
def fg:TI:=⟨.struct [(0,1,32),(1,3,29),(4,1,25),(5,1,25),(6,1,25),(7,1,25)],8,144,[.nil 3,.val (.bool false),.val (.int .u64 0),.val (.int .u64 0),.nil 4,.nil 4,.nil 4,.nil 4]⟩
def fW:TI:=⟨.struct [(0,1,4),(1,1,22)],2,32,[.val (.bool false),.nil 1]⟩
def fX:TI:=⟨.struct [(0,1,4),(1,1,22)],2,32,[.val (.bool false),.nil 1]⟩
def fS:TI:=⟨.struct [(0,1,3),(1,1,3)],2,16,[.val (.int .i64 0),.val (.int .i64 0)]⟩
def fH:TI:=⟨.struct [(0,1,3),(1,1,3)],2,16,[.val (.int .i64 0),.val (.int .i64 0)]⟩
def eZ:TI:=⟨.struct [(0,1,3),(1,1,3),(2,1,3)],3,24,[.val (.int .i64 0),.val (.int .i64 0),.val (.int .i64 0)]⟩
def fh:TI:=⟨.struct [(0,1,3),(1,1,3),(2,1,3)],3,24,[.val (.int .i64 0),.val (.int .i64 0),.val (.int .i64 0)]⟩
def fZ:TI:=⟨.slice 27,1,24,[.nil 1]⟩
def eh:TI:=⟨.map 3 44,1,8,[.val (.map none)]⟩
def fC:TI:=⟨.slice 25,1,24,[.nil 1]⟩
def fL:TI:=⟨.fn,1,8,[.val .nilFunc]⟩
def fM:TI:=⟨.fn,1,8,[.val .nilFunc]⟩
def fA:TI:=⟨.ptr,1,8,[.val (.pointer none)]⟩
def fB:TI:=⟨.fn,1,8,[.val .nilFunc]⟩
def fU:TI:=⟨.fn,1,8,[.val .nilFunc]⟩
def fD:TI:=⟨.map 3 3,1,8,[.val (.map none)]⟩
def fF:TI:=⟨.map 3 4,1,8,[.val (.map none)]⟩
def fe:TI:=⟨.fn,1,8,[.val .nilFunc]⟩
def fb:TI:=⟨.map 3 180,1,8,[.val (.map none)]⟩
def eq:TI:=⟨.fn,1,8,[.val .nilFunc]⟩
def ej:TI:=⟨.fn,1,8,[.val .nilFunc]⟩
def eY:TI:=⟨.fn,1,8,[.val .nilFunc]⟩
def ey:TI:=⟨.int .u32,1,4,[.val (.int .u32 0)]⟩
def fE:TI:=⟨.ptr,1,8,[.val (.pointer none)]⟩
def tt:TT:=(.node 79 iH (.node 34 gh (.node 26 gJ (.node 9 ti9 (.node 4 ti4 (.node 3 ti3 .tip .tip) (.node 5 ti5 .tip .tip)) (.node 23 iG (.node 22 gC .tip .tip) (.node 25 gg .tip .tip))) (.node 30 gB (.node 28 gu (.node 27 hM .tip .tip) (.node 29 gG .tip .tip)) (.node 32 gW (.node 31 gK .tip .tip) (.node 33 gA .tip .tip)))) (.node 57 fx (.node 41 hY (.node 36 gp (.node 35 gX .tip .tip) (.node 40 gj .tip .tip)) (.node 44 gq (.node 43 gZ .tip .tip) (.node 45 gk .tip .tip))) (.node 71 gP (.node 67 fq (.node 64 iD .tip .tip) (.node 69 gV .tip .tip)) (.node 76 iF (.node 72 gi .tip .tip) .tip)))) (.node 155 fC (.node 131 fW (.node 88 iC (.node 83 gR (.node 80 gU .tip .tip) (.node 87 hZ .tip .tip)) (.node 100 fk (.node 99 gx .tip .tip) (.node 101 fg .tip .tip))) (.node 140 eZ (.node 136 fS (.node 132 fX .tip .tip) (.node 137 fH .tip .tip)) (.node 142 fZ (.node 141 fh .tip .tip) (.node 153 eh .tip .tip)))) (.node 180 fe (.node 167 fB (.node 164 fM (.node 159 fL .tip .tip) (.node 166 fA .tip .tip)) (.node 176 fD (.node 169 fU .tip .tip) (.node 178 fF .tip .tip))) (.node 197 eY (.node 189 eq (.node 182 fb .tip .tip) (.node 195 ej .tip .tip)) (.node 219 fE (.node 207 ey .tip .tip) .tip)))))
theorem bN:TabOk Tryz.prog tt:=U7 (by kernel_rfl)
end Go.AX.Q19
end
section
namespace Go.AX
section
variable {P:Program} {E:Env} {w w':World} {S:Sc} {φ:Nat->Option (Nat×Rp)} {ob:Nat->Option OB}
structure Grown (wl:Prop)(w w':World):Prop where
 hp :∀b,b<w.heap.size->w'.heap[b]?=w.heap[b]?
 sz:w.heap.size<=w'.heap.size
 os:w'.os=w.os
 out:w'.output=w.output
 tape:w'.tape=w.tape
 dr:wl\/w.drawn<=w'.drawn
theorem Grown.refl (wl:Prop)(w:World):Grown wl w w:=⟨fun _ _=>rfl,Nat.le_refl _,rfl,rfl,rfl,.inr (Nat.le_refl _)⟩
theorem Grown.trans {wl:Prop}{a b c:World}(h:Grown wl a b)(k:Grown wl b c):Grown wl a c:=
 ⟨fun n hn=>(k.hp n (Nat.lt_of_lt_of_le hn h.sz)).trans (h.hp n hn),Nat.le_trans h.sz k.sz,k.os.trans h.os,k.out.trans h.out,k.tape.trans h.tape,h.dr.elim .inl fun x=>k.dr.imp_right fun y=>Nat.le_trans x y⟩
theorem Grown.alloc {wl:Prop}(w:World)(o:Obj):Grown wl w (w.alloc o):=⟨fun b hb=>G3 w o hb,by simp,rfl,rfl,rfl,.inr (Nat.le_refl _)⟩
theorem Grown.drewN {wl:Prop}(w:World)(n:Nat):Grown wl w (w.drewN n):=⟨fun _ _=>rfl,Nat.le_refl _,rfl,rfl,rfl,.inr (Nat.le_add_right _ _)⟩
theorem Mem.grow (m:Mem E w S φ ob)(h:Grown E.wl.wl w w'):Mem E w' S φ ob/\Kept w S φ ob w' S φ ob:=
 m.grown h.hp h.sz ⟨h.os,h.out,h.tape,h.dr⟩
end
def eF (P : Program)(f : FuncId) : Prop := ∃ fn, P.funcs[f]? = some fn ∧ fn.name ≠ "runtime.NumGoroutine" ∧ fn.body.isSome = true
theorem ca {P : Program}{f : FuncId}{fn : Func}(h : P.funcs[f]? = some fn)(hn : (fn.name == "runtime.NumGoroutine") = false)(hb : fn.body.isSome = true) : eF P f := ⟨fn, h, by simpa using hn, hb⟩
end Go.AX
end
section
namespace Go.AX
open Go.RowKit
end Go.AX
end
section
namespace Go.AX
open Go.Sort
def ltC {X:Type}(cmp:X->X->Option Int)(a b:X):Bool:=match cmp a b with
 | some r=>decide (r<0)
 | none=>false
def VC {X:Type}(cmp:X->X->Option Int)(l:List X):Bool:=
 (l.all fun a=>l.all fun b=>(cmp a b).isSome)&&(l.all fun a=>!ltC cmp a a) &&
 (l.all fun a=>l.all fun b=>l.all fun c=>!(ltC cmp a b) || !(ltC cmp b c) || ltC cmp a c) &&
 (l.all fun a=>l.all fun b=>l.all fun c=>ltC cmp a b || ltC cmp b c || !(ltC cmp a c))&&decide (l.length<=1000000000)
def ixL {X:Type}(l:List X)(i:Nat):Option X:=l[min i (l.length-1)]?
def cfI {X:Type}(cmp:X->X->Option Int)(l:List X)(i j:Nat):Int:=match ixL l i,ixL l j with
 | some a,some b=>(cmp a b).getD 0
 | _,_=>0
def Gy {X:Type}(cmp:X->X->Option Int)(l:List X):Array Nat:=Sort.pdq (Proofs.ltOf (cfI cmp l)) (Array.range l.length) 0 l.length (Lib.bitLen l.length) true true
def EO {X:Type}(cmp:X->X->Option Int)(l:List X):Option (List X):=match VC cmp l with
 | true=>some ((Gy cmp l).toList.filterMap fun i=>l[i]?)
 | false=>none
section
variable {X:Type} {cmp:X->X->Option Int} {l:List X}
theorem JR (h:0<l.length)(i:Nat) :∃x∈l,ixL l i=some x:=by
 have hi:min i (l.length-1)<l.length:=by omega
 exact⟨l[min i (l.length-1)],List.getElem_mem hi,by unfold ixL;exact X15 hi⟩
theorem Ov (h:VC cmp l=true):(∀a∈l,∀b∈l,∃r,cmp a b=some r)/\(∀a∈l,ltC cmp a a=false)/\
  (∀a∈l,∀b∈l,∀c∈l,ltC cmp a b=true->ltC cmp b c=true->ltC cmp a c=true)/\(∀a∈l,∀b∈l,∀c∈l,ltC cmp a b=false->ltC cmp b c=false->ltC cmp a c=false)/\l.length<=1000000000:=by
 simp only[VC,X27,List.all_eq_true,decide_eq_true_eq] at h
 obtain⟨⟨⟨⟨h1,h2⟩,h3⟩,h4⟩,h5⟩:=h
 refine⟨fun a ha b hb=>Option.isSome_iff_exists.1 (h1 a ha b hb),fun a ha=>by simpa using h2 a ha,fun a ha b hb c hc g1 g2=>?_,fun a ha b hb c hc g1 g2=>?_,h5⟩
 ·have:=h3 a ha b hb c hc
  simpa[g1,g2] using this
 have:=h4 a ha b hb c hc
 simpa[g1,g2] using this
theorem bX (h1 :∀a∈l,∀b∈l,∃r,cmp a b=some r)(h2 :∀a∈l,ltC cmp a a=false)
  (h3 :∀a∈l,∀b∈l,∀c∈l,ltC cmp a b=true->ltC cmp b c=true->ltC cmp a c=true) (h4 :∀a∈l,∀b∈l,∀c∈l,ltC cmp a b=false->ltC cmp b c=false->ltC cmp a c=false) (h5:l.length<=1000000000):VC cmp l=true:=by
 simp only[VC,X27,List.all_eq_true,decide_eq_true_eq]
 refine⟨⟨⟨⟨fun a ha b hb=>Option.isSome_iff_exists.2 (h1 a ha b hb),fun a ha=>by simp[h2 a ha]⟩,fun a ha b hb c hc=>?_⟩,fun a ha b hb c hc=>?_⟩,h5⟩
 ·cases g1:ltC cmp a b
  ·simp
  cases g2:ltC cmp b c
  ·simp
  simp[h3 a ha b hb c hc g1 g2]
 cases g1:ltC cmp a b
 ·cases g2:ltC cmp b c
  ·simp[h4 a ha b hb c hc g1 g2]
  simp
 simp
theorem HI (i j:Nat)(a b:X)(ha:ixL l i=some a)(hb:ixL l j=some b):Proofs.ltOf (cfI cmp l) i j=ltC cmp a b:=by
 unfold Proofs.ltOf cfI ltC
 rw[ha,hb]
 cases h:cmp a b<;>simp[h]
theorem X7 (h:VC cmp l=true)(hl:0<l.length):SWO (Proofs.ltOf (cfI cmp l)):=by
 obtain⟨_,h2,h3,h4,_⟩:=Ov h
 refine⟨fun x=>?_,fun x y z=>?_,fun x y z=>?_⟩
 ·obtain⟨a,ha,ea⟩:=JR hl x
  rw[HI x x a a ea ea]
  exact h2 a ha
 ·obtain⟨a,ha,ea⟩:=JR hl x
  obtain⟨b,hb,eb⟩:=JR hl y
  obtain⟨c,hc,ec⟩:=JR hl z
  rw[HI _ _ _ _ ea eb,HI _ _ _ _ eb ec,HI _ _ _ _ ea ec]
  exact h3 a ha b hb c hc
 obtain⟨a,ha,ea⟩:=JR hl x
 obtain⟨b,hb,eb⟩:=JR hl y
 obtain⟨c,hc,ec⟩:=JR hl z
 rw[HI _ _ _ _ ea eb,HI _ _ _ _ eb ec,HI _ _ _ _ ea ec]
 exact h4 a ha b hb c hc
theorem Om (h:VC cmp l=true)(hl:0<l.length):(Gy cmp l).size=l.length/\(Gy cmp l).toList.Perm (List.range l.length)/\∀i j,i<j->j<l.length->Proofs.ltOf (cfI cmp l) (Gy cmp l)[j]! (Gy cmp l)[i]! = false:=by
 obtain⟨⟨h1,_,h2⟩,h3⟩:=pdq_sorts (Proofs.ltOf (cfI cmp l)) (X7 h hl) (Array.range l.length) 0 l.length (Lib.bitLen l.length) true true (Nat.zero_le _) (by simp) (Or.inl rfl)
 have h1:(Gy cmp l).size=l.length:=by simpa[Gy] using h1
 refine⟨h1,?_,fun i j hij hj=>h3 i j (Nat.zero_le _) hij hj⟩
 have e1:((Gy cmp l).extract 0 l.length)=Gy cmp l:=by rw[<- h1];exact Array.extract_size
 have e2:((Array.range l.length).extract 0 l.length)=Array.range l.length:=by
  have:(Array.range l.length).size=l.length:=by simp
  conv=>lhs;arg 3;rw[<- this]
  exact Array.extract_size
 have h2':((Gy cmp l).extract 0 l.length).toList.Perm ((Array.range l.length).extract 0 l.length).toList:=h2
 rw[e1,e2] at h2'
 simpa using h2'
theorem P4 (l:List X):(List.range l.length).filterMap (fun i=>l[i]?)=l:=by
 have :∀(n:Nat),n<=l.length->(List.range n).filterMap (fun i=>l[i]?)=l.take n:=by
  intro n
  induction n with
  | zero=>intro _;simp
  | succ n ih=>
   intro hn
   have hlt:n<l.length:=by omega
   rw[List.range_succ,List.filterMap_append,ih (by omega),List.take_add_one]
   simp[X15 hlt]
 rw[this _ (Nat.le_refl _),List.take_length]
theorem TJ {r:List X}(h:EO cmp l=some r)(hl:0<l.length):r.length=l.length/\∀i,i<l.length->(Gy cmp l)[i]!<l.length/\r[i]?=l[(Gy cmp l)[i]!]?:=by
 unfold EO at h
 split at h
 ·rename_i hs
  obtain⟨h1,h2,h3⟩:=Om hs hl
  obtain rfl:=X25 h
  have hm :∀i∈(Gy cmp l).toList,i<l.length:=fun i hi=>by simpa using h2.mem_iff.1 hi
  have key :∀(q:List Nat),(∀i∈q,i<l.length)->(q.filterMap fun i=>l[i]?).length=q.length/\∀j (hj:j<q.length),(q.filterMap fun i=>l[i]?)[j]?=l[q[j]]?:=by
   intro q
   induction q with
   | nil=>intro _;exact⟨rfl,fun j hj=>by simp at hj⟩
   | cons x q ih=>
    intro hq
    obtain⟨g1,g2⟩:=ih fun i hi=>hq i (X19 _ hi)
    have hx:=hq x (List.mem_cons_self ..)
    have e:(x::q).filterMap (fun i=>l[i]?)=l[x]::q.filterMap fun i=>l[i]?:=by
     rw[List.filterMap_cons,X15 hx]
    rw[e]
    refine⟨by simp[g1],fun j hj=>?_⟩
    cases j with
    | zero=>simp[X15 hx]
    | succ j=>simpa using g2 j (by simpa using hj)
  obtain⟨g1,g2⟩:=key (Gy cmp l).toList hm
  refine⟨by rw[g1];simpa using h1,fun i hi=>?_⟩
  have hi':i<(Gy cmp l).toList.length:=by simpa[h1] using hi
  have hget:(Gy cmp l)[i]! = (Gy cmp l).toList[i]:=by
   rw[getElem!_pos _ i (by simpa using hi')]
   simp
  rw[hget]
  exact⟨hm _ (List.getElem_mem hi'),g2 i hi'⟩
 simp at h
theorem MK {r:List X}(h:EO cmp l=some r):r.Perm l/\r.Pairwise fun a b=>ltC cmp b a=false:=by
 by_cases hl:0<l.length
 ·have h0:=h
  obtain⟨hlen,hget⟩:=TJ h hl
  unfold EO at h
  split at h
  ·rename_i hs
   obtain⟨h1,h2,h3⟩:=Om hs hl
   obtain rfl:=X25 h
   refine⟨?_,?_⟩
   ·have:=h2.filterMap fun i=>l[i]?
    rwa [P4] at this
   rw[List.pairwise_iff_getElem]
   intro i j hi hj hij
   have hi':i<l.length:=by omega
   have hj':j<l.length:=by omega
   obtain⟨p1,p2⟩:=hget i hi'
   obtain⟨q1,q2⟩:=hget j hj'
   rw[X15 hi,X15 p1] at p2
   rw[X15 hj,X15 q1] at q2
   have:=h3 i j hij hj'
   rw[HI (cmp:=cmp) (l:=l) _ _ _ _ (by unfold ixL;rw[Nat.min_eq_left (by omega)];exact X15 q1) (by unfold ixL;rw[Nat.min_eq_left (by omega)];exact X15 p1)] at this
   rw[X25 p2,X25 q2]
   exact this
  simp at h
 have:l=[]:=List.eq_nil_of_length_eq_zero (by omega)
 subst this
 unfold EO at h
 split at h
 ·obtain rfl:=X25 h
  have:(Gy cmp ([]:List X)).toList.filterMap (fun i=>([]:List X)[i]?)=[]:=by simp
  rw[this]
  exact⟨.refl _,.nil⟩
 simp at h
theorem G0 {r:List X}(h:EO cmp l=some r):r.length=l.length:=(MK h).1.length_eq
theorem W1 (h:VC cmp l=true) :∃r,EO cmp l=some r:=by
 unfold EO
 rw[h]
 exact⟨_,rfl⟩
end
def Lm (l:List Int):Option (List Int):=if l.length<4611686018427387904 then some (l.mergeSort fun x y=>decide (x<=y)) else none
theorem ZS {l r:List Int}(h:Lm l=some r):r.length=l.length:=by
 unfold Lm at h
 split at h
 ·obtain rfl:=X25 h;simp
 simp at h
end Go.AX
end
