/-
  Texts of one proof, packed.
-/
import Derived.Test.YtckndjeehbfpkaaGreatDoorK1
import Derived.MapKept
set_option linter.all false
set_option maxRecDepth 100000
set_option maxHeartbeats 4000000
open List renaming length_append→X11,mem_singleton→X14,getElem?_eq_getElem→X15,getElem?_eq_some_iff→X16,length_drop→X17,length_take→X18,length_replicate→X20,mem_append→X23
open Option.some renaming injEq→X24,inj→X25
open Prod.mk renaming injEq→X26
open Bool renaming and_eq_true→X27
open Nat renaming le_of_ble_eq_true→X29,eq_of_beq_eq_true→X30,mul_le_mul_right→X31,add_mul→X32
section
namespace Go.AX
open MapKept
section
variable {P:Program} {T:TT} {E:Env} {w:World} {S:Sc} {φ:Nat->Option (Nat×Rp)} {ob:Nat->Option OB}
theorem KV (hT:TabOk P T){k:Nat}(hk:Ig (T.get k).kind=true)(hkn:BS T k=true) :∃d,P.underlying k=some d/\(∀u,I0 (T.get k).kind u=true->IsKey d u)/\
  ∀(u u':Value) (b:Bool),E0 (T.get k).kind (.val u) (.val u')=some b->Instr.sameNow d u u'=some b/\(b=true->u'=u):=by
 have h:=(hT.of (A7 hkn)).kind
 cases hq:(T.get k).kind<;>simp[hq,Ig] at hk<;>rw[hq] at h<;>simp only[KindOk] at h
 ·refine⟨_,h,fun u hu=>by cases u<;>simp[I0] at hu<;>simp[IsKey],fun u u' b hb=>?_⟩
  cases u<;>cases u'<;>simp[E0] at hb
  subst hb
  exact⟨rfl,fun e=>by simp at e;rw[e]⟩
 ·rename_i kk
  refine⟨_,h,fun u hu=>by cases u<;>simp[I0] at hu<;>simp[IsKey,hu],fun u u' b hb=>?_⟩
  cases u<;>cases u'<;>simp[E0] at hb
  obtain⟨rfl,rfl⟩:=hb
  exact⟨by simp[Instr.sameNow],fun e=>by simp at e;rw[e]⟩
 refine⟨_,h,fun u hu=>by cases u<;>simp[I0] at hu<;>simp[IsKey],fun u u' b hb=>?_⟩
 cases u<;>cases u'<;>simp[E0] at hb
 subst hb
 exact⟨rfl,fun e=>by rw[(bytes_beq _ _).1 e]⟩
theorem EntsOK.tail {p:D×D}{es:List (D×D)}{x:MapEntry}{l:List MapEntry}(h:EntsOK S w (p::es) (x::l)):(∃u,p.1=.val u/\x.key=u/\u.oneCell'=true)/\RepD S w p.2 x.val/\EntsOK S w es l:=by
 obtain⟨h1,h2⟩:=h
 obtain⟨y,e,a,b⟩:=h2 0 (by simp)
 simp at e
 subst e
 refine⟨a,b,by simpa using h1,fun i hi=>?_⟩
 obtain⟨y,e,a,b⟩:=h2 (i+1) (by simpa using hi)
 exact⟨y,by simpa using e,a,b⟩
theorem Na {tk:TK}{d:TypeDesc}{u:Value}(hd :∀(u':Value) (b:Bool),E0 tk (.val u) (.val u')=some b->Instr.sameNow d u u'=some b/\(b=true->u'=u)) :
  ∀(es:List (D×D)) (l:List MapEntry) (off:Nat) (q:Option D),EntsOK S w es l->CQ tk (.val u) es=some q->
   (q=none/\Instr.findNow d u l off=some none/\∀v,GG tk (.val u) v es=some (es++[(.val u,v)])) \/
   ∃j x v,q=some v/\l[j]?=some x/\x.key=u/\j<es.length/\RepD S w v x.val/\Instr.findNow d u l off=some (some (off+j,x.val))/\∀v,GG tk (.val u) v es=some (es.set j (.val u,v))
 | [],[],off,q,_,hq=>by simp[CQ] at hq;exact .inl ⟨hq.symm,rfl,fun v=>rfl⟩
 | [],_::_,_,_,h,_=>by simp[EntsOK] at h
 | _::_,[],_,_,h,_=>by simp[EntsOK] at h
 | p::es,x::l,off,q,h,hq=>by
  obtain⟨⟨u',e1,e2,_⟩,hv,ht⟩:=h.tail
  simp only[CQ,e1] at hq
  cases hb:E0 tk (.val u) (.val u') with
  | none=>simp[hb] at hq
  | some b=>
   obtain⟨s1,s2⟩:=hd u' b hb
   cases b with
   | true=>
    simp only[hb,X24] at hq
    exact .inr ⟨0,x,p.2,hq.symm,rfl,by rw[e2];exact s2 rfl,by simp,hv,by simp[Instr.findNow,e2,s1],fun v=>by simp[GG,e1,hb]⟩
   | false=>
    simp only[hb] at hq
    rcases Na hd es l (off+1) q ht hq with ⟨g1,g2,g3⟩|⟨j,y,v,g1,g2,g3,g4,g5,g6,g7⟩
    ·exact .inl ⟨g1,by simp[Instr.findNow,e2,s1,g2],fun v=>by simp[GG,e1,hb,g3]⟩
    exact .inr ⟨j+1,y,v,g1,by simpa using g2,g3,by simp;omega,g5,by simp[Instr.findNow,e2,s1,g6];omega,fun v=>by simp[GG,e1,hb,g7]⟩
theorem Re {tk:TK}{x v:D} :∀{es zs:List (D×D)},GG tk x v es=some zs->∃q,CQ tk x es=some q
 | [],_,_=>⟨none,rfl⟩
 | p::es,zs,h=>by
  simp only[GG] at h
  simp only[CQ]
  cases hb:E0 tk x p.1 with
  | none=>simp[hb] at h
  | some b=>
   cases b with
   | true=>exact⟨_,rfl⟩
   | false=>
    simp only[hb,Option.map_eq_some_iff] at h
    obtain⟨zs',h1,_⟩:=h
    exact Re h1
theorem Qo {r k e:Nat}{es:List (D×D)}(h:ObjOK S w φ ob r (.map k e es)) :∃b c arr clock,φ r=some (b,c)/\w.heap[b]?=some (.map arr clock)/\((∀o,¬ S b o)/\BornOK arr clock)/\EntsOK S w es arr.toList:=by
 obtain⟨b,c,arr,clock,h1,h2,h3,h4,h5⟩:=h
 exact⟨b,c,arr,clock,h1,h2,⟨h4,h3.2⟩,by simpa using h3.1,fun i hi=>by simpa using h5 i hi⟩
theorem PM {r k e r' n:Nat}{kv:Value}{es:List (D×D)}(h:ObjOK S w φ ob r (.amap k e es kv r' n)) :∃b c arr clock,φ r=some (b,c)/\w.heap[b]?=some (.map arr clock)/\((∀o,¬ S b o)/\BornOK arr clock)/\EntsOK S w es arr.toList/\
  AliasP kv (RepA S w φ ob (.own r' n)) arr.toList:=by
 obtain⟨b,c,arr,clock,h1,h2,h3,h4,h5,h6⟩:=h
 exact⟨b,c,arr,clock,h1,h2,⟨h4,h3.2⟩,⟨by simpa using h3.1,fun i hi=>by simpa using h5 i hi⟩,h6⟩
theorem Ja (tk:TK)(u:Value):E0 tk (.val u) (.val u)≠some false:=by
 cases tk<;>cases u<;>simp[E0]
 exact (bytes_beq _ _).2 rfl
theorem PL {tk:TK}{d:TypeDesc}{u:Value}{Q:Value->Prop}(hd :∀(u':Value) (b:Bool),E0 tk (.val u) (.val u')=some b->Instr.sameNow d u u'=some b/\(b=true->u'=u)) :
  ∀(es:List (D×D)) (l:List MapEntry) (off:Nat) (q:Option D),EntsOK S w es l->CQ tk (.val u) es=some q->AliasP u Q l->(q=none->Q (.slice none 0 0))/\∀p,Instr.findNow d u l off=some (some p)->Q p.2
 | [],[],off,q,_,hq,ha=>⟨fun _=>ha,fun p hp=>by simp[Instr.findNow] at hp⟩
 | [],_::_,_,_,h,_,_=>by simp[EntsOK] at h
 | _::_,[],_,_,h,_,_=>by simp[EntsOK] at h
 | p::es,x::l,off,q,h,hq,ha=>by
  obtain⟨⟨u',e1,e2,_⟩,hv,ht⟩:=h.tail
  simp only[CQ,e1] at hq
  cases hb:E0 tk (.val u) (.val u') with
  | none=>simp[hb] at hq
  | some b=>
   obtain⟨s1,s2⟩:=hd u' b hb
   cases b with
   | true=>
    simp only[hb,X24] at hq
    refine⟨fun e=>by rw[<- hq] at e;simp at e,fun p hp=>?_⟩
    simp only[Instr.findNow,e2,s1,X24] at hp
    rw[<- hp]
    exact ha.1 (by rw[e2];exact s2 rfl)
   | false=>
    simp only[hb] at hq
    have hne:x.key≠u:=fun he=>by rw[<- e2,he] at hb;exact Ja _ _ hb
    obtain⟨g1,g2⟩:=PL hd es l (off+1) q ht hq (ha.2 hne)
    exact⟨g1,fun p hp=>g2 p (by simpa[Instr.findNow,e2,s1] using hp)⟩
theorem PP {tk:TK}{d:TypeDesc}{u:Value}{Q:Value->Prop}(hd :∀(u':Value) (b:Bool),E0 tk (.val u) (.val u')=some b->Instr.sameNow d u u'=some b/\(b=true->u'=u)){y:MapEntry}(hy:y.key=u)(hQ:Q y.val)
  {f:MapEntry->MapEntry} (hf :∀x,(f x).key=u/\Q (f x).val) :
  ∀(es:List (D×D)) (l:List MapEntry) (off:Nat) (q:Option D),EntsOK S w es l->CQ tk (.val u) es=some q->
   (q=none->AliasP u Q (l++[y]))/\∀j v,Instr.findNow d u l off=some (some (off+j,v))->AliasP u Q (l.modify j f)
 | [],[],off,q,_,hq=>⟨fun _=>⟨fun _=>hQ,fun e=>absurd hy e⟩,fun j v hp=>by simp[Instr.findNow] at hp⟩
 | [],_::_,_,_,h,_=>by simp[EntsOK] at h
 | _::_,[],_,_,h,_=>by simp[EntsOK] at h
 | p::es,x::l,off,q,h,hq=>by
  obtain⟨⟨u',e1,e2,_⟩,hv,ht⟩:=h.tail
  simp only[CQ,e1] at hq
  cases hb:E0 tk (.val u) (.val u') with
  | none=>simp[hb] at hq
  | some b=>
   obtain⟨s1,s2⟩:=hd u' b hb
   cases b with
   | true=>
    simp only[hb,X24] at hq
    refine⟨fun e=>by rw[<- hq] at e;simp at e,fun j v hp=>?_⟩
    simp only[Instr.findNow,e2,s1,X24,X26] at hp
    obtain rfl:j=0:=by omega
    simp only[List.modify_zero_cons]
    exact⟨fun _=>(hf x).2,fun e=>absurd (hf x).1 e⟩
   | false=>
    simp only[hb] at hq
    have hne:x.key≠u:=fun he=>by rw[<- e2,he] at hb;exact Ja _ _ hb
    obtain⟨g1,g2⟩:=PP hd hy hQ hf es l (off+1) q ht hq
    refine⟨fun e=>⟨fun e'=>absurd e' hne,fun _=>g1 e⟩,fun j v hp=>?_⟩
    simp only[Instr.findNow,e2,s1] at hp
    cases j with
    | zero=>
     have hge :∀(l:List MapEntry) (o:Nat) (p:Nat×Value),Instr.findNow d u l o=some (some p)->o<=p.1:=by
      intro l
      induction l with
      | nil=>intro o p h;simp[Instr.findNow] at h
      | cons a l ih=>
       intro o p h
       simp only[Instr.findNow] at h
       split at h
       ·simp only[X24] at h;rw[<- h];exact Nat.le_refl _
       ·exact Nat.le_of_succ_le (ih _ _ h)
       simp at h
     have:=hge l (off+1) _ hp
     exact absurd this (by simp)
    | succ j=>
     simp only[List.modify_succ_cons]
     exact⟨fun e'=>absurd e' hne,fun _=>g2 j v (by rw[hp];congr 3;omega)⟩
theorem Jz {tk:TK}{u:Value}{Q:Value->Prop}(hr:E0 tk (.val u) (.val u)≠some false) :∀(es:List (D×D)) (l:List MapEntry),EntsOK S w es l->CQ tk (.val u) es=some none->Q (.slice none 0 0)->AliasP u Q l
 | [],[],_,_,hQ=>hQ
 | [],_::_,h,_,_=>by simp[EntsOK] at h
 | _::_,[],h,_,_=>by simp[EntsOK] at h
 | p::es,y::l,h,hq,hQ=>by
  obtain⟨⟨u',e1,e2,_⟩,hv,ht⟩:=h.tail
  simp only[CQ,e1] at hq
  cases hb:E0 tk (.val u) (.val u') with
  | none=>simp[hb] at hq
  | some b=>
   cases b with
   | true=>simp[hb] at hq
   | false=>
    simp only[hb] at hq
    exact⟨fun he=>by rw[<- e2,he] at hb;exact absurd hb hr,fun _=>Jz hr es l ht hq hQ⟩
theorem YV (hT:TabOk P T){e:Nat}(hkn:BS T e=true)(hs:Rr T e=true):(zeroValue e).run P w=.ok (.slice none 0 0) w:=by
 obtain⟨ie,z0,hie,hi1,hi2,hz0,hz1,hz2,hz3⟩:=(hT.of (A7 hkn)).info
 obtain⟨a1,a2⟩:=(hT.of (A7 hkn)).aggz ie z0 hie hz0
 unfold Rr at hs
 split at hs
 ·rename_i q s h1 h2
  have hna:=a2 (by rw[h1];rfl)
  have hz:z0.cells=#[z0]:=by cases z0<;>first | rfl | exact absurd rfl (hna _)
  have:=hz3 0 (by rw[h2];simp) z0 (by rw[hz];rfl)
  simp only[h2,List.getElem_cons_zero,Iu] at this
  subst this
  simp[zeroValue,typeInfo,hie,hz0]
 simp at hs
theorem Oy (hT:TabOk P T){e:Nat}(hkn:BS T e=true)(hpos:0<(T.get e).size)(h1:RF T e=true) :∃z,(zeroValue e).run P w=.ok z w/\RepD S w (Nc T e) z:=by
 obtain⟨ie,z0,hie,hi1,hi2,hz0,hz1,hz2,hz3⟩:=(hT.of (A7 hkn)).info
 refine⟨z0,by simp[zeroValue,typeInfo,hie,hz0],?_⟩
 unfold Nc
 refine RepD.norm ?_
 obtain⟨a1,a2⟩:=(hT.of (A7 hkn)).aggz ie z0 hie hz0
 have hcell :∀j (hj:j<(T.get e).zero.length),∃u,z0.cells[j]?=some u/\(T.get e).zero[j].isAgg=false/\RepD S w (T.get e).zero[j] u:=by
  intro j hj
  have hj1:j<z0.cells.size:=by omega
  have hx0:=hz3 j hj z0.cells[j] (by simp[hj1])
  obtain⟨a1,a2⟩:=LL (S:=S) (w:=w) hx0
  exact⟨_,by simp[hj1],a1,a2⟩
 unfold RF at h1
 split
 ·rename_i hc
  obtain⟨cs,rfl⟩:=a1 hc
  refine .agg _ cs (fun i=>cs.getD i undef) (by simpa[Value.cells,hz2] using hz1) (fun i hi=>?_) (fun i hi=>(hcell i hi).choose_spec.2.1) fun i hi=>?_
  ·have:i<cs.size:=by
    have:=hz1
    simp only[Value.cells] at this
    omega
   simp[this]
  obtain⟨u,q1,q2,q3⟩:=hcell i hi
  have q1:cs[i]?=some u:=q1
  simp only[Array.getD_eq_getD_getElem?,q1,Option.getD_some]
  exact q3
 rename_i hc
 have h1:Nat.beq (T.get e).size 1=true:=by
  split at h1
  ·rename_i hq;exact absurd hq hc
  exact h1
 have h1:=X30 h1
 have hcf:(T.get e).kind.cls=some false:=by
  have:=A7 hkn
  cases hq:(T.get e).kind.cls with
  | none=>exact absurd hq this
  | some b=>cases b with
   | true=>exact absurd hq hc
   | false=>rfl
 have hna:=a2 hcf
 have hz:z0.cells=#[z0]:=by cases z0<;>first | rfl | exact absurd rfl (hna _)
 have hl:(T.get e).zero.length=1:=by omega
 obtain⟨x,hx⟩:=List.length_eq_one_iff.1 hl
 obtain⟨u,q1,q2,q3⟩:=hcell 0 (by omega)
 rw[hz] at q1
 simp at q1
 subst q1
 simp only[hx,List.getElem_cons_zero] at q3
 rw[hx]
 exact q3
theorem U6 {obl:List (Option OB)}(hT:TabOk P T){t k e:Nat}{vk kv:Value}{ok:Bool}{K:AV->Prop}{es:List (D×D)}{bb:Nat}{arr:Array MapEntry}{clock:Nat}(hkind:(T.get t).kind=.map k e)
  (hk:RepA S w φ (fun r=>obl.getD r none) (.d (.val kv)) vk) (c0:I0 (T.get k).kind kv=true) (c1:Ig (T.get k).kind=true) (c2:BS T k=true) (c3:BS T e=true) (c4:Nat.blt 0 (T.get e).size=true) (c5:RF T e=true)
  (h2:w.heap[bb]?=some (.map arr clock)) (h4:EntsOK S w es arr.toList)
  (h :∃q,CQ (T.get k).kind (.val kv) es=some q/\∃v,q.getD (Nc T e)=v/\∃b,q.isSome=b/\K (match (generalizing:=false) ok with
     | true=>.tup [.d v,.b b]
     | false=>.d v)) :∃out u,K out/\(Instr.lookup t (.map (some bb)) vk ok).run P w=.ok u w/\RepA S w φ (fun r=>obl.getD r none) out u/\Closed (fun r=>obl.getD r none) out:=by
 obtain⟨q,hq,v,hv,b,hb,hK⟩:=h
 obtain⟨d,hd,hik,hkey⟩:=KV hT c1 c2
 have hkv:=hk.val
 subst hkv
 have hm:P.underlying t=some (.map k e):=by
  have:=(hT.of (t:=t) (by rw[hkind];simp[TK.cls])).kind
  rwa [hkind] at this
 have hpos:0<(T.get e).size:=X29 c4
 obtain⟨z,hz,hzr⟩:=Oy (P:=P) (w:=w) (S:=S) hT c3 hpos c5
 have hck :∀em,(Instr.checkKey em 10000 k vk).run P w=.ok () w:=by
  intro em
  exact run_checkKey hd (hik _ c0) em 9999
 rcases Na (S:=S) (w:=w) (tk:=(T.get k).kind) (d:=d) (u:=vk) (fun u' b=>hkey vk u' b) es arr.toList 0 q h4 hq with ⟨g1,g2,_⟩|⟨j,y,v',g1,g2,g3,g4,g5,g6,_⟩
 ·subst g1
  simp only[Option.getD_none,Option.isSome_none] at hv hb
  subst hv hb
  refine⟨_,(if ok then .tuple #[z,.bool false] else z),hK,?_,?_,?_⟩
  ·unfold Instr.lookup
   simp[run_underlying hm,MapKept.run_getObj_map h2,hck,run_findKey hd g2,hz,Result.andThen]
  ·cases ok
   ·exact .d _ _ hzr
   exact .tup _ _ (fun i=>if i=0 then z else .bool false) rfl (fun i hi=>by
    match i,hi with
    | 0,_=>rfl
    | 1,_=>rfl) fun i hi=>by
    match i,hi with
    | 0,_=>exact .d _ _ hzr
    | 1,_=>exact .d _ _ (.val _ rfl)
  cases ok
  ·exact BJ _ _
  intro r' hr';simp[AV.refs,AV.refs.refsL] at hr'
 subst g1
 simp only[Option.getD_some,Option.isSome_some] at hv hb
 subst hv hb
 refine⟨_,(if ok then .tuple #[y.val,.bool true] else y.val),hK,?_,?_,?_⟩
 ·unfold Instr.lookup
  simp[run_underlying hm,MapKept.run_getObj_map h2,hck,run_findKey hd g6,Result.andThen]
 ·cases ok
  ·exact .d _ _ g5
  exact .tup _ _ (fun i=>if i=0 then y.val else .bool true) rfl (fun i hi=>by
   match i,hi with
   | 0,_=>rfl
   | 1,_=>rfl) fun i hi=>by
   match i,hi with
   | 0,_=>exact .d _ _ g5
   | 1,_=>exact .d _ _ (.val _ rfl)
 cases ok
 ·exact BJ _ _
 intro r' hr';simp[AV.refs,AV.refs.refsL] at hr'
theorem V9 {obl:List (Option OB)}(hT:TabOk P T)(m:Mem E w S φ (fun r=>obl.getD r none)){t:Nat}{x key:AV}{vx vk:Value}{ok:Bool}{K:AV->Prop}
  (hx:RepA S w φ (fun r=>obl.getD r none) x vx) (hk:RepA S w φ (fun r=>obl.getD r none) key vk) (h:Xq T t x key ok obl K) :
  ∃out u,K out/\(Instr.lookup t vx vk ok).run P w=.ok u w/\RepA S w φ (fun r=>obl.getD r none) out u/\Closed (fun r=>obl.getD r none) out:=by
 unfold Xq at h
 split at h
 ·rename_i k e r kv hkind
  simp only[AI,X27,A1] at h
  obtain⟨⟨⟨⟨⟨⟨c0,c1⟩,c2⟩,c3⟩,c4⟩,c5⟩,o,ho,h⟩:=h
  have look :∀(es:List (D×D)),(∃b c arr clock,φ r=some (b,c)/\w.heap[b]?=some (.map arr clock)/\((∀o,¬ S b o)/\BornOK arr clock)/\EntsOK S w es arr.toList)->
    (∃q,CQ (T.get k).kind (.val kv) es=some q/\∃v,q.getD (Nc T e)=v/\∃b,q.isSome=b/\K (match (generalizing:=false) ok with
     | true=>.tup [.d v,.b b]
     | false=>.d v))->∃out u,K out/\(Instr.lookup t vx vk ok).run P w=.ok u w/\RepA S w φ (fun r=>obl.getD r none) out u/\Closed (fun r=>obl.getD r none) out:=by
   intro es ⟨bb,c,arr,clock,h1,h2,h3,h4⟩ h
   cases hx with | mp _ b' c' hφ hb1 hb2=>
   rw[h1] at hφ
   simp only[X24,X26] at hφ
   obtain⟨rfl,rfl⟩:=hφ
   exact U6 hT hkind hk c0 c1 c2 c3 c4 c5 h2 h4 h
  cases o with
  | box=>simp at h
  | row=>simp at h
  | gone=>simp at h
  | map k' e' es=>exact look es (Qo (m.obj r _ ho)) h
  | amap k' e' es kv' r' n'=>
   obtain⟨bb,c,arr,clock,h1,h2,h3,h4,h5⟩:=PM (m.obj r _ ho)
   rcases h with h | ⟨rfl,rfl,⟨q,hq⟩,hsl,hK⟩
   ·exact look es ⟨bb,c,arr,clock,h1,h2,h3,h4⟩ h
   have hcl:Closed (fun r=>obl.getD r none) (.own r' n'):=fun q hq=>m.men r _ ho q (by simpa[AV.refs,OB.refs] using hq)
   obtain⟨d,hd,hik,hkey⟩:=KV hT c1 c2
   cases hx with | mp _ b' c' hφ hb1 hb2=>
   rw[h1] at hφ
   simp only[X24,X26] at hφ
   obtain⟨rfl,rfl⟩:=hφ
   have hkv:=hk.val
   subst hkv
   have hm:P.underlying t=some (.map k e):=by
    have:=(hT.of (t:=t) (by rw[hkind];simp[TK.cls])).kind
    rwa [hkind] at this
   have hck :∀em,(Instr.checkKey em 10000 k vk).run P w=.ok () w:=by
    intro em
    exact run_checkKey hd (hik _ c0) em 9999
   rcases Na (S:=S) (w:=w) (tk:=(T.get k).kind) (d:=d) (u:=vk) (fun u' b=>hkey vk u' b) es arr.toList 0 q h4 hq with ⟨g1,g2,_⟩|⟨j,y,v',g1,g2,g3,g4,g5,g6,_⟩
   ·subst g1
    refine⟨_,.slice none 0 0,hK,?_,(PL (fun u' b=>hkey vk u' b) es arr.toList 0 _ h4 hq h5).1 rfl,hcl⟩
    unfold Instr.lookup
    simp[run_underlying hm,MapKept.run_getObj_map h2,hck,run_findKey hd g2,YV (P:=P) (w:=w) hT c3 hsl,Result.andThen]
   refine⟨_,y.val,hK,?_,(PL (fun u' b=>hkey vk u' b) es arr.toList 0 _ h4 hq h5).2 _ g6,hcl⟩
   unfold Instr.lookup
   simp[run_underlying hm,MapKept.run_getObj_map h2,hck,run_findKey hd g6,Result.andThen]
 exact h.elim
theorem EntsOK.mono {S':Sc}{w':World}(hk:Nk S w S' w'){es:List (D×D)}{l:List MapEntry}(h:EntsOK S w es l):EntsOK S' w' es l:=
 ⟨h.1,fun i hi=>by obtain⟨x,a,b,c⟩:=h.2 i hi;exact⟨x,a,b,c.mono hk⟩⟩
theorem Vm {obl:List (Option OB)}(hT:TabOk P T)(m:Mem E w S φ (fun r=>obl.getD r none)){t:Nat}{a:AV}{v:Value}{K:AV->Prop}(ha:RepA S w φ (fun r=>obl.getD r none) a v)
  (hc:Closed (fun r=>obl.getD r none) a) (h:X1 T E.wl.G t a obl K) :
  ∃out u,K out/\(Instr.loadAt t v).run P w=.ok u w/\RepA S w φ (fun r=>obl.getD r none) out u/\Closed (fun r=>obl.getD r none) out:=by
 unfold X1 at h
 split at h
 ·rename_i g
  split at h
  ·rename_i k e es hkind hG
   cases ha
   obtain⟨g1,b,arr,clock,es',g2,g3,g4,g6,g5⟩:=E.wl.ext _ _ _ (fun b hb=>m.fr b (E.hg.lt b hb) (E.hg.pb b hb)) E.hg.gf g es hG
   have hkn:(T.get t).kind.cls=some false:=by rw[hkind];rfl
   have hS:S g 0:=m.sS g 0 (E.hg.st g 0 g1 (by
    intro hn
    rw[<- C4 (m.fr g (E.hg.lt g g1) (E.hg.pb g g1)) 0,g3] at hn
    simp at hn))
   refine⟨_,_,h,?_,.gv g _ hS g3,fun r hr=>by simp[AV.refs] at hr⟩
   obtain⟨d,hu,hd⟩:=(hT.of (t:=t) (by rw[hkn];simp)).kind.plain hkn
   simp only[Instr.loadAt,Instr.sureAddr,Sem.run_bind,Sem.run_pure,Result.andThen_ok,EL hu hd g3]
  exact h.elim
 exact Py hT m ha hc h
theorem VH {obl:List (Option OB)}(hT:TabOk P T)(m:Mem E w S φ (fun r=>obl.getD r none)){t:Nat}{x key:AV}{vx vk:Value}{ok:Bool}{K:AV->Prop}
  (hx:RepA S w φ (fun r=>obl.getD r none) x vx) (hk:RepA S w φ (fun r=>obl.getD r none) key vk) (h:Xm T E.wl.G t x key ok obl K) :
  ∃out u,K out/\(Instr.lookup t vx vk ok).run P w=.ok u w/\RepA S w φ (fun r=>obl.getD r none) out u/\Closed (fun r=>obl.getD r none) out:=by
 unfold Xm at h
 split at h
 ·rename_i g
  unfold ZH at h
  split at h
  ·rename_i k e es kv hkind hG
   rw[AI] at h
   simp only[X27] at h
   obtain⟨⟨⟨⟨⟨⟨c0,c1⟩,c2⟩,c3⟩,c4⟩,c5⟩,h⟩:=h
   obtain⟨g1,b,arr,clock,es',g2,g3,g4,g6,g5⟩:=E.wl.ext _ _ _ (fun b hb=>m.fr b (E.hg.lt b hb) (E.hg.pb b hb)) E.hg.gf g es hG
   cases hx with | gv _ _ hS hv=>
   rw[g3] at hv
   obtain rfl:=X25 hv
   obtain⟨q,hq,hr⟩:=h
   exact U6 hT hkind hk c0 c1 c2 c3 c4 c5 g4 (g5.mono fun _ _ hf=>hf.elim) ⟨q,g6 _ _ _ hq,hr⟩
  exact h.elim
 exact V9 hT m hx hk h
theorem EntsOK.push {es:List (D×D)}{l:List MapEntry}(h:EntsOK S w es l){u:Value}{v:D}{x:MapEntry}(hu:u.oneCell'=true)(hk:x.key=u)(hv:RepD S w v x.val):EntsOK S w (es++[(.val u,v)]) (l++[x]):=by
 obtain⟨h1,h2⟩:=h
 refine⟨by simp[h1],fun i hi=>?_⟩
 by_cases hlt:i<es.length
 ·obtain⟨y,a,b,c⟩:=h2 i hlt
  exact⟨y,by rw[List.getElem?_append_left (by omega)];exact a,by rw[List.getElem_append_left hlt];exact b,by rw[List.getElem_append_left hlt];exact c⟩
 have e:i=es.length:=by simp at hi;omega
 subst e
 exact⟨x,by rw[List.getElem?_append_right (by omega)];simp[h1],by simp[hk,hu],by simpa using hv⟩
theorem EntsOK.set {es:List (D×D)}{l:List MapEntry}(h:EntsOK S w es l){j:Nat}{u:Value}{v:D}{f:MapEntry->MapEntry}(hj:j<es.length)(hu:u.oneCell'=true)(hk :∀y,(f y).key=u)(hv :∀y,RepD S w v (f y).val) :
  EntsOK S w (es.set j (.val u,v)) (l.modify j f):=by
 obtain⟨h1,h2⟩:=h
 refine⟨by simp[h1],fun i hi=>?_⟩
 have hi':i<es.length:=by simpa using hi
 obtain⟨y,a,b,c⟩:=h2 i hi'
 by_cases e:j=i
 ·subst e
  refine⟨f y,by rw[List.getElem?_modify];simp[a],?_,?_⟩
  ·simp only[List.getElem_set_self];exact⟨u,rfl,hk y,hu⟩
  simp only[List.getElem_set_self];exact hv y
 refine⟨y,by rw[List.getElem?_modify];simp[a,e],?_,?_⟩
 ·rw[List.getElem_set_ne e];exact b
 rw[List.getElem_set_ne e];exact c
theorem Ip {obl:List (Option OB)}(hT:TabOk P T){t k e0 r:Nat}{kv vk vv vx:Value}{dv:D}{wr:W}{S':Sc}(hkind:(T.get t).kind=.map k e0)(c0:I0 (T.get k).kind kv=true)(c1:Ig (T.get k).kind=true)(c2:BS T k=true)
  (hx:RepA S w φ (fun r=>obl.getD r none) (.mp r) vx) (hk:RepA S w φ (fun r=>obl.getD r none) (.d (.val kv)) vk) (m':Mem E w S' φ (Au (fun r=>obl.getD r none) wr)) (k':Kept w S φ (fun r=>obl.getD r none) w S' φ (Au (fun r=>obl.getD r none) wr))
  (hd':RepD S' w dv vv) (hw':UR obl wr) {o onew:OB} (ho:obl.getD r none=some o) (hor:Au (fun r=>obl.getD r none) wr r=some o) (hh:hdr (some o)=none) {k1 e1:Nat} {es zs:List (D×D)} (hzs:GG (T.get k).kind (.val kv) dv es=some zs)
  (hent :∃b c arr clock,φ r=some (b,c)/\w.heap[b]?=some (.map arr clock)/\((∀o,¬ S' b o)/\BornOK arr clock)/\EntsOK S' w es arr.toList)
  (hnew:onew=.map k1 e1 zs \/∃r' n,onew=.amap k1 e1 zs kv r' n/\Au (fun r=>obl.getD r none) wr r'≠none/\RepA S' w φ (Au (fun r=>obl.getD r none) wr) (.own r' n) vv) :
  ∃w',(∀r' o',(r',o')∈wr++[(r,onew)]->r'<obl.length)/\(Instr.mapUpdate t vx vk vv).run P w=.ok () w'/\Post E w S φ (fun r=>obl.getD r none) .dead (wr++[(r,onew)]) undef w':=by
 obtain⟨d,hd,hik,hkey⟩:=KV hT c1 c2
 have hkv:=hk.val
 subst hkv
 have hm:P.underlying t=some (.map k e0):=by
  have:=(hT.of (t:=t) (by rw[hkind];simp[TK.cls])).kind
  rwa [hkind] at this
 obtain⟨b,c,arr,clock,h1,h2,⟨h3,hborn⟩,h4⟩:=hent
 have hvx:vx=.map (some b):=by
  cases hx with | mp _ b' c' hφ hb1 hb2=>
  rw[h1] at hφ
  simp only[X24,X26] at hφ
  rw[hφ.1]
 subst hvx
 have hu:vk.oneCell'=true:=by
  have:=hik _ c0
  cases vk<;>first | rfl | (cases d<;>simp[IsKey] at this)
 have hrl:r<obl.length:=Bo obl r _ ho
 obtain⟨q,hq⟩:=Re hzs
 have hlen :∀r' o',(r',o')∈wr++[(r,onew)]->r'<obl.length:=by
  intro r' o' hm'
  rcases X23.1 hm' with hm' | hm'
  ·obtain⟨e',sz',es',f',q1,_⟩:=hw' r' o' hm'
   exact Bo obl r' _ q1
  simp only[X14,X26] at hm'
  rw[hm'.1];exact hrl
 have hhn:hdr (some onew)=none/\∀cs,onew≠.box cs:=by
  rcases hnew with rfl | ⟨r',n,rfl,_⟩
  ·exact⟨rfl,fun cs h=>by simp at h⟩
  exact⟨rfl,fun cs h=>by simp at h⟩
 have fin :∀(arr':Array MapEntry) (clock':Nat),BornOK arr' clock'->(∀{S2:Sc} {w2:World},Nk S' w S2 w2->EntsOK S2 w2 zs arr'.toList)->(∀{Q:Value->Prop},Q vv->AliasP vk Q arr'.toList)->
   Post E w S φ (fun r=>obl.getD r none) .dead (wr++[(r,onew)]) undef { w with heap:=w.heap.setIfInBounds b (.map arr' clock') }:=by
  intro arr' clock' hbo he hal
  obtain⟨s1,s2⟩:=heap_set (w:=w) (o':=.map arr' clock') h2
  obtain⟨m2,k2⟩:=m'.set r o onew { w with heap:=w.heap.setIfInBounds b (.map arr' clock') } (φ r) hor (fun i hi hn=>s2 i fun e=>hn c (by rw[e];exact h1)) (by simp) ⟨rfl,rfl,rfl,Nat.le_refl _⟩
   (fun b' c' o hb hS=>by rw[h1] at hb;simp only[X24,X26] at hb;rw[<- hb.1] at hS;exact absurd hS (h3 o)) (.inl rfl)
   (.inl ⟨upd_same _ _ _,by rw[upd_same,hor,hh];exact hhn.1,fun ⟨cs,hc⟩=>by rw[upd_same] at hc;exact absurd (X25 hc) (hhn.2 cs)⟩) (fun r' hr'=>by
    rcases hnew with rfl | ⟨r2,n,rfl,hn,_⟩
    ·simp[OB.refs] at hr'
    ·simp only[OB.refs,X14] at hr'
     rw[hr'];exact hn) (fun hk2=>by
    obtain⟨g1,g2⟩:=he hk2.k
    rcases hnew with rfl | ⟨r2,n,rfl,hn,hal2⟩
    ·exact⟨b,c,arr',clock',by rw[upd_same];exact h1,s1,⟨by simpa using g1,hbo⟩,h3,fun i hi=>by simpa using g2 i hi⟩
    exact⟨b,c,arr',clock',by rw[upd_same];exact h1,s1,⟨by simpa using g1,hbo⟩,h3,fun i hi=>by simpa using g2 i hi,hal (hk2.rep (fun q hq=>by
     simp only[AV.refs,X14] at hq
     rw[hq];exact hn) hal2)⟩)
  exact⟨S',_,by rw[AT];exact m2,by rw[AT];exact k'.trans k2,.dead _,fun r' hr'=>by simp[AV.refs] at hr'⟩
 rcases Na (S:=S') (w:=w) (tk:=(T.get k).kind) (d:=d) (u:=vk) (fun u' b=>hkey vk u' b) es arr.toList 0 q h4 hq with ⟨g1,g2,g3⟩|⟨j,y,v',_,g2,g3,g4,_,g6,g7⟩
 ·rw[g3 dv] at hzs
  obtain rfl:=X25 hzs
  refine⟨_,hlen,?_,fin (arr.push { key:=vk,val:=vv,born:=clock }) (clock+1) (hborn.push _ _) (fun hkp=>?_) fun hQ=>?_⟩
  ·unfold Instr.mapUpdate
   simp[run_underlying hm,MapKept.run_getObj_map h2,run_checkKey hd (hik _ c0),run_findKey hd g2,run_setObj_map _ h2,Result.andThen]
  ·rw[Array.toList_push]
   exact (h4.mono hkp).push hu rfl (hd'.mono hkp)
  rw[Array.toList_push]
  exact (PP (fun u' b=>hkey vk u' b) rfl hQ (f:=fun e=>{ e with key:=vk,val:=vv }) (fun _=>⟨rfl,hQ⟩) es arr.toList 0 _ h4 hq).1 g1
 rw[g7 dv] at hzs
 obtain rfl:=X25 hzs
 have hj:arr[j]?=some y:=by simpa using g2
 refine⟨_,hlen,?_,fin (arr.modify j fun e=>{ e with key:=vk,val:=vv }) clock (hborn.modify _ _ fun _=>rfl) (fun hkp=>?_) fun hQ=>?_⟩
 ·unfold Instr.mapUpdate
  simp[run_underlying hm,MapKept.run_getObj_map h2,run_checkKey hd (hik _ c0),run_findKey hd g6,hj,g3,run_keyThatStays (hik _ c0),run_setObj_map _ h2,Result.andThen]
 ·rw[Array.toList_modify]
  exact (h4.mono hkp).set g4 hu (fun _=>rfl) fun _=>hd'.mono hkp
 rw[Array.toList_modify]
 exact (PP (fun u' b=>hkey vk u' b) (y:={ key:=vk,val:=vv,born:=clock }) rfl hQ (f:=fun e=>{ e with key:=vk,val:=vv }) (fun _=>⟨rfl,hQ⟩) es arr.toList 0 _ h4 hq).2 j _ g6
theorem L1 {obl:List (Option OB)}(hT:TabOk P T)(m:Mem E w S φ (fun r=>obl.getD r none)){t:Nat}{x key v:AV}{vx vk vv:Value}{K:AV->W->Prop}
  (hx:RepA S w φ (fun r=>obl.getD r none) x vx) (hk:RepA S w φ (fun r=>obl.getD r none) key vk) (hv:RepA S w φ (fun r=>obl.getD r none) v vv) (h:Lp T t x key v obl K) :
  ∃out wr w',K out wr/\(∀r o,(r,o)∈wr->r<obl.length)/\(Instr.mapUpdate t vx vk vv).run P w=.ok () w'/\Post E w S φ (fun r=>obl.getD r none) out wr undef w':=by
 unfold Lp at h
 split at h
 ·rename_i k e0 r kv hkind
  simp only[AI,X27] at h
  obtain⟨⟨⟨c0,c1⟩,c2⟩,h⟩:=h
  obtain⟨dv,wr,S',hK,m',k',hd',hx',hw'⟩:=Dw m (FrzExt.refl _) hv h
  rw[A1] at hK
  obtain⟨hne,o,ho,hK⟩:=hK
  have hor:Au (fun r=>obl.getD r none) wr r=some o:=by
   rw[En wr _ r fun q hq e=>by
    simp only[List.all_eq_true] at hne
    have:=hne q hq
    rw[e] at this
    simp[Nat.beq_refl] at this]
   exact ho
  cases o with
  | box=>simp at hK
  | row=>simp at hK
  | gone=>simp at hK
  | map k1 e1 es=>
   obtain⟨zs,hzs,hK⟩:=hK
   obtain⟨w',g1,g2,g3⟩:=Ip (P:=P) hT hkind c0 c1 c2 hx hk m' k' hd' hw' ho hor rfl hzs (Qo (m'.obj r _ hor)) (.inl rfl)
   exact⟨_,_,w',hK,g1,g2,g3⟩
  | amap k1 e1 es kv' r' n=>
   obtain⟨zs,hzs,hK⟩:=hK
   obtain⟨b,c,arr,clock,q1,q2,q3,q4,_⟩:=PM (m'.obj r _ hor)
   obtain⟨w',g1,g2,g3⟩:=Ip (P:=P) hT hkind c0 c1 c2 hx hk m' k' hd' hw' ho hor rfl hzs ⟨b,c,arr,clock,q1,q2,q3,q4⟩ (.inl rfl)
   exact⟨_,_,w',hK,g1,g2,g3⟩
 exact h.elim
theorem SC {obl:List (Option OB)}(hT:TabOk P T)(m:Mem E w S φ (fun r=>obl.getD r none)){t r0 n0:Nat}{x key:AV}{vx vk vv:Value}{K:AV->W->Prop}
  (hx:RepA S w φ (fun r=>obl.getD r none) x vx) (hk:RepA S w φ (fun r=>obl.getD r none) key vk) (hv:RepA S w φ (fun r=>obl.getD r none) (.own r0 n0) vv) (hcl:Closed (fun r=>obl.getD r none) (.own r0 n0)) (h:NX T t x key r0 n0 obl K) :
  ∃out wr w',K out wr/\(∀r o,(r,o)∈wr->r<obl.length)/\(Instr.mapUpdate t vx vk vv).run P w=.ok () w'/\Post E w S φ (fun r=>obl.getD r none) out wr undef w':=by
 unfold NX at h
 split at h
 ·rename_i k e0 r kv hkind
  simp only[AI,X27] at h
  obtain⟨⟨⟨c0,c1⟩,c2⟩,h⟩:=h
  obtain⟨dv,wr,S',hK,m',k',hd',hx',hw'⟩:=Dw m (FrzExt.refl _) hv h
  rw[A1] at hK
  obtain⟨hne,o,ho,hK⟩:=hK
  have hor:Au (fun r=>obl.getD r none) wr r=some o:=by
   rw[En wr _ r fun q hq e=>by
    simp only[List.all_eq_true] at hne
    have:=hne q hq
    rw[e] at this
    simp[Nat.beq_refl] at this]
   exact ho
  have hn:Au (fun r=>obl.getD r none) wr r0≠none:=k'.closed hcl r0 (by simp[AV.refs])
  have hv':=k'.rep hcl hv
  cases o with
  | box=>simp at hK
  | row=>simp at hK
  | gone=>simp at hK
  | map k1 e1 es=>
   obtain⟨zs,hzs,hK⟩:=hK
   obtain⟨w',g1,g2,g3⟩:=Ip (P:=P) hT hkind c0 c1 c2 hx hk m' k' hd' hw' ho hor rfl hzs (Qo (m'.obj r _ hor)) (.inr ⟨r0,n0,rfl,hn,hv'⟩)
   exact⟨_,_,w',hK,g1,g2,g3⟩
  | amap k1 e1 es kv' r' n=>
   obtain⟨zs,hzs,hK⟩:=hK
   obtain⟨b,c,arr,clock,q1,q2,q3,q4,_⟩:=PM (m'.obj r _ hor)
   obtain⟨w',g1,g2,g3⟩:=Ip (P:=P) hT hkind c0 c1 c2 hx hk m' k' hd' hw' ho hor rfl hzs ⟨b,c,arr,clock,q1,q2,q3,q4⟩ (.inr ⟨r0,n0,rfl,hn,hv'⟩)
   exact⟨_,_,w',hK,g1,g2,g3⟩
 exact h.elim
theorem L6 {obl:List (Option OB)}(hT:TabOk P T)(m:Mem E w S φ (fun r=>obl.getD r none)){t:Nat}{x key v:AV}{vx vk vv:Value}{K:AV->W->Prop}
  (hx:RepA S w φ (fun r=>obl.getD r none) x vx) (hk:RepA S w φ (fun r=>obl.getD r none) key vk) (hv:RepA S w φ (fun r=>obl.getD r none) v vv) (hcl:Closed (fun r=>obl.getD r none) v) (h:NZ T t x key v obl K) :
  ∃out wr w',K out wr/\(∀r o,(r,o)∈wr->r<obl.length)/\(Instr.mapUpdate t vx vk vv).run P w=.ok () w'/\Post E w S φ (fun r=>obl.getD r none) out wr undef w':=by
 unfold NZ at h
 split at h
 ·rcases h with h | h
  ·exact L1 hT m hx hk hv h
  exact SC hT m hx hk hv hcl h
 exact L1 hT m hx hk hv h
theorem SQ {obl:List (Option OB)}(m:Mem E w S φ (fun r=>obl.getD r none)){t self k e:Nat}(hs1:obl.getD self none=none) :
  ∃w',(Instr.makeMap t none).run P w=.ok (.map (some w.heap.size)) w'/\Post E w S φ (fun r=>obl.getD r none) (.mp self) [(self,.map k e [])] (.map (some w.heap.size)) w':=by
 refine⟨w.alloc (.map #[] 0),rfl,?_⟩
 obtain⟨m2,k2⟩:=m.allocO self (0,0) (.map k e []) (.map #[] 0) hs1 (fun r hr=>by simp[OB.refs] at hr) (fun hk2=>
  ⟨w.heap.size,(0,0),#[],0,upd_same _ _ _,(heap_alloc w _).1,⟨rfl,.empty _⟩,fun o ho=>absurd (m.bS _ _ ho) (Nat.lt_irrefl _),fun i hi=>by simp at hi⟩)
 refine⟨S,_,m2,k2,.mp self w.heap.size (0,0) (upd_same _ _ _) (fun e sz es frz hx=>by simp[Au] at hx) (fun cs hx=>by simp[Au] at hx),fun r hr=>?_⟩
 simp only[AV.refs,X14] at hr
 subst hr
 simp[Au]
theorem Mem.rowSet (m:Mem E w S φ ob){r e sz b:Nat}{c:Rp}{es es':List D}{e0:Nat}{cur cur':Array Value}{w':World}(h0:ob r=some (.row e sz es .no))(hφ:φ r=some (b,c))(hc:w.heap[b]?=some (.cells cur e0 (0,0)))
  (hl:es'.length=es.length) (h1 :∀i (hi:i<es'.length),es'[i].cells.length=sz) (h2 :∀i (hi:i<es'.length) j (hj:j<es'[i].cells.length),es'[i].cells[j].isAgg=false)
  (hc':w'.heap[b]?=some (.cells cur' e0 (0,0))) (hsz:cur'.size=cur.size) (hw :∀k,k<w.heap.size->k≠b->w'.heap[k]?=w.heap[k]?) (hs:w.heap.size<=w'.heap.size) (hos:w'.os=w.os/\w'.output=w.output/\w'.tape=w.tape/\w.drawn<=w'.drawn)
  (f:Nat->Nat->Value) (hf :∀i j,i<es'.length->j<sz->cur'[c.2+(i*sz+j)]?=some (f i j)) (hr :∀i (hi:i<es'.length) j (hj:j<es'[i].cells.length),RepD S w es'[i].cells[j] (f i j)) :
  Mem E w' S φ (upd ob r (some (.row e sz es' .no)))/\Kept w S φ ob w' S φ (upd ob r (some (.row e sz es' .no))):=by
 obtain⟨g0,g1,g2,g3⟩:=m.obj r _ h0
 rcases g3 with ⟨f1,_⟩|⟨b',cap,vs,g,f1,f2,f3,f4,f5,f6,f7,f8⟩
 ·rw[hφ] at f1;simp at f1
 rw[hφ] at f1
 simp only[X24,X26] at f1
 obtain⟨rfl,rfl⟩:=f1
 rw[hc] at f2
 simp only[X24,Obj.cells.injEq] at f2
 obtain⟨rfl,rfl,_⟩:=f2
 have:=m.set r _ (.row e0 sz es' .no) w' (φ r) h0 (fun k hk hne=>hw k hk fun he=>hne c (by rw[he];exact hφ)) hs hos
  (fun b2 c2 o hb hS=>by rw[hφ] at hb;simp only[X24,X26] at hb;rw[<- hb.1] at hS;exact absurd hS (f8.1 o (by simp))) (.inl rfl)
  (.inl ⟨upd_same _ _ _,by simp[h0,hdr,hl],fun h=>by simp at h⟩) (fun r' hr'=>by simp[OB.refs] at hr') (fun hk=>
   ⟨g0,h1,h2,.inr ⟨b,c,cur',f,by rw[upd_same];exact hφ,hc',by omega,f4,by rw[hsz];exact f5,hf,fun i hi j hj=>(hr i hi j hj).mono hk.k,fun o _=>f8.1 o (by simp),fun _ _ _ _ h=>nomatch h⟩⟩)
 have hu:upd φ r (φ r)=φ:=by funext i;by_cases hi:i=r<;>simp[upd,hi]
 rwa [hu] at this
theorem HH (z:Array Value)(n i j:Nat)(hi:i<n)(hj:j<z.size):(Builtin.zeroCells z n)[i*z.size+j]?=z[j]?:=by
 have h1:(i+1)*z.size<=n*z.size:=X31 _ hi
 rw[X32] at h1
 have h2:(i*z.size+j)%z.size=j:=by rw[Nat.mul_comm,Nat.mul_add_mod,Nat.mod_eq_of_lt hj]
 have h3:i*z.size+j<n*z.size:=by omega
 simp[Builtin.zeroCells,h3,h2,hj]
theorem UX {obl:List (Option OB)}(hT:TabOk P T)(m:Mem E w S φ (fun r=>obl.getD r none)){t ty r a n mm:Nat}{vx:Value}{K:AV->W->Prop}(hx:RepA S w φ (fun r=>obl.getD r none) (.osl r a n mm) vx)
  (h:Uo T t r a n mm obl K) :∃out wr w',K out wr/\(∀r o,(r,o)∈wr->r<obl.length)/\(Builtin.clear_ #[t] ty #[vx]).run P w=.ok (.tuple #[]) w'/\Post E w S φ (fun r=>obl.getD r none) out wr (.tuple #[]) w':=by
 unfold Uo at h
 split at h
 ·rename_i e hk
  rw[A1] at h
  obtain⟨o,ho,h⟩:=h
  cases o with
  | box=>simp at h
  | map=>simp at h
  | amap=>simp at h
  | gone=>simp at h
  | row e' sz es frz=>
   simp only[AI,X27] at h
   obtain⟨⟨⟨⟨c1,c2⟩,c3⟩,c4⟩,hm,z,hz,zs,hzs,hK⟩:=h
   obtain rfl:=FZ.free_eq c3
   have hsz:sz=(T.get e).size:=X30 c2
   obtain⟨g0,g1,g2,g3⟩:=m.obj r _ ho
   have hpos:0<(T.get e).size:=hsz ▸ g0
   obtain⟨z0,hz0,hzr⟩:=Oy (P:=P) (w:=w) (S:=S) hT c1 hpos c4
   rw[hz] at hzr
   cases hx with | osl _ _ _ _ _ k c a0 hv hkn h1=>
   obtain⟨q1,q2,_⟩:=(h1 e' sz es .no ho).2 hm
   have out :∀{w':World} {S':Sc} {φ':Nat->Option (Nat×Rp)} {ob':Nat->Option OB},RepA S' w' φ' ob' (.tup []) (.tuple #[]):=.tup [] #[] (fun _=>undef) rfl (fun i hi=>by simp at hi) fun i hi=>by simp at hi
   have hlt :∀r' o',(r',o') ∈ [(r,OB.row e' sz zs .no)]->r'<obl.length:=fun r' o' hm'=>by
    simp only[X14,X26] at hm'
    rw[hm'.1];exact Bo obl _ _ ho
   have hu:=BB hT hk
   by_cases hn0:n=0
   ·
    have hze:zs=es:=by rw[<- hzs,hn0];simp
    subst hze
    refine⟨_,_,w,hK,hlt,?_,S,φ,?_,?_,out,fun r' hr'=>by simp[AV.refs,AV.refs.refsL] at hr'⟩
    ·rw[hv,hkn,hn0]
     cases a0<;>simp[Builtin.clear_,run_underlying hu]
    all_goals
     have:Au (fun r=>obl.getD r none) [(r,OB.row e' sz zs .no)]=fun r=>obl.getD r none:=by
      funext q
      simp only[Au]
      by_cases hq:q=r
      ·subst hq;rw[upd_same];exact ho.symm
      rw[AK _ _ _ _ hq]
     rw[this]
    ·exact m
    exact .refl _ _ _ _
   rcases q2 with q2 | ⟨b,cap,c',q2,q3,_⟩
   ·exact absurd q2 hn0
   rcases g3 with ⟨f1,_⟩|⟨b',cap',cur,f,f1,f2,f3,f4,f5,f6,f7,f8⟩
   ·rw[f1] at q2;simp at q2
   rw[f1] at q2
   simp only[X24,X26] at q2
   obtain⟨rfl,rfl⟩:=q2
   obtain⟨zc,zr⟩:=hzr.cells
   obtain⟨ie,zz,hie,hi1,hi2,hzz,hzz1,hzz2,_⟩:=(hT.of (A7 c1)).info
   have hz00:z0=zz:=by
    have:(zeroValue e).run P w=.ok zz w:=by simp[zeroValue,typeInfo,hie,hzz]
    rw[this] at hz0
    simp only[Result.ok.injEq] at hz0
    exact hz0.1.symm
   subst hz00
   have hzcs:z0.cells.size=sz:=by rw[hzz1,hsz]
   have hzl:z.cells.length=sz:=by omega
   have hrow:(a+n)*sz<=cap'.1*sz:=X31 _ (by omega)
   rw[X32] at hrow
   have hvl:(Builtin.zeroCells z0.cells n).toList.length=n*sz:=by simp[size_zeroCells,hzcs]
   have hone :∀v∈(Builtin.zeroCells z0.cells n).toList,v.oneCell'=true:=by
    intro v hv'
    obtain⟨q,hq,rfl⟩:=List.getElem_of_mem hv'
    rw[hvl] at hq
    have hsp:0<sz:=g0
    have e1:q/sz<n:=Nat.div_lt_of_lt_mul (by rw[Nat.mul_comm];exact hq)
    have e2:q%sz<sz:=Nat.mod_lt _ hsp
    have e3:q/sz*sz+q%sz=q:=Nat.div_add_mod' q sz
    have:=HH z0.cells n (q/sz) (q%sz) e1 (by omega)
    rw[hzcs,e3] at this
    obtain⟨u,p1,p2,p3⟩:=zr (q%sz) (by omega)
    rw[p1] at this
    have hq':q<(Builtin.zeroCells z0.cells n).size:=by simpa using (by omega:q<(Builtin.zeroCells z0.cells n).toList.length)
    rw[Array.getElem?_eq_getElem hq'] at this
    simp only[Array.getElem_toList]
    rw[X25 this]
    exact p3.one p2
   have hst:=run_storeCells_at P b' (cap'.2+a*sz) e' (Builtin.zeroCells z0.cells n).toList 0 cur w f2 (by rw[hvl];omega) hone
   have hfit:cap'.2+a*sz+(Builtin.zeroCells z0.cells n).toList.length<=cur.toList.length:=by rw[hvl];simp;omega
   have hov:(cur.toList.take (cap'.2+a*sz+0)++(Builtin.zeroCells z0.cells n).toList++cur.toList.drop (cap'.2+a*sz+0+(Builtin.zeroCells z0.cells n).toList.length))=BY cur.toList (cap'.2+a*sz) (Builtin.zeroCells z0.cells n).toList:=rfl
   rw[hov] at hst
   obtain⟨s1,s2,s3⟩:=HJ w b' (BY cur.toList (cap'.2+a*sz) (Builtin.zeroCells z0.cells n).toList).toArray
   have hh:=setRow_heap w b' cur (BY cur.toList (cap'.2+a*sz) (Builtin.zeroCells z0.cells n).toList).toArray e' (0,0) f2
   have hzsl:zs.length=es.length:=by rw[<- hzs];simp;omega
   have hzsg :∀i (hi:i<zs.length),zs[i]=if h:a<=i/\i<a+n then z else es[i]'(by omega):=by
    intro i hi
    subst hzs
    by_cases h1:i<a
    ·rw[dif_neg (by omega),List.getElem_append_left (by simp;omega),List.getElem_append_left (by simp;omega)]
     simp
    by_cases h2:i<a+n
    ·rw[dif_pos ⟨by omega,h2⟩,List.getElem_append_left (by simp;omega),List.getElem_append_right (by simp;omega)]
     simp
    rw[dif_neg (by omega),List.getElem_append_right (by simp;omega)]
    simp only[List.getElem_drop]
    congr 1
    simp
    omega
   have hcur :∀i j,i<zs.length->j<sz->(BY cur.toList (cap'.2+a*sz) (Builtin.zeroCells z0.cells n).toList).toArray[cap'.2+(i*sz+j)]?=some (if a<=i/\i<a+n then z0.cells.getD j undef else f i j):=by
    intro i j hi hj
    have:=EY cur.toList (cap'.2+a*sz) (Builtin.zeroCells z0.cells n).toList hfit (cap'.2+(i*sz+j))
    rw[hvl] at this
    simp only[List.getElem?_toArray,this]
    by_cases hin:a<=i/\i<a+n
    ·have k1:a*sz<=i*sz:=X31 _ hin.1
     have k2:(i+1)*sz<=(a+n)*sz:=X31 _ hin.2
     rw[X32,X32] at k2
     rw[if_pos ⟨by omega,by omega⟩,if_pos hin]
     have e3:cap'.2+(i*sz+j)-(cap'.2+a*sz)=(i-a)*sz+j:=by rw[Nat.sub_mul];omega
     rw[e3]
     have:=HH z0.cells n (i-a) j (by omega) (by omega)
     rw[hzcs] at this
     have hj':j<z0.cells.size:=by omega
     simpa[hj'] using this
    rw[if_neg hin,if_neg]
    ·simpa using f6 i j (by omega) hj
    rintro⟨k1,k2⟩
    rcases Nat.lt_or_ge i a with h | h
    ·have:(i+1)*sz<=a*sz:=X31 _ h
     rw[X32] at this
     omega
    have:(a+n)*sz<=i*sz:=X31 _ (by omega)
    rw[X32] at this
    omega
   obtain⟨m1,k1⟩:=m.rowSet (es':=zs) ho f1 f2 hzsl (fun i hi=>by
     rw[hzsg i hi];split
     ·exact hzl
     ·exact g1 _ _) (fun i hi j hj=>by
     have:=hzsg i hi
     simp only[this] at hj ⊢
     split
     ·rename_i hin
      rw[dif_pos hin] at hj
      obtain⟨u,_,p2,_⟩:=zr j hj
      exact p2
     ·rename_i hin
      rw[dif_neg hin] at hj
      exact g2 _ _ j hj) hh (by simp only[List.size_toArray];rw[Bg _ _ _ hfit];simp) (fun k _ hk=>s1 k hk) (by omega) s3 _ hcur (fun i hi j hj=>by
     have:=hzsg i hi
     simp only[this] at hj ⊢
     split
     ·rename_i hin
      rw[dif_pos hin] at hj
      obtain⟨u,p1,_,p3⟩:=zr j hj
      have:z0.cells.getD j undef=u:=by
       have hj2:j<z0.cells.size:=by omega
       simp[hj2] at p1 ⊢
       exact p1
      rw[this];exact p3
     rename_i hin
     rw[dif_neg hin] at hj
     exact f7 _ _ j hj)
   refine⟨_,_,_,hK,hlt,?_,S,φ,m1,k1,out,fun r' hr'=>by simp[AV.refs,AV.refs.refsL] at hr'⟩
   rw[q3]
   have hnn:n≠0:=hn0
   obtain⟨n',rfl⟩ :∃n',n=n'+1:=⟨n-1,by omega⟩
   simp[Builtin.clear_,run_underlying hu,hz0,hst]
 exact h.elim
theorem Pz {obl:List (Option OB)}(hT:TabOk P T)(m:Mem E w S φ (fun r=>obl.getD r none)){t u ty e r a n mm sz':Nat}{ys:List D}{vx vy:Value}{K:AV->W->Prop}(hk:(T.get t).kind=.slice e)
  (hx :∀e' sz es frz,obl.getD r none=some (.row e' sz es frz)->mm=es.length->a+n<=mm/\((n=0/\∃a0 c,vx=.slice a0 0 c) \/∃b cap c',φ r=some (b,cap)/\vx=.slice (some ⟨b,cap.2+a*sz,none⟩) n c'))
  (hy:SrcV S w sz' ys vy) (h:VS T e r a n mm sz' ys obl K) :
  ∃out wr v w',K out wr/\(∀r o,(r,o)∈wr->r<obl.length)/\(Builtin.copy_ #[t,u] ty #[vx,vy]).run P w=.ok v w'/\Post E w S φ (fun r=>obl.getD r none) out wr v w':=by
 unfold VS at h
 rw[A1] at h
 obtain⟨o,ho,h⟩:=h
 cases o with
 | box=>simp at h
 | map=>simp at h
 | amap=>simp at h
 | gone=>simp at h
 | row e' sz es frz=>
  simp only[AI,X27] at h
  obtain⟨⟨⟨⟨c1,c2⟩,c4⟩,c3⟩,hm,zs,hzs,k,hkk,hK⟩:=h
  obtain rfl:=FZ.free_eq c3
  have hsz:sz=(T.get e).size:=X30 c2
  have hsz':sz'=sz:=X30 c4
  subst hsz'
  obtain⟨g0,g1,g2,g3⟩:=m.obj r _ ho
  obtain⟨q1,q2⟩:=hx e' _ es .no ho hm
  obtain⟨i,zz,hi,hi1,hi2,_⟩:=(hT.of (A7 c1)).info
  have hu:=BB hT hk
  have hlt :∀r' o',(r',o') ∈ [(r,OB.row e' sz' zs .no)]->r'<obl.length:=fun r' o' hm'=>by
   simp only[X14,X26] at hm'
   rw[hm'.1];exact Bo obl _ _ ho
  have out :∀{w':World} {S':Sc} {φ':Nat->Option (Nat×Rp)} {ob':Nat->Option OB},RepA S' w' φ' ob' (.i (k:Int)) (.int .i64 (k:Int)):=.d _ _ (.val _ rfl)
  by_cases hk0:k=0
  ·
   have hze:zs=es:=by
    rw[<- hzs,hkk,hk0]
    have:ys.take n=[]:=by
     rcases Nat.min_eq_zero_iff.1 (hkk.trans hk0) with h | h
     ·rw[List.eq_nil_of_length_eq_zero h];simp
     rw[h];simp
    rw[this];simp
   subst hze
   have hrun:(Builtin.copy_ #[t,u] ty #[vx,vy]).run P w=.ok (.int .i64 ((0:Nat):Int)) w:=by
    have hz :∀(a2:Option Addr) (l c2:Nat) (a0:Option Addr) (l0 c0:Nat),Nat.min l l0=0->(Builtin.copy_ #[t,u] ty #[.slice a0 l0 c0,.slice a2 l c2]).run P w=.ok (.int .i64 ((0:Nat):Int)) w:=by
     intro a2 l c2 a0 l0 c0 hl
     cases a0<;>cases a2<;>simp[Builtin.copy_,run_underlying hu,sizeOf,typeInfo,hi,Builtin.lenOf,hl,Builtin.firstCells,storeCells,loadCells,loadCellsFrom,goInt]
    rw[hk0] at hkk
    rcases q2 with ⟨h1,a0,c0,rfl⟩|⟨b,cap,c',_,rfl⟩<;>rcases hy.v with ⟨⟨a2,c2',rfl⟩,hys⟩|⟨b2,o2,cap2,f2,rfl,_⟩
    ·exact hz _ _ _ _ _ _ (by simp)
    ·exact hz _ _ _ _ _ _ (by simp)
    ·exact hz _ _ _ _ _ _ (by simp)
    exact hz _ _ _ _ _ _ hkk
   refine⟨_,_,_,w,hK,hlt,hrun,S,φ,?_,?_,by rw[hk0];exact .d _ _ (.val _ rfl),fun r' hr'=>by simp[AV.refs] at hr'⟩
   all_goals
    have:Au (fun r=>obl.getD r none) [(r,OB.row e' sz' zs .no)]=fun r=>obl.getD r none:=by
     funext q
     simp only[Au]
     by_cases hq:q=r
     ·subst hq;rw[upd_same];exact ho.symm
     rw[AK _ _ _ _ hq]
    rw[this]
   ·exact m
   exact .refl _ _ _ _
  have hkn:k<=n:=by omega
  have hky:k<=ys.length:=by omega
  rcases q2 with ⟨h1,_⟩|⟨b,cap,c',q2,q3⟩
  ·omega
  rcases hy.v with ⟨_,hys⟩|⟨b2,o2,cap2,f2,hvy,hc,hr⟩
  ·rw[hys] at hky;simp at hky;omega
  rcases g3 with ⟨f1,_⟩|⟨b',cap',cur,f,f1,f2',f3,f4,f5,f6,f7,f8⟩
  ·rw[f1] at q2;simp at q2
  rw[f1] at q2
  simp only[X24,X26] at q2
  obtain⟨rfl,rfl⟩:=q2
  have hi1':i.size=sz':=by rw[hi1,hsz]
  have hrow:(a+n)*sz'<=cap'.1*sz':=X31 _ (by omega)
  rw[X32] at hrow
  have hkr:k*sz'<=n*sz':=X31 _ hkn
  have hvl:(flat k sz' f2).length=k*sz':=flat_length _ _ _
  have hone :∀v∈flat k sz' f2,v.oneCell'=true:=by
   intro v hv'
   refine SrcV.one rfl hy.hsz hy.na hr v ?_
   obtain⟨q,hq,rfl⟩:=List.getElem_of_mem hv'
   rw[hvl] at hq
   have:k*sz'<=ys.length*sz':=X31 _ hky
   have e1:(flat k sz' f2)[q]'(by rw[hvl];exact hq)=(flat ys.length sz' f2)[q]'(by rw[flat_length];omega):=by simp[flat]
   rw[e1]
   exact List.getElem_mem _
  have hnews :∀j v,(flat k sz' f2)[j]?=some v->w.cell? ((⟨b2,o2,none⟩:Addr).add j)=some v:=
   Lh (g:=fun q=>w.cell? ((⟨b2,o2,none⟩:Addr).add q)) fun i j hi hj=>by rw[Addr.add_none];have:=hc i j (by omega) hj;rw[Nat.add_assoc] at this;exact this
  have hld:=run_firstCells_some (P:=P) w sz' k ⟨b2,o2,none⟩ ys.length cap2 (flat k sz' f2) hvl hnews
  have hst:=run_storeCells_at P b' (cap'.2+a*sz') e' (flat k sz' f2) 0 cur w f2' (by rw[hvl];omega) hone
  have hfit:cap'.2+a*sz'+(flat k sz' f2).length<=cur.toList.length:=by rw[hvl];simp;omega
  have hov:(cur.toList.take (cap'.2+a*sz'+0)++flat k sz' f2++cur.toList.drop (cap'.2+a*sz'+0+(flat k sz' f2).length))=BY cur.toList (cap'.2+a*sz') (flat k sz' f2):=rfl
  rw[hov] at hst
  obtain⟨s1,s2,s3⟩:=HJ w b' (BY cur.toList (cap'.2+a*sz') (flat k sz' f2)).toArray
  have hh:=setRow_heap w b' cur (BY cur.toList (cap'.2+a*sz') (flat k sz' f2)).toArray e' (0,0) f2'
  have htk:(ys.take n).length=k:=by rw[X18];omega
  have hzsl:zs.length=es.length:=by rw[<- hzs,X11,X11,htk,X18,X17];omega
  have hzsg :∀i (hi:i<zs.length),zs[i]=if h:a<=i/\i<a+k then ys[i-a]'(by omega) else es[i]'(by omega):=by
   intro i hi
   subst hzs
   by_cases h1:i<a
   ·rw[dif_neg (by omega),List.getElem_append_left (by simp;omega),List.getElem_append_left (by simp;omega)]
    simp
   by_cases h2:i<a+k
   ·rw[dif_pos ⟨by omega,h2⟩,List.getElem_append_left (by simp;omega),List.getElem_append_right (by simp;omega)]
    simp only[List.getElem_take,X18]
    congr 1
    omega
   rw[dif_neg (by omega),List.getElem_append_right (by simp;omega)]
   simp only[List.getElem_drop]
   congr 1
   simp
   omega
  have hcur :∀i j,i<zs.length->j<sz'->(BY cur.toList (cap'.2+a*sz') (flat k sz' f2)).toArray[cap'.2+(i*sz'+j)]?=some (if a<=i/\i<a+k then f2 (i-a) j else f i j):=by
   intro i j hi hj
   have:=EY cur.toList (cap'.2+a*sz') (flat k sz' f2) hfit (cap'.2+(i*sz'+j))
   rw[hvl] at this
   simp only[List.getElem?_toArray,this]
   by_cases hin:a<=i/\i<a+k
   ·have k1:a*sz'<=i*sz':=X31 _ hin.1
    have k2:(i+1)*sz'<=(a+k)*sz':=X31 _ hin.2
    rw[X32,X32] at k2
    rw[if_pos ⟨by omega,by omega⟩,if_pos hin]
    have e3:cap'.2+(i*sz'+j)-(cap'.2+a*sz')=(i-a)*sz'+j:=by rw[Nat.sub_mul];omega
    rw[e3]
    exact flat_get f2 (by omega) hj
   rw[if_neg hin,if_neg]
   ·simpa using f6 i j (by omega) hj
   rintro⟨k1,k2⟩
   rcases Nat.lt_or_ge i a with h | h
   ·have:(i+1)*sz'<=a*sz':=X31 _ h
    rw[X32] at this
    omega
   have:(a+k)*sz'<=i*sz':=X31 _ (by omega)
   rw[X32] at this
   omega
  obtain⟨m1,k1⟩:=m.rowSet (es':=zs) ho f1 f2' hzsl (fun i hi=>by
    rw[hzsg i hi];split
    ·exact hy.hsz _ _
    ·exact g1 _ _) (fun i hi j hj=>by
    have:=hzsg i hi
    simp only[this] at hj ⊢
    split
    ·rename_i hin
     rw[dif_pos hin] at hj
     exact hy.na _ _ j hj
    ·rename_i hin
     rw[dif_neg hin] at hj
     exact g2 _ _ j hj) hh (by simp only[List.size_toArray];rw[Bg _ _ _ hfit];simp) (fun k _ hk=>s1 k hk) (by omega) s3 _ hcur (fun i hi j hj=>by
    have:=hzsg i hi
    simp only[this] at hj ⊢
    split
    ·rename_i hin
     rw[dif_pos hin] at hj
     exact hr _ _ j hj
    rename_i hin
    rw[dif_neg hin] at hj
    exact f7 _ _ j hj)
  refine⟨_,_,_,_,hK,hlt,?_,S,φ,m1,k1,out,fun r' hr'=>by simp[AV.refs] at hr'⟩
  rw[q3,hvy]
  have hmin:Nat.min ys.length n=k:=hkk
  simp[Builtin.copy_,run_underlying hu,sizeOf,typeInfo,hi,Builtin.lenOf,hmin,hi1',hld,hst,goInt]
theorem Vg {obl:List (Option OB)}(hT:TabOk P T)(m:Mem E w S φ (fun r=>obl.getD r none)){t u ty:Nat}{x y:AV}{vx vy:Value}{K:AV->W->Prop}(hx:RepA S w φ (fun r=>obl.getD r none) x vx)
  (hy:RepA S w φ (fun r=>obl.getD r none) y vy) (h:X0 T t x y obl K) :
  ∃out wr v w',K out wr/\(∀r o,(r,o)∈wr->r<obl.length)/\(Builtin.copy_ #[t,u] ty #[vx,vy]).run P w=.ok v w'/\Post E w S φ (fun r=>obl.getD r none) out wr v w':=by
 unfold X0 at h
 split at h
 ·rename_i e hk
  obtain⟨sz',ys,h,hsv⟩:=Jr m hy h
  split at h
  ·rename_i r n
   refine Pz hT m hk (fun e' sz es frz ho hm=>?_) hsv h
   cases hx with | own _ _ _ k c a0 hv hkk h1 hbx=>
   refine⟨by omega,?_⟩
   rcases (h1 _ _ _ _ ho).2 hm with ⟨f1,f2,a9,f3⟩|⟨b,cap,f1,f3⟩
   ·exact .inl ⟨f2,a9,0,f3⟩
   exact .inr ⟨b,cap,cap.1,f1,by simpa using f3⟩
  ·rename_i r a n mm
   refine Pz hT m hk (fun e' sz es frz ho hm=>?_) hsv h
   cases hx with | osl _ _ _ _ _ k c a0 hv hkk h1=>
   obtain⟨q1,q2,_⟩:=(h1 e' sz es frz ho).2 hm
   refine⟨q1,?_⟩
   rcases q2 with q2 | ⟨b,cap,c',q2,q3,_⟩
   ·exact .inl ⟨q2,a0,c,by rw[hv,hkk,q2]⟩
   exact .inr ⟨b,cap,c',q2,q3⟩
  exact h.elim
 exact h.elim
theorem Ox {t u ty e:TypeId}{i:TypeInfo}{z:Value}(ht:P.underlying t=some (.slice e))(hu:P.underlying u=some (.int .i64))(hi:P.info? e=some i)(hz:i.zero=some z)(hzs:z.cells.size=i.size)(hsz:0<i.size)
  {n:Int} (h0:0<n) (h1:n<=1048576) (hb:i.bytes<=65536) :
  (Builtin.append_ #[t,u] ty #[.slice none 0 0,.int .i64 n]).run P w =
   .ok (.slice (some ⟨w.heap.size,0,none⟩) n.toNat (grownCap w n.toNat 0 e)) (w.drew.alloc (.cells (Builtin.zeroCells z.cells n.toNat++Builtin.zeroCells z.cells (grownCap w n.toNat 0 e-n.toNat)) e)):=by
 obtain⟨m,rfl⟩ :∃m:Nat,n=m:=⟨n.toNat,by omega⟩
 have hw:IntKind.i64.wrap (m:Int)=m:=by rw[IntKind.wrap_i64];omega
 have hm:m≠0:=by omega
 have hb2:m*i.bytes<=1048576*65536:=Nat.mul_le_mul (by omega) hb
 have c1:¬ ((m:Int)<0):=by omega
 have c2:¬ (281474976710656<(m:Int)*(i.bytes:Int)):=by
  have:((m*i.bytes:Nat):Int)<=68719476736:=by omega
  rw[Int.natCast_mul] at this
  omega
 have c3:m*i.size≠0:=Nat.mul_ne_zero hm (by omega)
 have c4:¬ (281474976710656<Builtin.nextslicecap m 0*i.bytes):=by rw[nextslicecap_zero (by omega)];omega
 have c5:¬ (9223372036854775807<(m:Int)):=by omega
 simp[Builtin.append_,run_underlying ht,run_underlying hu,sizeOf,typeInfo,zeroValue,hi,hz,asInt,asIntOf,hw,c1,c2,hm,c3,c4,c5,Nat.pos_iff_ne_zero.1 hsz,Question.forced,run_firstCells_none,newRow,grownCap]
theorem YP {z:Array Value}{n:Nat}:flat n z.size (fun _ j=>z.getD j undef)=(Builtin.zeroCells z n).toList:=by
 refine List.ext_getElem (by rw[flat_length,Array.length_toList,size_zeroCells]) fun k h1 h2=>?_
 rw[flat_length] at h1
 have hs:0<z.size:=by
  rcases Nat.eq_zero_or_pos z.size with h | h
  ·rw[h] at h1;simp at h1
  exact h
 have hm:=Nat.mod_lt k hs
 simp[flat,Builtin.zeroCells,hm]
theorem Ze {t u ty e:TypeId}{i:TypeInfo}{z:Value}(ht:P.underlying t=some (.slice e))(hu:P.underlying u=some (.int .i64))(hi:P.info? e=some i)(hz:i.zero=some z)(hzs:z.cells.size=i.size)(hsz:0<i.size)
  {n:Nat} (hone :∀v∈(Builtin.zeroCells z.cells n).toList,v.oneCell'=true) (h1:n<=1048576) (hb:i.bytes<=65536):ApRun P w t u ty e z i i.size n (fun _ j=>z.cells.getD j undef) (.int .i64 (n:Int)):=by
 have hw:IntKind.i64.wrap (n:Int)=n:=by rw[IntKind.wrap_i64];omega
 have hb2:n*i.bytes<=1048576*65536:=Nat.mul_le_mul h1 hb
 have c1:¬ ((n:Int)<0):=by omega
 have c2:¬ (281474976710656<(n:Int)*(i.bytes:Int)):=by
  have:((n*i.bytes:Nat):Int)<=68719476736:=by omega
  rw[Int.natCast_mul] at this
  omega
 have hf:flat n i.size (fun _ j=>z.cells.getD j undef)=(Builtin.zeroCells z.cells n).toList:=by rw[<- hzs];exact YP
 have hs0:i.size≠0:=by omega
 refine⟨fun h0 a m c hmc=>?_,fun h0 a0 hby=>?_,fun h0 g o sLen sCap cur hg hroom hfit=>?_,fun h0 b sLen sCap olds hlo holds hg h63 hfit=>?_⟩
 ·have hw0:IntKind.i64.wrap 0=0:=by rw[IntKind.wrap_i64];omega
  subst h0
  cases a<;>simp[Builtin.append_,run_underlying ht,run_underlying hu,sizeOf,typeInfo,zeroValue,hi,hz,asInt,asIntOf,hw0,hmc,storeCells]
 ·have hn:n≠0:=by omega
  have c3:n*i.size≠0:=Nat.mul_ne_zero hn hs0
  have c4:¬ (281474976710656<Builtin.nextslicecap n 0*i.bytes):=by rw[nextslicecap_zero (by omega)];omega
  have c5:¬ (9223372036854775807<(n:Int)):=by omega
  rw[hf]
  cases a0<;>simp[Builtin.append_,run_underlying ht,run_underlying hu,sizeOf,typeInfo,zeroValue,hi,hz,asInt,asIntOf,hw,c1,c2,hn,c3,c4,c5,hs0,Question.forced,run_firstCells_none,newRow,grownCap,Builtin.firstCells,loadCells,loadCellsFrom]
 ·have hn:n≠0:=by omega
  have c3:n*i.size≠0:=Nat.mul_ne_zero hn hs0
  have hst:=run_storeCells_at P g (o+sLen*i.size) e (Builtin.zeroCells z.cells n).toList 0 cur w hg (by rw[Array.length_toList,size_zeroCells,hzs];omega) hone
  simp only[Nat.add_zero] at hst
  rw[hf]
  simp[Builtin.append_,run_underlying ht,run_underlying hu,sizeOf,typeInfo,zeroValue,hi,hz,asInt,asIntOf,hw,c1,c2,hn,c3,hs0,hroom,Addr.add_lit,hst]
 have hn:n≠0:=by omega
 have c3:n*i.size≠0:=Nat.mul_ne_zero hn hs0
 have hn2:¬ (sLen+n<=sCap):=by omega
 have h63':¬ (9223372036854775807<((sLen:Int)+(n:Int))):=by omega
 have h48':¬ (281474976710656<Builtin.nextslicecap (sLen+n) sCap*i.bytes):=by omega
 have hfo:=run_firstCells_some (P:=P) w.drew i.size sLen b sLen sCap olds hlo (by simpa using holds)
 rw[hf]
 simp[Builtin.append_,run_underlying ht,run_underlying hu,sizeOf,typeInfo,zeroValue,hi,hz,asInt,asIntOf,hw,c1,c2,hn,c3,hs0,hn2,h63',h48',Question.forced,hfo,newRow,grownCap]
theorem Vu {obl:List (Option OB)}(hT:TabOk P T)(m:Mem E w S φ (fun r=>obl.getD r none)){t u ty self:Nat}{x n:AV}{vx vn:Value}{K:AV->W->Prop}
  (hx:RepA S w φ (fun r=>obl.getD r none) x vx) (hn:RepA S w φ (fun r=>obl.getD r none) n vn) (h:Xr T t u self x n obl K) :
  ∃out wr v w',K out wr/\(∀r o,(r,o)∈wr->r<obl.length)/\(Builtin.append_ #[t,u] ty #[vx,vn]).run P w=.ok v w'/\Post E w S φ (fun r=>obl.getD r none) out wr v w':=by
 unfold Xr at h
 split at h
 ·rename_i e szn n hk hku
  rw[E6,AI,X27,X27,X27] at h
  obtain⟨hself,⟨⟨⟨hkt,hkn⟩,hc1⟩,hs1c⟩,⟨b1,b2,b4⟩,z,hz,zs,hzs,hK⟩:=h
  have hpos:0<(T.get e).size:=X29 hc1
  obtain⟨hs1,hs2⟩:=C6 hself
  have hte:=hT.of (A7 hkn)
  obtain⟨ie,z0,hie,hi1,hi2,hz0,hz1,hz2,hz3⟩:=hte.info
  obtain rfl:=hn.int
  cases hx with | d _ _ hx=>
  cases hx with | nil=>
  have hut:P.underlying u=some (.int .i64):=by
   have:=(hT.of (A7 hkt)).kind
   rw[hku] at this
   exact this
  have hrun:=Ox (P:=P) (w:=w) (ty:=ty) (BB hT hk) hut hie hz0 (by rw[hz1,hi1]) (by omega) b1 b2 (by omega)
  have hzc:z.cells=(T.get e).zero.map fun x=>match x with
    | .nil sz=>.lst sz []
    | x=>x:=by
   rw[<- hz]
   split
   ·rfl
   rename_i hcl
   have h1:(T.get e).size=1:=by
    split at hs1c
    ·rename_i hq;exact absurd hq hcl
    exact X30 hs1c
   have hl:(T.get e).zero.length=1:=by omega
   obtain⟨x,hx⟩:=List.length_eq_one_iff.1 hl
   have hna :∀y∈(T.get e).zero,y.isAgg=false:=by
    intro y hy
    obtain⟨j,hj,rfl⟩:=List.getElem_of_mem hy
    have hj1:j<z0.cells.size:=by omega
    exact (LL (S:=S) (w:=w) (hz3 j hj z0.cells[j] (by simp[hj1]))).1
   rw[hx] at hna ⊢
   have:=hna x (by simp)
   cases x<;>first | rfl | simp[D.isAgg] at this
  have hzl:z.cells.length=(T.get e).size:=by rw[hzc];simp[hz2]
  have hcell :∀j (hj:j<z.cells.length),∃u,z0.cells[j]?=some u/\z.cells[j].isAgg=false/\RepD S w z.cells[j] u:=by
   intro j hj
   have hj0:j<(T.get e).zero.length:=by rw[hzl] at hj;omega
   have hj1:j<z0.cells.size:=by omega
   have hx0:=hz3 j hj0 z0.cells[j] (by simp[hj1])
   refine⟨z0.cells[j],by simp[hj1],?_⟩
   have e1:z.cells[j]=(match (T.get e).zero[j] with
    | .nil sz=>.lst sz []
    | x=>x):=by simp[hzc]
   rw[e1]
   obtain⟨a1,a2⟩:=LL (S:=S) (w:=w) hx0
   cases hq:(T.get e).zero[j] with
   | nil sz=>
    rw[hq] at a2
    generalize z0.cells[j]=u at a2 ⊢
    cases a2
    exact⟨rfl,.lst0 _ _ _⟩
   | val v=>rw[hq] at a1 a2;exact⟨a1,a2⟩
   | agg cs=>rw[hq] at a1;simp[D.isAgg] at a1
   | lst sz es=>rw[hq] at a1 a2;exact⟨rfl,a2⟩
  subst hzs
  have hzn :∀i (hi:i<(List.replicate n.toNat z).length),(List.replicate n.toNat z)[i]=z:=by intro i hi;simp
  refine⟨_,_,_,_,hK,fun r o hm=>?_,hrun,?_⟩
  ·simp only[X14,X26] at hm
   rw[hm.1];exact hs2
  have hge:=grownCap_ge w n.toNat 0 e
  have hle:=grownCap_le_maxLen w n.toNat 0 e (by simp only[maxLen];omega)
  generalize grownCap w n.toNat 0 e=cap at hge hle ⊢
  obtain⟨md,kd⟩:=m.drew
  have hcs:z0.cells.size=(T.get e).size:=hz1
  have hsz:(Builtin.zeroCells z0.cells n.toNat++Builtin.zeroCells z0.cells (cap-n.toNat)).size=cap*(T.get e).size:=by
   rw[Array.size_append,size_zeroCells,size_zeroCells,hcs,<- X32]
   congr 1;omega
  have hat :∀i j,i<n.toNat->j<(T.get e).size->(Builtin.zeroCells z0.cells n.toNat++Builtin.zeroCells z0.cells (cap-n.toNat))[i*(T.get e).size+j]?=z0.cells[j]?:=by
   intro i j hi hj
   have hlt:(i+1)*(T.get e).size<=n.toNat*(T.get e).size:=X31 _ (by omega)
   rw[X32] at hlt
   rw[Array.getElem?_append_left (by rw[size_zeroCells,hcs];omega)]
   have:=HH z0.cells n.toNat i j hi (by omega)
   rw[hcs] at this
   exact this
  obtain⟨m2,k2⟩:=md.alloc self (cap,0) (.row e (T.get e).size (List.replicate n.toNat z) .no) (Builtin.zeroCells z0.cells n.toNat++Builtin.zeroCells z0.cells (cap-n.toNat)) e hs1 (fun r hr=>by simp[OB.refs] at hr) (fun hk2=>by
   refine⟨hpos,fun i hi=>by rw[hzn i hi];exact hzl,fun i hi j hj=>?_,.inr ⟨w.drew.heap.size,(cap,0),Builtin.zeroCells z0.cells n.toNat++Builtin.zeroCells z0.cells (cap-n.toNat),fun i j=>z0.cells.getD j undef,upd_same _ _ _,heap_alloc_new w.drew _,by simpa using hge,?_,Nat.le_of_eq ((Nat.zero_add _).trans hsz.symm),fun i j hi hj=>?_,fun i hi j hj=>?_,fun o _ ho=>absurd (md.bS _ _ ho) (Nat.lt_irrefl _),fun _ _ _ _ h=>nomatch h⟩⟩
   ·have:=hzn i hi
    simp only[this] at hj ⊢
    exact (hcell j hj).choose_spec.2.1
   ·exact hle
   ·simp only[X20] at hi
    simp only[Nat.zero_add]
    rw[hat i j hi hj]
    have hj1:j<z0.cells.size:=by omega
    simp[hj1]
   have:=hzn i hi
   simp only[this] at hj ⊢
   obtain⟨u,q1,q2,q3⟩:=hcell j hj
   have:z0.cells.getD j undef=u:=by simp[q1]
   rw[this]
   exact (q3.mono kd.k).mono hk2.k)
  refine⟨S,_,m2,kd.trans k2,?_,?_⟩
  ·refine .own self _ _ n.toNat cap (some ⟨w.heap.size,0,none⟩) rfl (by simp) (fun e2 sz2 es2 f2 hx2=>?_) (fun cs hx2=>?_)
   ·simp only[Au,upd_same,X24,OB.row.injEq] at hx2
    obtain⟨rfl,rfl,rfl,rfl⟩:=hx2
    exact⟨by simp,fun _=>.inr ⟨_,_,upd_same _ _ _,by simp⟩⟩
   simp[Au] at hx2
  intro r hr
  simp only[AV.refs,X14] at hr
  subst hr
  simp[Au]
 exact h.elim
theorem We (hT:TabOk P T){t ty:Nat}{x:AV}{vx:Value}{K:AV->Prop}(hx:RepA S w φ ob x vx)(h:aP T t x K) :
  GU K ((Builtin.cap_ #[t] ty #[vx]).run P w) w:=by
 unfold aP at h
 split at h
 ·rename_i hk
  cases hx with | d _ _ hx=>
  cases hx with | nil=>
  exact⟨_,rfl,h,by simp[Builtin.cap_,run_underlying (BB hT hk),goInt]⟩
 exact h.elim
end
end Go.AX
end
section
namespace Go.AX
section
variable {P:Program} {T:TT} {E:Env} {w:World} {S:Sc} {φ:Nat->Option (Nat×Rp)} {ob:Nat->Option OB}
theorem LD {obl:List (Option OB)}(m:Mem E w S φ (fun r=>obl.getD r none)){u:Value}(h:u.oneCell'=true):Post E w S φ (fun r=>obl.getD r none) (.d (.val u)) [] u w:=
 Post.pure m (.d _ _ (.val _ h)) (BJ _ _)
theorem OH {a:AV}(h:isNil a=true):a=.d (.val (.slice none 0 0)):=by
 unfold isNil at h
 split at h
 ·rfl
 simp at h
theorem Yd {t:Nat}{i:TypeInfo}{z:Value}(hi:P.info? t=some i)(hz:i.zero=some z):(Instr.alloc t true (.tuple #[])).run P w=.ok (.pointer (some ⟨w.heap.size,0,none⟩)) (w.alloc (.cells z.cells t)):=by
 simp[Instr.alloc,zeroValue,typeInfo,hi,hz,newVar,newRow]
theorem Il {obl:List (Option OB)}{out:AV}{e sz:Nat}{zs:List D}{frz:FZ}{r:Nat}{u:Value}{w':World}{φ':Nat->Option (Nat×Rp)}
  (m:Mem E w' S φ' (upd (fun r=>obl.getD r none) r (some (.row e sz zs frz)))) (k:Kept w S φ (fun r=>obl.getD r none) w' S φ' (upd (fun r=>obl.getD r none) r (some (.row e sz zs frz))))
  (hv:Ib φ' r zs.length u) (ho:out=.own r zs.length):Post E w S φ (fun r=>obl.getD r none) out [(r,.row e sz zs frz)] u w':=by
 subst ho
 refine⟨S,φ',m,k,?_,fun r' hr'=>?_⟩
 ·have hs :∃k c a0,u=.slice a0 k c/\k=zs.length:=by
   rcases hv with ⟨_,h2,_,rfl⟩|⟨b,cap,_,rfl⟩
   ·exact⟨0,0,_,rfl,h2.symm⟩
   exact⟨_,cap.1,_,rfl,rfl⟩
  obtain⟨k',c,a0,h1,h2⟩:=hs
  refine .own r _ u k' c a0 h1 h2 (fun e' sz' es' f' hx=>?_) fun cs hx=>?_
  ·simp only[Au,upd_same,X24,OB.row.injEq] at hx
   obtain⟨rfl,rfl,rfl,rfl⟩:=hx
   exact⟨Nat.le_refl _,fun _=>hv⟩
  simp[Au] at hx
 simp only[AV.refs,X14] at hr'
 subst hr'
 simp[Au]
theorem Bj {a b:Nat}:Nat.beq a b=true↔a=b:=⟨X30,fun h=>h ▸ Nat.beq_refl a⟩
theorem Vx {obl:List (Option OB)}(hT:TabOk P T)(m:Mem E w S φ (fun r=>obl.getD r none)){t u ty r k:Nat}{n:AV}{vx vn:Value}{K:AV->W->Prop}
  (hx:RepA S w φ (fun r=>obl.getD r none) (.own r k) vx) (hn:RepA S w φ (fun r=>obl.getD r none) n vn) (h:XV T t u r k n obl K) :
  ∃out wr v w',K out wr/\(∀r o,(r,o)∈wr->r<obl.length)/\(Builtin.append_ #[t,u] ty #[vx,vn]).run P w=.ok v w'/\Post E w S φ (fun r=>obl.getD r none) out wr v w':=by
 unfold XV at h
 split at h
 ·rename_i e n hk hku
  rw[A1] at h
  obtain⟨o,ho,h⟩:=h
  cases o with
  | box=>simp at h
  | map=>simp at h
  | amap=>simp at h
  | gone=>simp at h
  | row e' sz es frz=>
   simp only[AI,X27] at h
   obtain⟨⟨⟨⟨⟨⟨q1,q2⟩,q3⟩,q4⟩,q5⟩,q6⟩,⟨hkn,b1,b2,b3,b4,b5⟩,z,hz,zs,hzs,hK⟩:=h
   have q1:=Bj.1 q1
   have q2:=Bj.1 q2
   obtain rfl:=FZ.free_eq q3
   subst q1 hzs
   obtain⟨g0,_⟩:=m.obj r _ ho
   have hpos:0<(T.get e').size:=by omega
   obtain⟨z0,hz0,hzr⟩:=Oy (P:=P) (w:=w) (S:=S) hT q5 hpos q6
   rw[hz] at hzr
   obtain⟨zc,zr⟩:=hzr.cells
   have hte:=hT.of (A7 q5)
   obtain⟨ie,zz,hie,hi1,hi2,hzz,hzz1,hzz2,_⟩:=hte.info
   have hz00:z0=zz:=by
    have:(zeroValue e').run P w=.ok zz w:=by simp[zeroValue,typeInfo,hie,hzz]
    rw[this] at hz0
    simp only[Result.ok.injEq] at hz0
    exact hz0.1.symm
   subst hz00
   have hzcs:z0.cells.size=sz:=by omega
   have hzl:z.cells.length=sz:=by omega
   obtain⟨mn,rfl⟩ :∃mn:Nat,n=mn:=⟨n.toNat,by omega⟩
   simp only[Int.toNat_natCast] at b4 b5 hK
   have hone :∀v∈(Builtin.zeroCells z0.cells mn).toList,v.oneCell'=true:=by
    intro v hv'
    obtain⟨q,hq,rfl⟩:=List.getElem_of_mem hv'
    have hvl:(Builtin.zeroCells z0.cells mn).toList.length=mn*sz:=by simp[size_zeroCells,hzcs]
    rw[hvl] at hq
    have e1:q/sz<mn:=Nat.div_lt_of_lt_mul (by rw[Nat.mul_comm];exact hq)
    have e2:q%sz<sz:=Nat.mod_lt _ g0
    have e3:q/sz*sz+q%sz=q:=Nat.div_add_mod' q sz
    have:=HH z0.cells mn (q/sz) (q%sz) e1 (by omega)
    rw[hzcs,e3] at this
    obtain⟨u,p1,p2,p3⟩:=zr (q%sz) (by omega)
    rw[p1] at this
    have hq':q<(Builtin.zeroCells z0.cells mn).size:=by simpa using (by omega:q<(Builtin.zeroCells z0.cells mn).toList.length)
    rw[Array.getElem?_eq_getElem hq'] at this
    simp only[Array.getElem_toList]
    rw[X25 this]
    exact p3.one p2
   obtain rfl:=hn.int
   cases hx with | own _ _ _ k c a0 hv hkk h1 hbx=>
   have hown:=(h1 _ _ _ _ ho).2 hkn
   rw[hkn] at hown
   have hut:P.underlying u=some (.int .i64):=by
    have:=(hT.of (A7 q4)).kind
    rw[hku] at this
    exact this
   have hln:(List.replicate mn z).length=mn:=by simp
   have hzi :∀i (hi:i<(List.replicate mn z).length),(List.replicate mn z)[i]=z:=by intro i hi;simp
   obtain⟨u',w',φ',g1,g2,g3,g4⟩:=Jk (ty:=ty) (u:=u) (ys:=List.replicate mn z) (fz':=.no) (vy:=.int .i64 (mn:Int)) (f:=fun _ j=>z0.cells.getD j undef) m hte (BB hT hk) rfl ho hown
    (fun i hi=>by rw[hzi i hi];exact hzl) (fun i hi j hj=>by
     have:=hzi i hi
     simp only[this] at hj ⊢
     exact (zr j hj).choose_spec.2.1) (fun i hi j hj=>by
     have:=hzi i hi
     simp only[this] at hj ⊢
     obtain⟨u,p1,p2,p3⟩:=zr j hj
     have:z0.cells.getD j undef=u:=by simp[p1]
     rw[this]
     exact p3) (fun {i z'} hi hz'=>by
     rw[hie] at hi
     cases hi
     rw[hzz] at hz'
     cases hz'
     have:=Ze (w:=w) (ty:=ty) (n:=mn) (BB hT hk) hut hie hzz (by omega) (by omega) hone (by omega) (by omega)
     rw[hln]
     have e:ie.size=sz:=by omega
     rw[e] at this
     exact this) (fun _ _ _ _ h=>nomatch h) q2.symm (by rw[hln];exact b4) (by rw[hln];exact b5)
   refine⟨_,_,u',w',hK,fun r' o' hm=>?_,g1,Il g2 g3 g4 rfl⟩
   simp only[X14,X26] at hm
   rw[hm.1];exact Bo obl _ _ ho
 exact h.elim
theorem Vz {obl:List (Option OB)}(hT:TabOk P T)(m:Mem E w S φ (fun r=>obl.getD r none)){t u ty self:Nat}{x n:AV}{vx vn:Value}{K:AV->W->Prop}
  (hx:RepA S w φ (fun r=>obl.getD r none) x vx) (hn:RepA S w φ (fun r=>obl.getD r none) n vn) (h:Xb T t u self x n obl K) :
  ∃out wr v w',K out wr/\(∀r o,(r,o)∈wr->r<obl.length)/\(Builtin.append_ #[t,u] ty #[vx,vn]).run P w=.ok v w'/\Post E w S φ (fun r=>obl.getD r none) out wr v w':=by
 unfold Xb at h
 split at h
 ·exact Vx hT m hx hn h
 ·exact Vu hT m hx hn h
 exact h.elim
theorem XB {obl:List (Option OB)}(m:Mem E w S φ (fun r=>obl.getD r none)){y:AV}{vy:Value}{k sz:Nat}{frz:FZ}{K:FZ->Prop}(hy:RepA S w φ (fun r=>obl.getD r none) y vy)(h:Zd obl y k sz frz K) :
  ∃f:FZ,f.frozen=frz.frozen/\K f/\∀i j q n,f=.lk i j q n->obl.getD q none≠none/\∃i0,i=k+i0/\∀b o l c u,vy=.slice (some ⟨b,o,none⟩) l c->i0<l->j<sz->cellAt w b (o+(i0*sz+j))=some u->RepA S w φ (fun r=>obl.getD r none) (.own q n) u:=by
 unfold Zd at h
 split at h
 ·exact⟨.yes,rfl,h,fun _ _ _ _ h=>nomatch h⟩
 rename_i hn
 have hf:frz.frozen=false:=by
  cases frz with
  | yes=>exact absurd rfl hn
  | no=>rfl
  | lk=>rfl
 rw[hf]
 split at h
 ·rename_i q n
  split at h
  ·rename_i e sz' ys i j q' n' hq
   split at h
   ·rename_i hb
    have hb:=X30 hb
    subst hb
    obtain⟨hn,hK⟩:=h
    refine⟨_,rfl,hK,fun i2 j2 q2 n2 he=>?_⟩
    simp only[FZ.lk.injEq] at he
    obtain⟨rfl,rfl,rfl,rfl⟩:=he
    refine⟨m.men q _ hq _ (by simp[OB.refs]),i,rfl,fun b o l c u hvy hi hj hc=>?_⟩
    cases hy with | own _ _ _ k' c' a0 hv hkk h1 hbx=>
    obtain⟨_,_,_,g3⟩:=m.obj q _ hq
    rcases (h1 _ _ _ _ hq).2 hn with ⟨a1,a2,a3,a4⟩|⟨b1,cap,a1,a4⟩
    ·rw[hvy] at a4
     simp at a4
     omega
    rw[hvy] at a4
    simp only[Value.slice.injEq,X24,Addr.mk.injEq] at a4
    obtain⟨⟨rfl,rfl,_⟩,rfl,rfl⟩:=a4
    rcases g3 with ⟨f1,_⟩|⟨b',cap',vs,f,f1,f2,f3,f4,f5,f6,f7,f8⟩
    ·rw[a1] at f1;simp at f1
    rw[a1] at f1
    simp only[X24,X26] at f1
    obtain⟨rfl,rfl⟩:=f1
    have:=f6 i j (by omega) hj
    rw[<- Bd f2,hc] at this
    rw[X25 this]
    exact f8.2 i j q' n' rfl (by omega) hj
   exact⟨.no,rfl,h,fun _ _ _ _ h=>nomatch h⟩
  exact⟨.no,rfl,h,fun _ _ _ _ h=>nomatch h⟩
 exact⟨.no,rfl,h,fun _ _ _ _ h=>nomatch h⟩
theorem SJ {obl:List (Option OB)}(hT:TabOk P T)(m:Mem E w S φ (fun r=>obl.getD r none)){st ty self:Nat}{x y:AV}{vx vy:Value}{K:AV->W->Prop}(hx:RepA S w φ (fun r=>obl.getD r none) x vx)
  (hy:RepA S w φ (fun r=>obl.getD r none) y vy) (h:QP T st self x y obl K) :
  ∃out wr u w',K out wr/\(∀r o,(r,o)∈wr->r<obl.length)/\(Builtin.append_ #[st,st] ty #[vx,vy]).run P w=.ok u w'/\Post E w S φ (fun r=>obl.getD r none) out wr u w':=by
 unfold QP at h
 split at h
 ·rename_i e hk
  obtain⟨sz',ys,h,hsv⟩:=Jr m hy h
  split at h
  ·rename_i szn
   rw[E6,AI,AI,X27] at h
   obtain⟨hself,⟨hc1,hc2⟩,hkn,hb,hK⟩:=h
   have hsz:=Bj.1 hc1
   have hpos:0<(T.get e).size:=X29 hc2
   subst hsz
   obtain⟨hs1,hs2⟩:=C6 hself
   obtain⟨m1,k1⟩:=m.empty self e (T.get e).size hs1 hpos
   cases hx with | d _ _ hx=>
   cases hx with | nil=>
   have hsv1:SrcV S w (T.get e).size ys vy:=hsv
   obtain⟨u,w',φ',h1,h2,h3,h4⟩:=LV (ty:=ty) m1 (hT.of (A7 hkn)) (BB hT hk) (r:=self) (es:=[]) (frz:=.no) (fz':=.no) rfl (upd_same _ _ _) (.inl ⟨upd_same _ _ _,rfl,_,rfl⟩) hsv1 (fun _ _ _ _ h=>nomatch h) rfl (by simpa using hb.1) (by simpa using hb.2)
   rw[List.nil_append,XG] at h2 h3
   rw[List.nil_append] at h4
   refine⟨_,_,u,w',hK,fun r o hm=>?_,h1,Il h2 (k1.trans h3) h4 rfl⟩
   simp only[X14,X26] at hm
   rw[hm.1];exact hs2
  ·rename_i r n
   rw[A1] at h
   obtain⟨o,ho,h⟩:=h
   cases o with
   | box=>simp at h
   | map=>simp at h
   | amap=>simp at h
   | gone=>simp at h
   | row e' sz es frz=>
    simp only[AI,X27] at h
    obtain⟨⟨⟨⟨q1,q2⟩,q3⟩,q4⟩,hkn,hn,hb,zs,hzs,hK⟩:=h
    obtain⟨fz',hfz,hK,hlk⟩:=XB m hy hK
    have q1:=Bj.1 q1
    have q2:=Bj.1 q2
    have q3:=Bj.1 q3
    subst q1 q2 hzs
    cases hx with | own _ _ _ k c a0 hv hkk h1 hbx=>
    have hown:=(h1 _ _ _ _ ho).2 hn
    rw[hn] at hown
    obtain⟨u,w',φ',g1,g2,g3,g4⟩:=LV (ty:=ty) m (hT.of (A7 hkn)) (BB hT hk) hfz ho hown hsv (fun i j q n h=>hlk i j q n h) q3.symm hb.1 hb.2
    refine⟨_,_,u,w',hK,fun r o hm=>?_,g1,Il g2 g3 g4 rfl⟩
    simp only[X14,X26] at hm
    rw[hm.1];exact Bo obl _ _ ho
  ·rename_i r a n mm _
   rw[A1] at h
   obtain⟨o,ho,h⟩:=h
   cases o with
   | box=>simp at h
   | map=>simp at h
   | amap=>simp at h
   | gone=>simp at h
   | row e' sz es frz=>
    simp only[AI,X27,E6] at h
    obtain⟨⟨⟨⟨⟨q1,q2⟩,q3⟩,q4⟩,q5⟩,hkn,hself,ha0,hn,hnl,hb,zs,hzs,hK⟩:=h
    have q1:=Bj.1 q1
    have q2:=Bj.1 q2
    have q3:=Bj.1 q3
    obtain rfl:=FZ.free_eq q5
    subst q1 q2 hzs ha0
    obtain⟨hs1,hs2⟩:=C6 hself
    cases hx with | osl _ _ _ _ _ k c a0 hv hkk h1=>
    obtain⟨_,_,hown⟩:=(h1 _ _ _ _ ho).2 hn
    have hown:=hown rfl
    have htl:(es.take n).length=n:=by simp;omega
    have hp :∃p:Option (Nat×Rp),((p=none/\es.take n=[]) \/∃b c c',φ r=some (b,c)/\p=some (b,(c',c.2+0*sz'))/\(es.take n).length<=c'/\0+c'<=c.1)/\Ib (upd (upd φ r none) self p) self n vx:=by
     rcases hown with ⟨f1,f2,a9,f3⟩|⟨b,cap,f1,f3⟩
     ·exact⟨none,.inl ⟨rfl,List.eq_nil_of_length_eq_zero (by omega)⟩,.inl ⟨upd_same _ _ _,f2,a9,f3⟩⟩
     refine⟨some (b,(cap.1,cap.2+0*sz')),.inr ⟨b,cap,cap.1,f1,rfl,?_,by omega⟩,.inr ⟨b,(cap.1,cap.2+0*sz'),upd_same _ _ _,by simpa using f3⟩⟩
     obtain⟨_,_,_,g3⟩:=m.obj r _ ho
     rcases g3 with ⟨g3,_⟩|⟨b',cap',vs,g,g1,g2,g3,_⟩
     ·rw[f1] at g3;simp at g3
     rw[f1] at g1
     simp only[X24,X26] at g1
     obtain⟨rfl,rfl⟩:=g1
     omega
    obtain⟨p,hp1,hp2⟩:=hp
    obtain⟨m1,k1⟩:=m.moveAt r self e' sz' 0 es (es.take n) p ho hs1 (by omega) (fun i hi=>by simp) hp1
    obtain⟨u,w',φ',g1,g2,g3,g4⟩:=LV (ty:=ty) m1 (hT.of (A7 hkn)) (BB hT hk) (r:=self) (es:=es.take n) (ys:=ys) (frz:=.no) (fz':=.no) rfl (upd_same _ _ _) (by rw[htl];exact hp2) hsv (fun _ _ _ _ h=>nomatch h) q3.symm (by rw[htl];exact hb.1) (by rw[htl];exact hb.2)
    rw[XG] at g2 g3
    refine⟨_,_,u,w',hK,fun r' o hm=>?_,g1,S,φ',g2,k1.trans g3,?_,fun r' hr'=>?_⟩
    ·simp only[List.mem_cons,X14,X26,List.not_mem_nil,or_false] at hm
     rcases hm with hm | hm
     ·rw[hm.1];exact Bo obl _ _ ho
     rw[hm.1];exact hs2
    ·have hs :∃k c a0,u=.slice a0 k c/\k=(es.take n++ys).length:=by
      rcases g4 with ⟨_,h2,_,rfl⟩|⟨b,cap,_,rfl⟩
      ·exact⟨0,0,_,rfl,h2.symm⟩
      exact⟨_,cap.1,_,rfl,rfl⟩
     obtain⟨k',c,a0,e1,e2⟩:=hs
     refine .own self _ u k' c a0 e1 e2 (fun e2' sz2 es2 f2 hx=>?_) fun cs hx=>?_
     ·simp only[Au,upd_same,X24,OB.row.injEq] at hx
      obtain⟨rfl,rfl,rfl,rfl⟩:=hx
      exact⟨Nat.le_refl _,fun _=>g4⟩
     simp[Au] at hx
    simp only[AV.refs,X14] at hr'
    subst hr'
    simp[Au]
  exact h.elim
 exact h.elim
theorem RunOK.value {o:Oper}{ρ:Operand->Value}{Q:Value->World->Prop}{u:Value}{w':World}(h:(execOp ρ o).run P w=.ok (.value u) w')(hq:Q u w'):RunOK P o ρ w Q:=by
 unfold RunOK;rw[h];exact hq
theorem RunOK.skip {o:Oper}{ρ:Operand->Value}{Q:Value->World->Prop}{w':World}(h:(execOp ρ o).run P w=.ok .skip w')(hq:Q undef w'):RunOK P o ρ w Q:=by
 unfold RunOK;rw[h];exact hq
theorem VD {t e:Nat}{ie:TypeInfo}(hk:P.underlying t=some (.slice e))(hi:P.info? e=some ie){a:Option Addr}{len cap:Nat}{lo hi' mx:Option Value}{l h q:Nat}
  (hl:lo=none/\l=0 \/∃k,lo=some (.int k (l:Int))) (hh:hi'=none/\h=len \/∃k,hi'=some (.int k (h:Int))) (hm:mx=none/\q=cap\/(∃k,mx=some (.int k (q:Int)))/\hi'≠none)
  (h1:l<=h) (h2:h<=q) (h3:q<=cap) :
  (Instr.sliceAt t (.slice a len cap) lo hi' mx).run P w=.ok (.slice (if q=l then a else a.map (·.add (l*ie.size))) (h-l) (q-l)) w:=by
 unfold Instr.sliceAt
 have hb:(Instr.sliceBounds true len cap lo hi' mx).run P w=.ok (l,h,q) w:=by
  unfold Instr.sliceBounds
  have B :∀(k:IntKind) (c:BoundsCode) (i y:Nat),i<=y->(Instr.sliceBound (.int k (i:Int)) y c).run P w=.ok i w:=fun k c i y hiy=>Fb (P:=P) (w:=w) (k:=k) (c:=c) (i:=(i:Int)) (y:=y) ⟨by omega,by omega⟩
  rcases hm with ⟨rfl,rfl⟩|⟨⟨km,rfl⟩,hne⟩<;>rcases hl with ⟨rfl,rfl⟩|⟨k,rfl⟩<;>rcases hh with ⟨rfl,rfl⟩|⟨k',rfl⟩
  ·simp
  ·simp[Sem.run_bind,B k' _ h q h2]
  ·simp[Sem.run_bind,B k _ l h h1]
  ·simp[Sem.run_bind,B k' _ h q h2,B k _ l h h1]
  ·exact absurd rfl hne
  ·simp[Sem.run_bind,B km _ q cap h3,B k' _ h q h2]
  ·exact absurd rfl hne
  simp[Sem.run_bind,B km _ q cap h3,B k' _ h q h2,B k _ l h h1]
 simp[Sem.run_bind,run_underlying hk,Instr.slice,hb,sizeOf,typeInfo,hi]
def BR (S:Sc)(w:World)(φ:Nat->Option (Nat×Rp))(ob:Nat->Option OB)(a:Option AV)(v:Option Value):Prop:=(a=none/\v=none) \/∃x y,a=some x/\v=some y/\RepA S w φ ob x y
theorem BR.bound {a:Option AV}{v:Option Value}{dflt:Int}{K:Int->Prop}(h:BR S w φ ob a v)(hb:EH a dflt K) :∃i,(v=none/\i=dflt \/∃k,v=some (.int k i))/\K i:=by
 unfold EH at hb
 split at hb
 ·rcases h with ⟨_,h⟩|⟨x,y,h,_⟩
  ·exact⟨dflt,.inl ⟨h,rfl⟩,hb⟩
  simp at h
 ·rcases h with ⟨h,_⟩|⟨x,y,h1,h2,h3⟩
  ·simp at h
  simp only[X24] at h1
  subst h1
  exact⟨_,.inr ⟨_,by rw[h2,h3.int]⟩,hb⟩
 exact hb.elim
theorem OG {obl:List (Option OB)}(hT:TabOk P T)(m:Mem E w S φ (fun r=>obl.getD r none)){t e self r n:Nat}(hk:(T.get t).kind=.slice e){lo hi mx:Option AV}{lo' hi' mx':Option Value}{vx:Value}{K:AV->W->Prop}
  (hlo:BR S w φ (fun r=>obl.getD r none) lo lo') (hhi:BR S w φ (fun r=>obl.getD r none) hi hi') (hmx:BR S w φ (fun r=>obl.getD r none) mx mx') (hmh:mx'≠none->hi'≠none)
  (hxa:RepA S w φ (fun r=>obl.getD r none) (.own r n) vx) (h:RJ T e self r n lo hi mx obl K) :
  ∃out wr u,K out wr/\(∀r o,(r,o)∈wr->r<obl.length)/\(Instr.sliceAt t vx lo' hi' mx').run P w=.ok u w/\Post E w S φ (fun r=>obl.getD r none) out wr u w:=by
 unfold RJ at h
 rw[E6,AI,A1] at h
 obtain⟨hself,hkn,ob,ho,h⟩:=h
 cases ob with
 | box=>simp at h
 | map=>simp at h
 | amap=>simp at h
 | gone=>simp at h
 | row e' sz es frz=>
  simp only[AI,X27] at h
  obtain⟨⟨hsz,hfz⟩,h⟩:=h
  obtain rfl:=FZ.free_eq hfz
  have hsz':=Bj.1 hsz
  obtain⟨l,hl,h⟩:=hlo.bound h
  obtain⟨u,hh,h⟩:=hhi.bound h
  obtain⟨q,hq,⟨c1,c2,c3,c4⟩,hn,zs,hzs,hK⟩:=hmx.bound h
  obtain⟨hs1,hs2⟩:=C6 hself
  obtain⟨ie,z,hie,hi1,_⟩:=(hT.of (A7 hkn)).info
  obtain⟨g0,g1,g2,g3⟩:=m.obj r _ ho
  cases hxa with | own _ _ _ kk c a0 hv0 hkn0 h1 hbx=>
  have hown:=(h1 e' sz es .no ho).2 hn
  subst hv0
  have hlc:kk<=c/\kk=es.length:=by
   refine⟨?_,by omega⟩
   rcases hown with ⟨_,p2,a9,p3⟩|⟨b,cap,p1,p2⟩
   ·simp only[Value.slice.injEq] at p3;omega
   simp only[Value.slice.injEq] at p2
   obtain⟨_,p3,p4⟩:=p2
   rcases g3 with ⟨f1,_⟩|⟨b',cap',vs,f,f1,f2,f3,_⟩
   ·rw[f1] at p1;simp at p1
   rw[f1] at p1
   simp only[X24,X26] at p1
   obtain⟨rfl,rfl⟩:=p1
   omega
  obtain⟨qn,hqn,hqv,hq1,hq2⟩ :∃qn:Nat,(mx'=none/\qn=c\/(∃k,mx'=some (.int k (qn:Int)))/\hi'≠none)/\True/\u.toNat<=qn/\qn<=c:=by
   rcases hq with ⟨q1,q2⟩|⟨k,q1⟩
   ·exact⟨c,.inl ⟨q1,rfl⟩,trivial,by omega,Nat.le_refl _⟩
   exact⟨q.toNat,.inr ⟨⟨k,by rw[q1];congr 2;omega⟩,hmh (by rw[q1];simp)⟩,trivial,by omega,by omega⟩
  have hrun:=VD (P:=P) (w:=w) (BB hT hk) hie (a:=a0) (len:=kk) (cap:=c) (lo:=lo') (hi':=hi') (mx:=mx') (l:=l.toNat) (h:=u.toNat) (q:=qn)
   (hl.imp (fun q=>⟨q.1,by omega⟩) fun ⟨k,q⟩=>⟨k,by rw[q];congr 2;omega⟩)
   (hh.imp (fun q=>⟨q.1,by omega⟩) fun ⟨k,q⟩=>⟨k,by rw[q];congr 2;omega⟩) hqn (by omega) hq1 hq2
  have hzl:zs.length=u.toNat-l.toNat:=by rw[<- hzs];simp;omega
  obtain⟨p,hp,hpv⟩ :∃p:Option (Nat×Rp),((p=none/\zs=[]) \/∃b c0 c',φ r=some (b,c0)/\p=some (b,(c',c0.2+l.toNat*sz))/\zs.length<=c'/\l.toNat+c'<=c0.1)/\
    ∀(φ':Nat->Option (Nat×Rp)),φ' self=p->Ib φ' self zs.length (.slice (if qn=l.toNat then a0 else a0.map (·.add (l.toNat*ie.size))) (u.toNat-l.toNat) (qn-l.toNat)):=by
   by_cases hz0:qn=l.toNat
   ·have:zs=[]:=List.eq_nil_of_length_eq_zero (by omega)
    exact⟨none,.inl ⟨rfl,this⟩,fun φ' h'=>.inl ⟨h',by rw[this];rfl,a0,by rw[if_pos hz0];congr 1<;>omega⟩⟩
   rcases hown with ⟨p1,p2,a9,p3⟩|⟨b,cap,p1,p2⟩
   ·simp only[Value.slice.injEq] at p3
    omega
   simp only[Value.slice.injEq] at p2
   obtain⟨rfl,p3,rfl⟩:=p2
   refine⟨some (b,(qn-l.toNat,cap.2+l.toNat*sz)),.inr ⟨b,cap,_,p1,rfl,by omega,by omega⟩,fun φ' h'=>.inr ⟨b,_,h',?_⟩⟩
   rw[if_neg hz0]
   simp only[Option.map_some,Addr.add_none,hi1,<- hsz']
   congr 1
   omega
  obtain⟨m1,k1⟩:=m.moveAt r self e' sz l.toNat es zs p ho hs1 (by omega) (fun i hi=>by
   subst hzs
   simp) hp
  have hrs:r≠self:=fun he=>by rw[he] at ho;rw[hs1] at ho;simp at ho
  have hupd:Au (fun r=>obl.getD r none) [(r,.gone),(self,.row e' sz zs .no)]=upd (upd (fun r=>obl.getD r none) r (some .gone)) self (some (.row e' sz zs .no)):=rfl
  refine⟨_,_,_,hK,fun r' o' hm=>?_,hrun,⟨S,_,by rw[hupd];exact m1,by rw[hupd];exact k1,?_,?_⟩⟩
  ·simp only[List.mem_cons,X26,List.not_mem_nil,or_false] at hm
   rcases hm with ⟨rfl,_⟩|⟨rfl,_⟩
   ·exact Bo obl _ _ ho
   exact hs2
  ·rw[hupd]
   refine .own self _ _ _ _ _ rfl hzl.symm (fun e2 sz2 es2 f2 hx2=>?_) fun cs hx2=>by simp at hx2
   simp only[upd_same,X24,OB.row.injEq] at hx2
   obtain⟨rfl,rfl,rfl,rfl⟩:=hx2
   exact⟨Nat.le_refl _,fun _=>hpv _ (upd_same _ _ _)⟩
  intro r' hr'
  simp only[AV.refs,X14] at hr'
  subst hr'
  rw[hupd]
  simp
theorem Q4 {obl:List (Option OB)}{cx:Cx}{o:Oper}{av:Operand->AV}{ρ:Operand->Value}{K:AV->W->Prop}{x:Operand}{args:Array Operand}{argTypes:Array Nat}{f:FuncId}{caps:List AV}{G:List AV->Prop}
  (hav :∀x,RepA S w φ (fun r=>obl.getD r none) (av x) (ρ x)/\Closed (fun r=>obl.getD r none) (av x)) (heq:o.op=.call ⟨.value x,args,argTypes⟩) (hf:av x=.fn f caps\/(av x=.d (.val (.func (.func f) #[] #[]))/\caps=[]))
  (snd :∀(asz:List AV) (vals:Array Value),All2 (fun a v=>RepA S w φ (fun r=>obl.getD r none) a v/\Closed (fun r=>obl.getD r none) a) asz vals.toList->G asz->
   ∃ out wr, K out wr ∧ (∀ r o, (r, o) ∈ wr → r < obl.length) ∧ (∃ fn, P.funcs[f]? = some fn ∧ fn.name ≠ "runtime.NumGoroutine" ∧ fn.body.isSome = true) ∧
    Calls P f vals w fun e w'=>∃v,e=.returned v/\Post E w S φ (fun r=>obl.getD r none) out wr v w')
  (h:G (Gl cx.T av args.toList argTypes.toList++caps)) :∃out wr,K out wr/\(∀r o,(r,o)∈wr->r<obl.length)/\RunOK P o ρ w (Post E w S φ (fun r=>obl.getD r none) out wr):=by
 have hnil :∀t x,RepA S w φ (fun r=>obl.getD r Option.none) (HS cx.T t (av x)) (ρ x)/\Closed (fun r=>obl.getD r Option.none) (HS cx.T t (av x)):=by
  intro t x
  unfold HS
  split
  ·rename_i hn
   split
   ·have hx:=(hav x).1
    rw[OH hn] at hx
    rw[hx.val]
    exact⟨.d _ _ (.nil _),BJ _ _⟩
   exact hav x
  exact hav x
 have hboth:RepA S w φ (fun r=>obl.getD r Option.none) (.fn f caps) (ρ x)/\Closed (fun r=>obl.getD r Option.none) (.fn f caps):=by
  rcases hf with hf | ⟨hf,rfl⟩
  ·rw[<- hf];exact hav x
  have h1:=(hav x).1
  rw[hf] at h1
  rw[h1.val]
  exact⟨.fn f [] #[] (fun _=>undef) rfl (fun i hi=>by simp at hi) (fun i hi=>by simp at hi),fun r hr=>by simp[AV.refs,AV.refs.refsL] at hr⟩
 obtain⟨hx,hcx⟩:=hboth
 generalize hv:ρ x=vx at hx
 cases hx with | fn _ _ vs g hs hgf hr=>
 have hall:All2 (fun a v=>RepA S w φ (fun r=>obl.getD r Option.none) a v/\Closed (fun r=>obl.getD r Option.none) a) (Gl cx.T av args.toList argTypes.toList++caps) (args.map ρ++vs).toList:=by
  rw[Array.toList_append,Array.toList_map]
  have h2 :∀(l:List AV) (k:List Value),l.length=k.length->(∀i (hi:i<l.length) (hi':i<k.length),RepA S w φ (fun r=>obl.getD r Option.none) l[i] k[i]/\Closed (fun r=>obl.getD r Option.none) l[i])->
    All2 (fun a v=>RepA S w φ (fun r=>obl.getD r Option.none) a v/\Closed (fun r=>obl.getD r Option.none) a) l k:=by
   intro l
   induction l with
   | nil=>intro k hk _;cases k with | nil=>exact .nil | cons=>simp at hk
   | cons a l ih=>
    intro k hk hh
    cases k with
    | nil=>simp at hk
    | cons b k=>exact .cons (hh 0 (by simp) (by simp)) (ih k (by simpa using hk) fun i hi hi'=>hh (i+1) (by simpa using hi) (by simpa using hi'))
  have hcaps:=h2 caps vs.toList (by simp[hs]) (fun i hi hi'=>by
   have h1:=hgf i hi
   have:vs.toList[i]=g i:=by
    have:vs.toList[i]?=some (g i):=by simpa using h1
    rw[X15 hi'] at this
    exact X25 this
   rw[this]
   exact⟨hr i hi,fun r hr'=>hcx r (by simpa[AV.refs] using AV.refs_mem caps i hi r hr')⟩)
  have plain :∀l:List Operand,All2 (fun a v=>RepA S w φ (fun r=>obl.getD r Option.none) a v/\Closed (fun r=>obl.getD r Option.none) a) (l.map av++caps) (l.map ρ++vs.toList):=by
   intro l
   induction l with
   | nil=>exact hcaps
   | cons a l ih=>exact .cons ⟨(hav a).1,(hav a).2⟩ ih
  generalize argTypes.toList=ts
  induction args.toList generalizing ts with
  | nil=>exact hcaps
  | cons a l ih=>
   cases ts with
   | nil=>exact plain (a::l)
   | cons t ts=>exact .cons (hnil t a) (ih ts)
 obtain⟨out,wr,g1,g2,⟨fn,g3,g4,g5⟩,g6⟩:=snd _ _ hall h
 refine⟨out,wr,g1,g2,?_⟩
 have hrun:(execOp ρ o).run P w=.ok (.enter f (args.map ρ++vs)) w:=by
  unfold execOp;rw[heq]
  simp[resolve,hv,Deferred.ofValue,invoke,callFunc,g3,g4]
  intro hb
  simp[hb] at g5
 unfold RunOK
 rw[hrun]
 exact g6
theorem Vp {obl:List (Option OB)}{cx:Cx}{o:Oper}{av:Operand->AV}{ρ:Operand->Value}{x:Operand}{args:Array Operand}{argTypes:Array Nat}{f:FuncId}{caps:List AV}{Q:Value->World->Prop}
  (hav :∀x,RepA S w φ (fun r=>obl.getD r none) (av x) (ρ x)/\Closed (fun r=>obl.getD r none) (av x)) (heq:o.op=.call ⟨.value x,args,argTypes⟩) (hf:av x=.fn f caps\/(av x=.d (.val (.func (.func f) #[] #[]))/\caps=[]))
  (snd :∀(vals:Array Value),All2 (fun a v=>RepA S w φ (fun r=>obl.getD r none) a v/\Closed (fun r=>obl.getD r none) a) (Gl cx.T av args.toList argTypes.toList++caps) vals.toList->
   ((∃ fn, P.funcs[f]? = some fn ∧ fn.name ≠ "runtime.NumGoroutine" ∧ fn.body.isSome = true) ∧ Calls P f vals w fun e w' => ∃ v, e = .returned v ∧ Q v w') ∨ ∃ v w', (callFunc f vals).run P w = .ok (.value v) w' ∧ Q v w') : RunOK P o ρ w Q := by
 have hnil :∀t x,RepA S w φ (fun r=>obl.getD r Option.none) (HS cx.T t (av x)) (ρ x)/\Closed (fun r=>obl.getD r Option.none) (HS cx.T t (av x)):=by
  intro t x
  unfold HS
  split
  ·rename_i hn
   split
   ·have hx:=(hav x).1
    rw[OH hn] at hx
    rw[hx.val]
    exact⟨.d _ _ (.nil _),BJ _ _⟩
   exact hav x
  exact hav x
 have hboth:RepA S w φ (fun r=>obl.getD r Option.none) (.fn f caps) (ρ x)/\Closed (fun r=>obl.getD r Option.none) (.fn f caps):=by
  rcases hf with hf | ⟨hf,rfl⟩
  ·rw[<- hf];exact hav x
  have h1:=(hav x).1
  rw[hf] at h1
  rw[h1.val]
  exact⟨.fn f [] #[] (fun _=>undef) rfl (fun i hi=>by simp at hi) (fun i hi=>by simp at hi),fun r hr=>by simp[AV.refs,AV.refs.refsL] at hr⟩
 obtain⟨hx,hcx⟩:=hboth
 generalize hv:ρ x=vx at hx
 cases hx with | fn _ _ vs g hs hgf hr=>
 have hall:All2 (fun a v=>RepA S w φ (fun r=>obl.getD r Option.none) a v/\Closed (fun r=>obl.getD r Option.none) a) (Gl cx.T av args.toList argTypes.toList++caps) (args.map ρ++vs).toList:=by
  rw[Array.toList_append,Array.toList_map]
  have h2 :∀(l:List AV) (k:List Value),l.length=k.length->(∀i (hi:i<l.length) (hi':i<k.length),RepA S w φ (fun r=>obl.getD r Option.none) l[i] k[i]/\Closed (fun r=>obl.getD r Option.none) l[i])->
    All2 (fun a v=>RepA S w φ (fun r=>obl.getD r Option.none) a v/\Closed (fun r=>obl.getD r Option.none) a) l k:=by
   intro l
   induction l with
   | nil=>intro k hk _;cases k with | nil=>exact .nil | cons=>simp at hk
   | cons a l ih=>
    intro k hk hh
    cases k with
    | nil=>simp at hk
    | cons b k=>exact .cons (hh 0 (by simp) (by simp)) (ih k (by simpa using hk) fun i hi hi'=>hh (i+1) (by simpa using hi) (by simpa using hi'))
  have hcaps:=h2 caps vs.toList (by simp[hs]) (fun i hi hi'=>by
   have h1:=hgf i hi
   have:vs.toList[i]=g i:=by
    have:vs.toList[i]?=some (g i):=by simpa using h1
    rw[X15 hi'] at this
    exact X25 this
   rw[this]
   exact⟨hr i hi,fun r hr'=>hcx r (by simpa[AV.refs] using AV.refs_mem caps i hi r hr')⟩)
  have plain :∀l:List Operand,All2 (fun a v=>RepA S w φ (fun r=>obl.getD r Option.none) a v/\Closed (fun r=>obl.getD r Option.none) a) (l.map av++caps) (l.map ρ++vs.toList):=by
   intro l
   induction l with
   | nil=>exact hcaps
   | cons a l ih=>exact .cons ⟨(hav a).1,(hav a).2⟩ ih
  generalize argTypes.toList=ts
  induction args.toList generalizing ts with
  | nil=>exact hcaps
  | cons a l ih=>
   cases ts with
   | nil=>exact plain (a::l)
   | cons t ts=>exact .cons (hnil t a) (ih ts)
 rcases snd _ hall with ⟨⟨fn,g3,g4,g5⟩,g6⟩|⟨v,w',h1,h2⟩
 rotate_left
 ·refine RunOK.value (u:=v) (w':=w') ?_ h2
  unfold execOp;rw[heq]
  simp[resolve,hv,Deferred.ofValue,invoke,h1]
 have hrun:(execOp ρ o).run P w=.ok (.enter f (args.map ρ++vs)) w:=by
  unfold execOp;rw[heq]
  simp[resolve,hv,Deferred.ofValue,invoke,callFunc,g3,g4]
  intro hb
  simp[hb] at g5
 unfold RunOK
 rw[hrun]
 exact g6
theorem Hg {obl:List (Option OB)}(hT:TabOk P T)(m:Mem E w S φ (fun r=>obl.getD r none)){t r n i k:Nat}{a x:AV}{va vx:Value}{K:AV->W->Prop}(har:a=.rref r n i k)
  (ha:RepA S w φ (fun r=>obl.getD r none) a va) (hx:RepA S w φ (fun r=>obl.getD r none) x vx) (h:G7 T t r n i k x obl K) :
  ∃out wr w',K out wr/\(∀r o,(r,o)∈wr->r<obl.length)/\(Instr.storeAt t va vx).run P w=.ok () w'/\Post E w S φ (fun r=>obl.getD r none) out wr undef w':=by
 unfold G7 at h
 rw[AI] at h
 obtain⟨hkn,h⟩:=h
 have hkn:=A7 hkn
 obtain⟨xd,wr,S',hK,m',k',hd',hx',hw'⟩:=Dw m (FrzExt.refl _) hx h
 rw[AI,A1] at hK
 obtain⟨hne,q,hq,hK⟩:=hK
 have hqr:Au (fun r=>obl.getD r none) wr r=some q:=by
  rw[En wr _ r fun q hq e=>by
   simp only[List.all_eq_true] at hne
   have:=hne q hq
   rw[e] at this
   simp[Nat.beq_refl] at this]
  exact hq
 cases q with
 | box=>simp at hK
 | map=>simp at hK
 | amap=>simp at hK
 | gone=>simp at hK
 | row e sz es frz=>
  simp only at hK
  obtain⟨hn,hf,h⟩:=hK
  obtain rfl:=FZ.free_eq hf
  rw[AI] at h
  obtain⟨hsz,y,hy,h⟩:=h
  unfold G8 at h
  rw[Fj,G1] at h
  obtain⟨hle,h⟩:=h
  have hxn:=hd'.norm
  have hlen:=Bj.1 hsz
  rw[har] at ha
  cases ha with | rref _ _ _ _ _ h1 hb hp=>
  obtain⟨_,h2⟩:=h1 _ _ _ _ hq
  obtain⟨hi,b,c,hφ,hv⟩:=h2 hn
  have hi':i<es.length:=by omega
  have hye:y=es[i]:=by rw[<- hy];simp[hi']
  obtain⟨_,g1,_,_⟩:=m'.obj r _ hqr
  have hov:y.cells.take k++xd.norm.cells++y.cells.drop (k+xd.norm.cells.length)=BY es[i].cells k xd.norm.cells:=by rw[hye];rfl
  rw[hov] at h
  have hle':k+xd.norm.cells.length<=sz:=by rw[hye,g1 i hi'] at hle;exact hle
  have fin :∀(z:D),z.cells=BY es[i].cells k xd.norm.cells->K .dead (wr++[(r,.row e sz (es.set i z) .no)])->∃out wr w',K out wr/\(∀r o,(r,o)∈wr->r<obl.length)/\(Instr.storeAt t va vx).run P w=.ok () w'/\Post E w S φ (fun r=>obl.getD r none) out wr undef w':=by
   intro z hz hK
   obtain⟨w',q1,S2,φ2,q2,q3,q4,q5⟩:=Ho (P:=P) m' hφ hqr rfl (fz':=.no) rfl (t:=t) (v:=vx) (by rw[(hT.of hkn).info1,D.norm_cells_length,hlen]) (fun _ _ _ _ h=>nomatch h) hxn hi' hle' hz
   refine⟨_,_,w',hK,fun r' o' hm=>?_,by rw[hv];exact q1,S2,φ2,by rw[AT];exact q2,by rw[AT];exact k'.trans q3,by rw[AT];exact q4,by rw[AT];exact q5⟩
   rcases X23.1 hm with hm | hm
   ·obtain⟨e',sz',es',f',p1,_⟩:=hw' r' o' hm
    exact Bo obl r' _ p1
   simp only[X14,X26] at hm
   rw[hm.1];exact Bo obl _ _ hq
  split at h
  ·obtain⟨_,rfl,h⟩:=h
   exact fin _ rfl h
  split at h
  ·rename_i z hz
   rw[AI] at h
   obtain⟨h0,_,rfl,h⟩:=h
   refine fin z ?_ h
   rw[hz]
   exact D.cells_plain (by simpa using h0)
  exact h.elim
theorem JF {obl:List (Option OB)}(hT:TabOk P T)(m:Mem E w S φ (fun r=>obl.getD r none)){t r n i k q0 m0:Nat}{va vx:Value}{K:AV->W->Prop}
  (ha:RepA S w φ (fun r=>obl.getD r none) (.rref r n i k) va) (hx:RepA S w φ (fun r=>obl.getD r none) (.own q0 m0) vx) (hcx:Closed (fun r=>obl.getD r none) (.own q0 m0)) (h:G6 T t r n i k q0 m0 obl K) :
  ∃out wr w',K out wr/\(∀r o,(r,o)∈wr->r<obl.length)/\(Instr.storeAt t va vx).run P w=.ok () w'/\Post E w S φ (fun r=>obl.getD r none) out wr undef w':=by
 unfold G6 at h
 rw[AI] at h
 obtain⟨hkn,h⟩:=h
 have hkn:=A7 hkn
 obtain⟨xd,wr,S',hK,m',k',hd',hx',hw'⟩:=Dw m (FrzExt.refl _) hx h
 rw[AI,A1] at hK
 obtain⟨hne,q,hq,hK⟩:=hK
 have hqr:Au (fun r=>obl.getD r none) wr r=some q:=by
  rw[En wr _ r fun q hq e=>by
   simp only[List.all_eq_true] at hne
   have:=hne q hq
   rw[e] at this
   simp[Nat.beq_refl] at this]
  exact hq
 cases q with
 | box=>simp at hK
 | map=>simp at hK
 | amap=>simp at hK
 | gone=>simp at hK
 | row e sz es frz=>
  simp only at hK
  obtain⟨hn,hf,h⟩:=hK
  rw[AI] at h
  obtain⟨hsz,y,hy,h⟩:=h
  unfold G8 at h
  rw[Fj,G1] at h
  obtain⟨hle,h⟩:=h
  have hxn:=hd'.norm
  have hlen:=Bj.1 hsz
  cases ha with | rref _ _ _ _ _ h1 hb hp=>
  obtain⟨_,h2⟩:=h1 _ _ _ _ hq
  obtain⟨hi,b,c,hφ,hv⟩:=h2 hn
  have hi':i<es.length:=by omega
  have hye:y=es[i]:=by rw[<- hy];simp[hi']
  obtain⟨_,g1,_,_⟩:=m'.obj r _ hqr
  have hov:y.cells.take k++xd.norm.cells++y.cells.drop (k+xd.norm.cells.length)=BY es[i].cells k xd.norm.cells:=by rw[hye];rfl
  rw[hov] at h
  have hle':k+xd.norm.cells.length<=sz:=by rw[hye,g1 i hi'] at hle;exact hle
  have fin :∀(z:D),z.cells=BY es[i].cells k xd.norm.cells->K .dead (wr++[(r,.row e sz (es.set i z) (.lk i k q0 m0))])->∃out wr w',K out wr/\(∀r o,(r,o)∈wr->r<obl.length)/\(Instr.storeAt t va vx).run P w=.ok () w'/\Post E w S φ (fun r=>obl.getD r none) out wr undef w':=by
   intro z hz hK
   obtain⟨w',q1,S2,φ2,q2,q3,q4,q5⟩:=Ho (P:=P) m' hφ hqr hf (fz':=.lk i k q0 m0) rfl (t:=t) (v:=vx) (by rw[(hT.of hkn).info1,D.norm_cells_length,hlen]) (fun i' j' q' n' hq'=>by
    simp only[FZ.lk.injEq] at hq'
    obtain⟨rfl,rfl,rfl,rfl⟩:=hq'
    refine⟨rfl,rfl,k'.c _ (hcx _ (by simp[AV.refs])),?_,k'.rep hcx hx⟩
    cases hx with | own _ _ _ _ _ _ hv0=>
    rw[hv0];rfl) hxn hi' hle' hz
   refine⟨_,_,w',hK,fun r' o' hm=>?_,by rw[hv];exact q1,S2,φ2,by rw[AT];exact q2,by rw[AT];exact k'.trans q3,by rw[AT];exact q4,by rw[AT];exact q5⟩
   rcases X23.1 hm with hm | hm
   ·obtain⟨e',sz',es',f',p1,_⟩:=hw' r' o' hm
    exact Bo obl r' _ p1
   simp only[X14,X26] at hm
   rw[hm.1];exact Bo obl _ _ hq
  split at h
  ·obtain⟨_,rfl,h⟩:=h
   exact fin _ rfl h
  split at h
  ·rename_i z hz
   rw[AI] at h
   obtain⟨h0,_,rfl,h⟩:=h
   refine fin z ?_ h
   rw[hz]
   exact D.cells_plain (by simpa using h0)
  exact h.elim
theorem GO {obl:List (Option OB)}{cx:Cx}(hT:TabOk P cx.T)(hC:QG E.wl P cx)(m:Mem E w S φ (fun r=>obl.getD r none)){o:Oper}{av:Operand->AV}{ρ:Operand->Value}{K:AV->W->Prop}
  (hav :∀x,RepA S w φ (fun r=>obl.getD r none) (av x) (ρ x)/\Closed (fun r=>obl.getD r none) (av x)) (h:opK cx o av obl K) :
  ∃out wr,K out wr/\(∀r o,(r,o)∈wr->r<obl.length)/\RunOK P o ρ w (Post E w S φ (fun r=>obl.getD r none) out wr):=by
 have none :∀r o,(r,o)∈([]:W)->r<obl.length:=fun _ _ hm=>by simp at hm
 have scalar :∀{s:Sem Value} {K:AV->Prop},GU K (s.run P w) w->(execOp ρ o=(do pure (.value (← s))))->∃out,K out/\RunOK P o ρ w (Post E w S φ (fun r=>obl.getD r Option.none) out []):=by
  rintro s K ⟨u,h1,h2,h3⟩ he
  refine⟨_,h2,RunOK.value (u:=u) (w':=w) ?_ (LD m h1)⟩
  rw[he,Sem.run_bind,h3,Result.andThen_ok]
  rfl
 have pureV :∀{s:Sem Value} {out:AV} {u:Value},s.run P w=.ok u w->RepA S w φ (fun r=>obl.getD r Option.none) out u->Closed (fun r=>obl.getD r Option.none) out->(execOp ρ o=(do pure (.value (← s))))->
   RunOK P o ρ w (Post E w S φ (fun r=>obl.getD r Option.none) out []):=by
  intro s out u h1 h2 h3 he
  refine RunOK.value (u:=u) (w':=w) ?_ (Post.pure m h2 h3)
  rw[he,Sem.run_bind,h1,Result.andThen_ok]
  rfl
 have parts :∀(ps:Array (Nat×Operand)),Jx S w φ (fun r=>obl.getD r Option.none) (ps.toList.map fun (i,x)=>(i,av x)) (ps.map fun (i,x)=>(i,ρ x)).toList:=by
  intro ps
  rw[Array.toList_map]
  induction ps.toList with
  | nil=>exact .nil
  | cons p l ih=>exact .cons ⟨rfl,(hav p.2).1,(hav p.2).2⟩ ih
 have hnil :∀t x,RepA S w φ (fun r=>obl.getD r Option.none) (HS cx.T t (av x)) (ρ x)/\Closed (fun r=>obl.getD r Option.none) (HS cx.T t (av x)):=by
  intro t x
  unfold HS
  split
  ·rename_i hn
   split
   ·have hx:=(hav x).1
    rw[OH hn] at hx
    rw[hx.val]
    exact⟨.d _ _ (.nil _),BJ _ _⟩
   exact hav x
  exact hav x
 have mv :∀x,(execOp ρ o).run P w=.ok (.value (ρ x)) w->(match x with
   | .const v=>VG cx.T o.type (cx.np+o.dst.getD 0) (av (.const v)) obl K
   | x=>(av x).force fun v=>K v [])->∃out wr,K out wr/\(∀r o,(r,o)∈wr->r<obl.length)/\RunOK P o ρ w (Post E w S φ (fun r=>obl.getD r Option.none) out wr):=by
  intro x hm h
  split at h
  ·rename_i cv
   unfold VG at h
   split at h
   ·rename_i hn
    have hrx:=(hav (.const cv)).1
    rw[OH hn] at hrx
    have hvx:=hrx.val
    split at h
    ·rename_i e hk
     split at h
     ·rename_i hs
      rw[AI] at h
      obtain⟨hpos,hK⟩:=h
      obtain⟨hs1,hs2⟩:=C6 hs
      obtain⟨m1,k1⟩:=m.empty (cx.np+o.dst.getD 0) e (cx.T.get e).size hs1 (X29 hpos)
      refine⟨_,_,hK,fun r o hm=>?_,RunOK.value hm ?_⟩
      ·simp only[X14,X26] at hm
       rw[hm.1];exact hs2
      exact Il (zs:=[]) m1 k1 (.inl ⟨upd_same _ _ _,rfl,_,hvx⟩) rfl
     refine⟨_,_,h,none,RunOK.value hm (Post.pure m ?_ (BJ _ _))⟩
     rw[hvx]
     exact .d _ _ (.nil _)
    exact h.elim
   rw[Bn] at h
   exact⟨_,_,h,none,RunOK.value hm (Post.pure m (hav _).1 (hav _).2)⟩
  rw[Bn] at h
  exact⟨_,_,h,none,RunOK.value hm (Post.pure m (hav x).1 (hav x).2)⟩
 obtain⟨dst,op,ty0,pos,after,guard⟩:=o
 cases op
 case move x=>exact mv x rfl h
 case assign x=>exact mv x rfl h
 case pick c a b=>
  simp only[opK] at h
  unfold ZN at h
  split at h
  ·rename_i t hct
   have hc:=(hav c).1
   rw[hct] at hc
   have hcv:=hc.bool
   have hm:(execOp ρ ⟨dst,.pick c a b,ty0,pos,after,guard⟩).run P w=.ok (.value (if t then ρ a else ρ b)) w:=by
    simp[execOp,hcv,asBool]
   split at h
   ·rename_i x y ha hb
    have ha':=(hav a).1;rw[ha] at ha'
    have hb':=(hav b).1;rw[hb] at hb'
    refine⟨_,_,h,none,RunOK.value hm ?_⟩
    rw[ha'.bool,hb'.bool]
    have:(if t=true then Value.bool x else Value.bool y)=.bool (cond t x y):=by cases t<;>rfl
    rw[this]
    exact LD m rfl
   cases t with
   | true=>
    simp only[Bn] at h
    exact⟨_,_,h,none,RunOK.value hm (Post.pure m (by simpa using (hav a).1) (hav a).2)⟩
   | false=>
    simp only[Bn] at h
    exact⟨_,_,h,none,RunOK.value hm (Post.pure m (by simpa using (hav b).1) (hav b).2)⟩
  exact h.elim
 case alloc t=>
  simp only[opK] at h
  rw[AI,E6] at h
  obtain⟨hkn,hs,hK⟩:=h
  obtain⟨hs1,hs2⟩:=C6 hs
  have hti:=hT.of (A7 hkn)
  obtain⟨i,z,hi,_,_,hz,_⟩:=hti.info
  obtain⟨⟨z1,z2⟩,z3⟩:=O4 (S:=S) (w:=w) (φ:=φ) (ob:=fun r=>obl.getD r Option.none) hT (A7 hkn) hi hz
  refine⟨_,_,hK,fun r o hm=>?_,RunOK.value (u:=.pointer (some ⟨w.heap.size,0,Option.none⟩)) (w':=w.alloc (.cells z.cells t)) ?_ (Ss m t hs1 z1 z2 z3)⟩
  ·simp only[X14,X26] at hm
   rw[hm.1];exact hs2
  simp[execOp,Yd hi hz]
 case box t x=>
  simp only[opK] at h
  rw[E6] at h
  obtain⟨hs,h⟩:=h
  rw[Gx] at h
  obtain⟨l,hl,h⟩:=h
  rw[AI] at h
  obtain⟨hs1,hs2⟩:=C6 hs
  obtain⟨r1,r2⟩:=PK (hav x).1 hl
  refine⟨_,_,h.2,fun r o hm=>?_,RunOK.value (u:=.pointer (some ⟨w.heap.size,0,Option.none⟩)) (w':=w.alloc (.cells (ρ x).cells t)) ?_ (Ss m t hs1 r1 r2 (J2 (hav x).2 hl))⟩
  ·simp only[X14,X26] at hm
   rw[hm.1];exact hs2
  simp[execOp,Instr.box,newVar,newRow]
 case build t ps=>
  simp only[opK] at h
  obtain⟨out,u,h1,h2,h3,h4⟩:=UT hT (parts ps) h
  exact⟨out,[],h1,none,pureV h2 h3 h4 rfl⟩
 case buildSlice t len ps=>
  simp only[opK] at h
  obtain⟨out,wr,u,w',h1,h2,h3,h4⟩:=NH hT m (parts ps) h
  refine⟨out,wr,h1,h2,RunOK.value (u:=u) (w':=w') ?_ h4⟩
  simp[execOp,h3]
 case load t x=>
  simp only[opK] at h
  obtain⟨out,u,h1,h2,h3,h4⟩:=Vm hT m (hav x).1 (hav x).2 (hC.1 ▸ h)
  exact⟨out,[],h1,none,pureV h2 h3 h4 rfl⟩
 case store t a x=>
  simp only[opK] at h
  rcases UE h with ⟨r,n,i,k,q,mm,har,hxr,h⟩|⟨r,n,i,k,cs,har,hxr,h⟩|⟨h,_⟩
  rotate_left
  ·have hx:=hnil t x
   rw[hxr] at hx
   obtain⟨out,wr,w',h1,h2,h3,h4⟩:=Hg (P:=P) hT m har (hav a).1 hx.1 h
   refine⟨out,wr,h1,h2,RunOK.skip (w':=w') ?_ h4⟩
   simp[execOp,h3]
  rotate_left
  ·have hx:=hnil t x
   rw[hxr] at hx
   have ha:=(hav a).1
   rw[har] at ha
   obtain⟨out,wr,w',h1,h2,h3,h4⟩:=JF (P:=P) hT m ha hx.1 hx.2 h
   refine⟨out,wr,h1,h2,RunOK.skip (w':=w') ?_ h4⟩
   simp[execOp,h3]
  unfold Rj at h
  rw[AI] at h
  obtain⟨hkn,h⟩:=h
  have hkn:=A7 hkn
  split at h
  ·rename_i r off har
   rw[A1] at h
   obtain⟨q,hq,h⟩:=h
   cases q with
   | row=>simp at h
   | map=>simp at h
   | amap=>simp at h
   | gone=>simp at h
   | box cs=>
    simp only[Gx,AI,G1] at h
    obtain⟨l,hl,hsz,hle,hK⟩:=h
    obtain⟨r1,r2⟩:=PK (hnil t x).1 hl
    have ha:=(hav a).1
    rw[har] at ha
    obtain⟨b,c,hφ,hv⟩:=ha.ref'
    have hcl:=J2 (hnil t x).2 hl
    obtain⟨w',g1,g2⟩:=QC m hφ hq (t:=t) (by rw[(hT.of hkn).info1,Bj.1 hsz]) r1 r2 hcl hle
    refine⟨_,_,hK,fun r' o hm=>?_,RunOK.skip (w':=w') ?_ g2⟩
    ·simp only[X14,X26] at hm
     rw[hm.1];exact Bo obl _ _ hq
    simp[execOp,hv,g1]
  ·rename_i r n i k har
   rw[A1] at h
   obtain⟨q,hq,h⟩:=h
   cases q with
   | box=>simp at h
   | map=>simp at h
   | amap=>simp at h
   | gone=>simp at h
   | row e sz es frz=>
    simp only at h
    obtain⟨hn,hf,h⟩:=h
    obtain rfl:=FZ.free_eq hf
    split at h
    ·rename_i xd hxd
     rw[AI] at h
     obtain⟨hsz,y,hy,h⟩:=h
     unfold G8 at h
     rw[Fj,G1] at h
     obtain⟨hle,h⟩:=h
     have hx:=(hnil t x).1
     rw[hxd] at hx
     cases hx with | d _ _ hx=>
     have hxn:=hx.norm
     have ha:=(hav a).1
     rw[har] at ha
     have hlen:=Bj.1 hsz
     cases ha with | rref _ _ _ _ _ h1 hb hp=>
     obtain⟨_,h2⟩:=h1 _ _ _ _ hq
     obtain⟨hi,b,c,hφ,hv⟩:=h2 hn
     have hi':i<es.length:=by omega
     have hye:y=es[i]:=by rw[<- hy];simp[hi']
     obtain⟨_,g1,_,_⟩:=m.obj r _ hq
     have hov:y.cells.take k++xd.norm.cells++y.cells.drop (k+xd.norm.cells.length)=BY es[i].cells k xd.norm.cells:=by rw[hye];rfl
     rw[hov] at h
     have hle':k+xd.norm.cells.length<=sz:=by rw[hye,g1 i hi'] at hle;exact hle
     have fin :∀(z:D),z.cells=BY es[i].cells k xd.norm.cells->K .dead [(r,.row e sz (es.set i z) .no)]->∃out wr,K out wr/\(∀r o,(r,o)∈wr->r<obl.length)/\RunOK P ⟨dst,.store t a x,ty0,pos,after,guard⟩ ρ w (Post E w S φ (fun r=>obl.getD r Option.none) out wr):=by
      intro z hz hK
      obtain⟨w',q1,q2⟩:=Ho m hφ hq rfl (fz':=.no) rfl (t:=t) (v:=ρ x) (by rw[(hT.of hkn).info1,D.norm_cells_length,hlen]) (fun _ _ _ _ h=>nomatch h) hxn hi' hle' hz
      refine⟨_,_,hK,fun r' o hm=>?_,RunOK.skip (w':=w') ?_ q2⟩
      ·simp only[X14,X26] at hm
       rw[hm.1];exact Bo obl _ _ hq
      simp[execOp,hv,q1]
     split at h
     ·obtain⟨_,rfl,h⟩:=h
      exact fin _ rfl h
     split at h
     ·rename_i z hz
      rw[AI] at h
      obtain⟨h0,_,rfl,h⟩:=h
      refine fin z ?_ h
      rw[hz]
      exact D.cells_plain (by simpa using h0)
     exact h.elim
    exact h.elim
  exact h.elim
 case nilCheck x=>
  simp only[opK] at h
  have hx:=(hav x).1
  have hc:=(hav x).2
  have go :∀(hK:K (av x) []) (hm:(execOp ρ ⟨dst,.nilCheck x,ty0,pos,after,guard⟩).run P w=.ok (.value (ρ x)) w),∃out wr,K out wr/\(∀r o,(r,o)∈wr->r<obl.length)/\RunOK P ⟨dst,.nilCheck x,ty0,pos,after,guard⟩ ρ w (Post E w S φ (fun r=>obl.getD r Option.none) out wr):=
   fun hK hm=>⟨_,_,hK,none,RunOK.value hm (Post.pure m hx hc)⟩
  split at h
  ·rename_i r off har
   refine go (har ▸ h) ?_
   rw[har] at hx
   obtain⟨b,c,_,hv⟩:=hx.ref'
   dsimp only[execOp];rw[hv];rfl
  ·rename_i cs har
   refine go (har ▸ h) ?_
   rw[har] at hx
   generalize hv:ρ x=vx at hx
   cases hx with | eref=>
   dsimp only[execOp];rw[hv];rfl
  ·rename_i r n i k har
   refine go (har ▸ h) ?_
   rw[har] at hx
   generalize hv:ρ x=vx at hx
   cases hx with | rref _ _ _ _ _ _ _ hp=>
   obtain⟨a,hp⟩:=hp
   dsimp only[execOp];rw[hv,hp];rfl
  ·rename_i f caps har
   refine go (har ▸ h) ?_
   rw[har] at hx
   generalize hv:ρ x=vx at hx
   cases hx with | fn=>
   dsimp only[execOp];rw[hv];rfl
  ·rename_i g p q har
   refine go (har ▸ h) ?_
   rw[har] at hx
   have hv:=hx.val
   dsimp only[execOp];rw[hv];rfl
  exact h.elim
 case binOp op t x y ty=>
  simp only[opK] at h
  obtain⟨out,h1,h2⟩:=scalar (WP (ox:=x) (oy:=y) hT (hav x).1 (hav y).1 h) rfl
  exact⟨out,[],h1,none,h2⟩
 case unOp op t x=>
  simp only[opK] at h
  obtain⟨out,h1,h2⟩:=scalar (YG (hav x).1 h) rfl
  exact⟨out,[],h1,none,h2⟩
 case convert src dst x=>
  simp only[opK] at h
  obtain⟨out,h1,h2⟩:=scalar (Vl hT m (hav x).1 h) rfl
  exact⟨out,[],h1,none,h2⟩
 case fieldAddr t x i=>
  simp only[opK] at h
  obtain⟨off,s,ft,fs,h,hkind,hi,hs⟩:=Q2 hT h
  have hx:=(hav x).1
  have hc:=(hav x).2
  split at h
  ·rename_i r o' har
   rw[har] at hx hc
   generalize hv:ρ x=vx at hx
   cases hx with | ref _ _ b c hφ hb=>
   refine⟨_,_,h,none,pureV (LP hkind hi hs b o') (.ref r _ b c hφ hb) (fun r' hr'=>hc r' (by simpa[AV.refs] using hr')) ?_⟩
   dsimp only[execOp];rw[hv]
  ·rename_i cs har
   rw[har] at hx
   simp only[G0,GX] at h
   generalize hv:ρ x=vx at hx
   cases hx with | eref _ b o' f hS hn hr=>
   refine⟨_,_,h,none,pureV (LP hkind hi hs b o') ?_ (fun r' hr'=>by simp[AV.refs] at hr') ?_⟩
   ·refine .eref _ b _ (fun j=>f (off+j)) (fun j hj=>?_) (fun j hj=>?_) fun j hj=>?_
    ·simp only[X18,X17] at hj
     rw[Nat.add_assoc]
     exact hS _ (by omega)
    ·simp only[List.getElem_take,List.getElem_drop]
     exact hn _ _
    simp only[List.getElem_take,List.getElem_drop]
    exact hr _ _
   dsimp only[execOp];rw[hv]
  ·rename_i r n j k har
   rw[har] at hx hc
   generalize hv:ρ x=vx at hx
   cases hx with | rref _ _ _ _ _ h1 hb hp=>
   obtain⟨⟨ab,ao,asp⟩,hp⟩:=hp
   subst hp
   rw[A1] at h
   obtain⟨q,hq,h⟩:=h
   cases q with
   | box cs=>simp at h
   | map=>simp at h
   | amap=>simp at h
   | gone=>simp at h
   | row e sz es frz=>
    simp only at h
    obtain⟨hn,h⟩:=h
    obtain⟨_,h2⟩:=h1 e sz es frz hq
    obtain⟨hj,b,c,hφ,hv2⟩:=h2 hn
    simp only[Value.pointer.injEq,X24,Addr.mk.injEq] at hv2
    obtain⟨rfl,rfl,rfl⟩:=hv2
    refine⟨_,_,h,none,pureV (LP hkind hi hs ab (c.2+(j*sz+k))) (.rref r n j _ _ (fun e2 sz2 es2 f2 hx2=>?_) (fun cs hx2=>by rw[hq] at hx2;simp at hx2) ⟨_,rfl⟩) (fun r' hr'=>hc r' (by simpa[AV.refs] using hr')) ?_⟩
    ·rw[hq] at hx2
     simp only[X24,OB.row.injEq] at hx2
     obtain⟨rfl,rfl,rfl,rfl⟩:=hx2
     exact⟨by omega,fun _=>⟨hj,ab,c,hφ,by rw[Nat.add_assoc,Nat.add_assoc]⟩⟩
    dsimp only[execOp];rw[hv]
  exact h.elim
 case field t x i=>
  simp only[opK] at h
  obtain⟨out,u,h1,h2,h3,h4⟩:=Ua hT (hav x).1 (hav x).2 h
  exact⟨out,[],h1,none,pureV h2 h3 h4 rfl⟩
 case indexAddr t x y=>
  simp only[opK] at h
  obtain⟨out,u,h1,h2,h3,h4⟩:=PD hT (hav x).1 (hav x).2 (hav y).1 h
  exact⟨out,[],h1,none,pureV h2 h3 h4 rfl⟩
 case index t x y=>
  simp only[opK] at h
  obtain⟨out,u,h1,h2,h3,h4⟩:=UA hT (hav x).1 (hav x).2 (hav y).1 h
  exact⟨out,[],h1,none,pureV h2 h3 h4 rfl⟩
 case makeMap t r=>
  cases r with
  | some=>exact h.elim
  | none=>
   simp only[opK] at h
   split at h
   ·rename_i k e hk
    rw[E6] at h
    obtain⟨hself,hK⟩:=h
    obtain⟨hs1,hs2⟩:=C6 hself
    obtain⟨w',h1,h2⟩:=SQ (P:=P) (t:=t) (k:=k) (e:=e) m hs1
    refine⟨_,_,hK,fun r o hm=>?_,RunOK.value (w':=w') ?_ h2⟩
    ·simp only[X14,X26] at hm
     rw[hm.1];exact hs2
    simp[execOp,h1]
   exact h.elim
 case lookup t x y ok=>
  simp only[opK] at h
  obtain⟨out,u,h1,h2,h3,h4⟩:=VH hT m (hav x).1 (hav y).1 (hC.1 ▸ h)
  exact⟨out,[],h1,none,pureV h2 h3 h4 rfl⟩
 case mapUpdate t mm k v=>
  simp only[opK] at h
  obtain⟨out,wr,w',h1,h2,h3,h4⟩:=L6 hT m (hav mm).1 (hav k).1 (hav v).1 (hav v).2 h
  refine⟨out,wr,h1,h2,RunOK.skip (w':=w') ?_ h4⟩
  simp[execOp,h3]
 case insert t mm k v=>
  simp only[opK] at h
  obtain⟨out,wr,w',h1,h2,h3,h4⟩:=L6 hT m (hav mm).1 (hav k).1 (hav v).1 (hav v).2 h
  refine⟨out,wr,h1,h2,RunOK.skip (w':=w') ?_ h4⟩
  simp[execOp,h3]
 case slice t x lo hi mx=>
  cases mx with
  | none=>
   simp only[opK] at h
   have bd :∀(q:Option Operand) (i:Int),(∃k,q.map av=some (.d (.val (.int k i))))->∃k,q.map ρ=some (.int k i):=by
    rintro q i ⟨k,hk⟩
    cases q with
    | none=>simp at hk
    | some y=>
     simp only[Option.map_some,X24] at hk
     have hy:=(hav y).1
     rw[hk] at hy
     exact⟨k,by simp only[Option.map_some,hy.int]⟩
   have bn :∀(q:Option Operand),q.map av=Option.none->q.map ρ=Option.none:=by
    intro q hq
    cases q with
    | none=>rfl
    | some y=>simp at hq
   have hb :∀(o:Option AV) (dflt:Int) (K:Int->Prop),EH o dflt K->∃i,(o=Option.none/\i=dflt \/∃k,o=some (.d (.val (.int k i))))/\K i:=by
    intro o dflt K hk
    unfold EH at hk
    split at hk
    ·exact⟨dflt,.inl ⟨rfl,rfl⟩,hk⟩
    ·exact⟨_,.inr ⟨_,rfl⟩,hk⟩
    exact hk.elim
   have F :∀{e:Nat} {xa:AV},(cx.T.get t).kind=.slice e->RepA S w φ (fun r=>obl.getD r Option.none) xa (ρ x)->On cx.T e xa (lo.map av) (hi.map av) obl K->
     ∃out wr,K out wr/\(∀r o,(r,o)∈wr->r<obl.length)/\RunOK P ⟨dst,.slice t x lo hi Option.none,ty0,pos,after,guard⟩ ρ w (Post E w S φ (fun r=>obl.getD r Option.none) out wr):=by
    intro e xa hk hxa h
    unfold On at h
    rw[AI] at h
    obtain⟨hkn,h⟩:=h
    obtain⟨d,wr,S',hK,m',k',hd,hx',hw'⟩:=Dw m (FrzExt.refl _) hxa h
    obtain⟨es,l,u,rfl,hl,hh,c1,c2,c3,hK⟩:=W9 hK
    obtain⟨a,n,cap,hv⟩ :∃a n cap,ρ x=.slice a n cap:=by
     generalize ρ x=v at hd
     cases hd<;>exact⟨_,_,_,rfl⟩
    rw[hv] at hd
    obtain⟨e1,e2,hr⟩:=hd.part (l:=l.toNat) (h:=u.toNat) (by omega) (by omega)
    obtain⟨ie,z,hie,hi1,_⟩:=(hT.of (A7 hkn)).info
    have hrun:=IS (P:=P) (w:=w) (BB hT hk) hie (a:=a) (len:=n) (cap:=cap) (lo:=lo.map ρ) (hi':=hi.map ρ) (l:=l.toNat) (h:=u.toNat)
     (hl.imp (fun q=>⟨bn _ q.1,by omega⟩) fun q=>by
      obtain⟨k,hk⟩:=bd _ _ q
      exact⟨k,by rw[hk];congr 2;omega⟩)
     (hh.imp (fun q=>⟨bn _ q.1,by omega⟩) fun q=>by
      obtain⟨k,hk⟩:=bd _ _ q
      exact⟨k,by rw[hk];congr 2;omega⟩) (by omega) (by omega) e2
    refine⟨_,wr,hK,fun r o hm=>?_,RunOK.value (u:=.slice (if cap=l.toNat then a else a.map (·.add (l.toNat*ie.size))) (u.toNat-l.toNat) (cap-l.toNat)) (w':=w) ?_ ⟨S',φ,m',k',.d _ _ ?_,BJ _ _⟩⟩
    ·obtain⟨e',sz',es',f',q1,_⟩:=hw' r o hm
     exact Bo obl r _ q1
    ·simp[execOp,hv,hrun]
    rw[hi1]
    exact hr
   unfold Wb at h
   split at h
   ·rename_i e hk
    split at h
    ·rename_i r n hxo
     have hxa:=(hnil t x).1
     have hxc:=(hnil t x).2
     rw[hxo] at hxa hxc
     rcases h with h | h | h
     ·exact F hk hxa h
     ·
      unfold Wn at h
      rw[AI,A1] at h
      obtain⟨hkn,ob,ho,h⟩:=h
      cases ob with
      | box=>simp at h
      | map=>simp at h
      | amap=>simp at h
      | gone=>simp at h
      | row e' sz es frz=>
       simp only[AI] at h
       obtain⟨hsz,h⟩:=h
       have hsz':=Bj.1 hsz
       obtain⟨l,hl,h⟩:=hb _ _ _ h
       obtain⟨u,hh,⟨c1,c2,c3⟩,hn,a,k,ha,hkk,hK⟩:=hb _ _ _ h
       obtain⟨ie,z,hie,hi1,_⟩:=(hT.of (A7 hkn)).info
       obtain⟨g0,g1,g2,g3⟩:=m.obj r _ ho
       generalize hv:ρ x=vx at hxa
       cases hxa with | own _ _ _ kk c a0 hv0 hkn0 h1 hbx=>
       have hown:=(h1 e' sz es frz ho).2 hn
       subst hv0
       have hlc:kk<=c/\kk=es.length:=by
        refine⟨?_,by omega⟩
        rcases hown with ⟨_,p2,a9,p3⟩|⟨b,cap,p1,p2⟩
        ·simp only[Value.slice.injEq] at p3;omega
        simp only[Value.slice.injEq] at p2
        obtain⟨_,p3,p4⟩:=p2
        rcases g3 with ⟨f1,_⟩|⟨b',cap',vs,f,f1,f2,f3,_⟩
        ·rw[f1] at p1;simp at p1
        rw[f1] at p1
        simp only[X24,X26] at p1
        obtain⟨rfl,rfl⟩:=p1
        omega
       have hrun:=IS (P:=P) (w:=w) (BB hT hk) hie (a:=a0) (len:=kk) (cap:=c) (lo:=lo.map ρ) (hi':=hi.map ρ) (l:=l.toNat) (h:=u.toNat)
        (hl.imp (fun q=>⟨bn _ q.1,by omega⟩) fun q=>by
         obtain⟨k,hk⟩:=bd _ _ q
         exact⟨k,by rw[hk];congr 2;omega⟩)
        (hh.imp (fun q=>⟨bn _ q.1,by omega⟩) fun q=>by
         obtain⟨k,hk⟩:=bd _ _ q
         exact⟨k,by rw[hk];congr 2;omega⟩) (by omega) (by omega) (by omega)
       refine⟨_,_,hK,none,RunOK.value (u:=.slice (if c=l.toNat then a0 else a0.map (·.add (l.toNat*ie.size))) (u.toNat-l.toNat) (c-l.toNat)) (w':=w) ?_ (Post.pure m (.osl r a k n _ _ _ _ rfl hkk fun e2 sz2 es2 f2 hx2=>?_) fun r' hr'=>hxc r' (by simpa[AV.refs] using hr'))⟩
       ·simp[execOp,hv,hrun]
       rw[ho] at hx2
       simp only[X24,OB.row.injEq] at hx2
       obtain⟨rfl,rfl,rfl,rfl⟩:=hx2
       refine⟨by omega,fun _=>⟨by omega,?_,fun ha0=>?_⟩⟩
       rotate_left
       ·have hl0:l.toNat=0:=by omega
        rcases hown with ⟨p1,p2,a9,p3⟩|⟨b,cap,p1,p2⟩
        ·simp only[Value.slice.injEq] at p3
         obtain⟨_,_,p4⟩:=p3
         refine .inl ⟨p1,by omega,a0,?_⟩
         rw[hl0,p4]
         simp
         omega
        simp only[Value.slice.injEq] at p2
        obtain⟨rfl,p3,rfl⟩:=p2
        refine .inr ⟨b,cap,p1,?_⟩
        rw[hl0]
        simp only[Nat.sub_zero,Nat.zero_mul,Value.slice.injEq]
        refine⟨?_,by omega,by first | rfl | trivial⟩
        split
        ·rfl
        simp[Addr.add]
       by_cases hk0:k=0
       ·exact .inl hk0
       right
       rcases hown with ⟨_,p2,a9,p3⟩|⟨b,cap,p1,p2⟩
       ·omega
       simp only[Value.slice.injEq] at p2
       obtain⟨rfl,p3,rfl⟩:=p2
       refine⟨b,cap,cap.1-l.toNat,p1,?_,by omega⟩
       rw[if_neg (by omega),hkk]
       simp only[Option.map_some,Addr.add_none,hi1,<- hsz',ha]
     ·
      have br :∀(q:Option Operand),BR S w φ (fun r=>obl.getD r Option.none) (q.map av) (q.map ρ):=by
       intro q
       cases q with
       | none=>exact .inl ⟨rfl,rfl⟩
       | some y=>exact .inr ⟨_,_,rfl,rfl,(hav y).1⟩
      obtain⟨out,wr,u,h1,h2,h3,h4⟩:=OG (P:=P) hT m hk (br lo) (br hi) (mx':=Option.none) (.inl ⟨rfl,rfl⟩) (fun h=>absurd rfl h) hxa h
      refine⟨out,wr,h1,h2,RunOK.value (u:=u) (w':=w) ?_ h4⟩
      simp[execOp,h3]
    ·rename_i szn hxo
     have hxa:=(hnil t x).1
     rw[hxo] at hxa
     rcases h with h | h
     ·exact F hk hxa h
     rw[AI] at h
     obtain⟨hkn,h⟩:=h
     obtain⟨l,hl,h⟩:=hb _ _ _ h
     obtain⟨u,hh,⟨rfl,rfl⟩,hK⟩:=hb _ _ _ h
     obtain⟨ie,z,hie,hi1,_⟩:=(hT.of (A7 hkn)).info
     generalize hv:ρ x=vx at hxa
     cases hxa with | d _ _ hxa=>
     cases hxa with | nil=>
     have hrun:=IS (P:=P) (w:=w) (BB hT hk) hie (a:=Option.none) (len:=0) (cap:=0) (lo:=lo.map ρ) (hi':=hi.map ρ) (l:=0) (h:=0)
      (hl.imp (fun q=>⟨bn _ q.1,rfl⟩) fun q=>by
       obtain⟨k,hk⟩:=bd _ _ q
       exact⟨k,by rw[hk];rfl⟩)
      (hh.imp (fun q=>⟨bn _ q.1,rfl⟩) fun q=>by
       obtain⟨k,hk⟩:=bd _ _ q
       exact⟨k,by rw[hk];rfl⟩) (Nat.le_refl _) (Nat.le_refl _) (Nat.le_refl _)
     refine⟨_,_,hK,none,RunOK.value (u:=.slice Option.none 0 0) (w':=w) ?_ (Post.pure m (.d _ _ (.nil _)) (BJ _ _))⟩
     first | (simp at hrun;simp[execOp,hv,hrun])|simp[execOp,hv,hrun]
    exact F hk (hnil t x).1 h
   ·rename_i hk
    split at h
    ·rename_i s hxs
     have hb :∀(o:Option AV) (dflt:Int) (K:Int->Prop),EH o dflt K->∃i,(o=Option.none/\i=dflt \/∃k,o=some (.d (.val (.int k i))))/\K i:=by
      intro o dflt K hk
      unfold EH at hk
      split at hk
      ·exact⟨dflt,.inl ⟨rfl,rfl⟩,hk⟩
      ·exact⟨_,.inr ⟨_,rfl⟩,hk⟩
      exact hk.elim
     obtain⟨l,hl,h⟩:=hb _ _ _ h
     obtain⟨u,hh,⟨c1,c2,c3⟩,hK⟩:=hb _ _ _ h
     have hx:=(hnil t x).1
     rw[hxs] at hx
     have hv:=hx.str
     have hti:=(hT.of (t:=t) (by rw[hk];simp[TK.cls])).kind
     rw[hk] at hti
     have hrun:=SR (P:=P) (w:=w) (t:=t) hti (s:=s) (lo:=lo.map ρ) (hi':=hi.map ρ) (l:=l.toNat) (h:=u.toNat)
      (hl.imp (fun q=>⟨bn _ q.1,by omega⟩) fun q=>by
       obtain⟨k,hk⟩:=bd _ _ q
       exact⟨k,by rw[hk];congr 2;omega⟩)
      (hh.imp (fun q=>⟨bn _ q.1,by omega⟩) fun q=>by
       obtain⟨k,hk⟩:=bd _ _ q
       exact⟨k,by rw[hk];congr 2;omega⟩) (by omega) (by omega)
     refine⟨_,_,hK,none,RunOK.value (u:=.string (s.extract l.toNat u.toNat)) (w':=w) ?_ (LD m rfl)⟩
     simp[execOp,hv,hrun]
    exact h.elim
   exact h.elim
  | some mx=>
   simp only[opK] at h
   have br :∀(q:Option Operand),BR S w φ (fun r=>obl.getD r Option.none) (q.map av) (q.map ρ):=by
    intro q
    cases q with
    | none=>exact .inl ⟨rfl,rfl⟩
    | some y=>exact .inr ⟨_,_,rfl,rfl,(hav y).1⟩
   unfold Uf at h
   split at h
   ·rename_i e hk
    split at h
    ·rename_i r n hxo
     have hxa:=(hav x).1
     rw[hxo] at hxa
     split at h
     ·rename_i hiv hhi
      have bh:=br hi
      rw[hhi] at bh
      have hne:hi.map ρ≠Option.none:=by
       cases hi with
       | none=>simp at hhi
       | some y=>simp
      obtain⟨out,wr,u,h1,h2,h3,h4⟩:=OG (P:=P) hT m hk (br lo) bh (mx':=some (ρ mx)) (.inr ⟨_,_,rfl,rfl,(hav mx).1⟩) (fun _=>hne) hxa h
      refine⟨out,wr,h1,h2,RunOK.value (u:=u) (w':=w) ?_ h4⟩
      simp[execOp,h3]
     exact h.elim
    exact h.elim
   exact h.elim
 case makeSlice t n c=>
  simp only[opK] at h
  obtain⟨out,wr,u,w',h1,h2,h3,h4⟩:=V2 hT m (hav n).1 (hav c).1 h
  refine⟨out,wr,h1,h2,RunOK.value (u:=u) (w':=w') ?_ h4⟩
  simp[execOp,h3]
 case extract x i=>
  simp only[opK] at h
  have hx:=(hav x).1
  have hc:=(hav x).2
  split at h
  ·rename_i vs har
   rw[har] at hx hc
   split at h
   ·rename_i a hg
    rw[Bn] at h
    generalize hv:ρ x=vx at hx
    cases hx with | tup _ us f hs hf hr=>
    obtain⟨p1,p2⟩:=X16.1 hg
    refine⟨_,_,h,none,pureV (s:=Instr.extract (ρ x) i) (u:=f i) ?_ (p2 ▸ hr i p1) (fun r hr'=>hc r (by rw[<- p2] at hr';simpa[AV.refs] using AV.refs_mem vs i p1 r hr')) rfl⟩
    rw[hv]
    simp[Instr.extract,hf i p1]
   exact h.elim
  exact h.elim
 case makeFunc fn first caps=>
  cases fn with
  | func f=>
   simp only[opK] at h
   split at h
   ·rename_i hfirst
    have hf0:first=#[]:=Array.toList_eq_nil_iff.1 hfirst
    subst hf0
    refine⟨_,_,h,none,pureV (s:=Instr.makeFunc (.func f) #[] (caps.map ρ)) (u:=.func (.func f) #[] (caps.map ρ)) rfl ?_ (fun r hr'=>?_) (by simp[execOp])⟩
    ·refine .fn f _ _ (fun i=>ρ (caps.toList.getD i (.const undef))) (by simp) (fun i hi=>?_) fun i hi=>?_
     ·have hi':i<caps.size:=by simpa using hi
      simp[hi']
     have hi':i<caps.size:=by simpa using hi
     simp only[List.getElem_map]
     have:caps.toList.getD i (.const undef)=caps.toList[i]'(by simpa using hi'):=by simp[hi']
     rw[this]
     exact (hav _).1
    obtain⟨c,hc1,hc2⟩:=AV.refs_mem' _ r (by simpa[AV.refs] using hr')
    obtain⟨x,_,rfl⟩:=List.mem_map.1 hc1
    exact (hav x).2 r hc2
   exact h.elim
  | _=>exact h.elim
 case call c=>
  simp only[opK] at h
  obtain⟨callee,args,argTypes⟩:=c
  simp only at h
  split at h
  ·
   rename_i x
   obtain⟨f,caps,h,hf⟩:=UG h
   exact Q4 (E:=E) hav rfl hf (fun asz vals h1 h2=>U7 hC.2.1 m h1 h2) h
  ·
   split at h
   ·rename_i x t hargs htys
    have ha:args=#[x]:=by rw[<- Array.toArray_toList (xs:=args),hargs]
    have ht:argTypes=#[t]:=by rw[<- Array.toArray_toList (xs:=argTypes),htys]
    subst ha ht
    obtain⟨out,h1,h2⟩:=scalar (Wm (ty:=ty0) hT (hnil t x).1 h) (by simp[execOp,resolve,invoke,builtin])
    exact⟨out,[],h1,none,h2⟩
   exact h.elim
  ·
   split at h
   ·rename_i x y t u hargs htys
    have ha:args=#[x,y]:=by rw[<- Array.toArray_toList (xs:=args),hargs]
    have ht:argTypes=#[t,u]:=by rw[<- Array.toArray_toList (xs:=argTypes),htys]
    subst ha ht
    split at h
    rotate_left
    ·obtain⟨out,wr,v,w',h1,h2,h3,h4⟩:=Vz (ty:=ty0) hT m (hnil _ x).1 (hav y).1 h
     refine⟨out,wr,h1,h2,RunOK.value (u:=v) (w':=w') ?_ h4⟩
     simp[execOp,resolve,invoke,builtin,h3]
    rename_i htu
    have:=Bj.1 htu
    subst this
    obtain⟨out,wr,v,w',h1,h2,h3,h4⟩:=SJ (ty:=ty0) hT m (hnil _ x).1 (hnil _ y).1 h
    refine⟨out,wr,h1,h2,RunOK.value (u:=v) (w':=w') ?_ h4⟩
    simp[execOp,resolve,invoke,builtin,h3]
   exact h.elim
  ·
   split at h
   ·rename_i x t hargs htys
    have ha:args=#[x]:=by rw[<- Array.toArray_toList (xs:=args),hargs]
    have ht:argTypes=#[t]:=by rw[<- Array.toArray_toList (xs:=argTypes),htys]
    subst ha ht
    obtain⟨out,h1,h2⟩:=scalar (We (ty:=ty0) hT (hnil t x).1 h) (by simp[execOp,resolve,invoke,builtin])
    exact⟨out,[],h1,none,h2⟩
   exact h.elim
  ·
   split at h
   ·rename_i x t hargs htys
    have ha:args=#[x]:=by rw[<- Array.toArray_toList (xs:=args),hargs]
    have ht:argTypes=#[t]:=by rw[<- Array.toArray_toList (xs:=argTypes),htys]
    subst ha ht
    split at h
    ·rename_i r a n mm hxo
     have hxa:=(hav x).1
     rw[hxo] at hxa
     obtain⟨out,wr,w',h1,h2,h3,h4⟩:=UX (ty:=ty0) hT m hxa h
     refine⟨out,wr,h1,h2,RunOK.value (u:=.tuple #[]) (w':=w') ?_ h4⟩
     simp[execOp,resolve,invoke,builtin,h3]
    exact h.elim
   exact h.elim
  ·
   split at h
   ·rename_i x y t u hargs htys
    have ha:args=#[x,y]:=by rw[<- Array.toArray_toList (xs:=args),hargs]
    have ht:argTypes=#[t,u]:=by rw[<- Array.toArray_toList (xs:=argTypes),htys]
    subst ha ht
    obtain⟨out,wr,v,w',h1,h2,h3,h4⟩:=Vg (u:=u) (ty:=ty0) hT m (hav x).1 (hav y).1 h
    refine⟨out,wr,h1,h2,RunOK.value (u:=v) (w':=w') ?_ h4⟩
    simp[execOp,resolve,invoke,builtin,h3]
   exact h.elim
  ·
   split at h
   ·rename_i x y hargs
    have ha:args=#[x,y]:=by rw[<- Array.toArray_toList (xs:=args),hargs]
    subst ha
    obtain⟨out,h1,h2⟩:=scalar (WG (hav x).1 (hav y).1 h argTypes ty0) (by simp[execOp,resolve,invoke,builtin])
    exact⟨out,[],h1,none,h2⟩
   exact h.elim
  ·
   split at h
   ·rename_i x y hargs
    have ha:args=#[x,y]:=by rw[<- Array.toArray_toList (xs:=args),hargs]
    subst ha
    obtain⟨out,h1,h2⟩:=scalar (Wy (hav x).1 (hav y).1 h argTypes ty0) (by simp[execOp,resolve,invoke,builtin])
    exact⟨out,[],h1,none,h2⟩
   exact h.elim
  exact h.elim
 all_goals exact h.elim
theorem SI {obl:List (Option OB)}(hT:TabOk P T)(m:Mem E w S φ (fun r=>obl.getD r none)){st ty self r n:Nat}{cs:List AV}{y:AV}{vx vy:Value}{K:AV->W->Prop}
  (hx:RepA S w φ (fun r=>obl.getD r none) (.own r n) vx) (ho:obl.getD r none=some (.box cs)) (hy:RepA S w φ (fun r=>obl.getD r none) y vy) (h:UK T st self cs y obl K) :
  ∃out wr u w',K out wr/\(∀r o,(r,o)∈wr->r<obl.length)/\(Builtin.append_ #[st,st] ty #[vx,vy]).run P w=.ok u w'/\Post E w S φ (fun r=>obl.getD r none) out wr u w':=by
 unfold UK at h
 split at h
 ·rename_i e hk
  rw[E6,AI] at h
  simp only[X27] at h
  obtain⟨hself,⟨⟨⟨c1,c2⟩,c3⟩,c4⟩,h⟩:=h
  obtain⟨sz,ys,h,hsv⟩:=Jr m hy h
  rw[AI] at h
  simp only[X27] at h
  obtain⟨⟨c5,c6⟩,hb,h⟩:=h
  have hcl:=XL c1
  have hsz:(T.get e).size=cs.length:=Bj.1 c2
  have hpos:0<(T.get e).size:=X29 c3
  have hby:(T.get e).bytes<=65536:=X29 c4
  have hsz2:sz=(T.get e).size:=Bj.1 c5
  subst hsz2
  have hys:ys≠[]:=by simpa using c6
  have hypos:0<ys.length:=List.length_pos_iff.2 hys
  obtain⟨hs1,hs2⟩:=C6 hself
  have hte:=hT.of (t:=e) (by rw[hcl];simp)
  obtain⟨i,z,hi,hi1,hi2,hz,hz1,hz2,_⟩:=hte.info
  obtain⟨b,c,vs,e0,f,f1,f2,f3,f4,f5,f6⟩:=m.obj r _ ho
  cases hx with | own _ _ _ kk c0 a0 hv hkn h1 hbx=>
  obtain⟨rfl,b',c',a1,hv2⟩:=hbx cs ho
  rw[f1] at a1
  simp only[X24,X26] at a1
  obtain⟨rfl,rfl⟩:=a1
  rw[hv2]
  have hagg:RepA S w φ (fun r=>obl.getD r none) (.agg cs) (.agg vs):=.agg cs vs f f3 f5 (fun i hi=>(f6 i hi).1) fun i hi=>(f6 i hi).2
  obtain⟨d,wr,S1,hK,m1,k1,hd,hx1,hw1⟩:=Dw m (FrzExt.refl _) hagg h
  rw[AI] at hK
  obtain⟨hw,hK⟩:=hK
  obtain⟨hdc,hdr⟩:=hd.cells
  have hdl:d.cells.length=(T.get e).size:=by rw[<- hdc];simp only[Value.cells];omega
  rcases hsv.v with ⟨_,hy0⟩|⟨b2,o2,cap,g,rfl,hc,hr⟩
  ·exact absurd hy0 hys
  have hmul:(1+ys.length)*i.bytes<=1000001*65536:=Nat.mul_le_mul (by omega) (by omega)
  have hmax:grownCap w (1+ys.length) 1 e<=maxLen:=grownCap_le_maxLen w _ 1 e (by simp only[maxLen];omega)
  have hge:=grownCap_ge w (1+ys.length) 1 e
  have hrun:=run_append_grow (P:=P) w st ty e i z (BB hT hk) hi hz ⟨b,0,none⟩ 1 1 vs.toList (by simp;omega)
   (fun j v hj=>by
    rw[Addr.add_none,Nat.zero_add]
    have:cellAt w b j=some v:=by rw[Bd f2];simpa using hj
    exact this) ⟨b2,o2,none⟩ ys.length cap (flat ys.length (T.get e).size g) (by rw[flat_length,hi1])
   (Lh (g:=fun k=>w.cell? ((⟨b2,o2,none⟩:Addr).add k)) fun i j hi hj=>by rw[Addr.add_none];have:=hc i j hi hj;rw[Nat.add_assoc] at this;exact this)
   (by omega) (by omega) (growslice_fits (by omega) (by omega))
  obtain⟨md,kd⟩:=m1.drew
  generalize hcells:(vs.toList.toArray++(flat ys.length (T.get e).size g).toArray++Builtin.zeroCells z.cells (grownCap w (1+ys.length) 1 e-(1+ys.length)))=cells at hrun
  have hlen:cells.size=grownCap w (1+ys.length) 1 e*(T.get e).size:=by
   rw[<- hcells]
   simp only[Array.size_append,List.size_toArray,size_zeroCells,hz1,flat_length,Array.length_toList,f3,<- hsz]
   rw[show (T.get e).size+ys.length*(T.get e).size=(1+ys.length)*(T.get e).size by rw[X32,Nat.one_mul],<- X32]
   congr 1
   omega
  have hcell0 :∀j,j<(T.get e).size->cells[j]?=some (f j):=by
   intro j hj
   rw[<- hcells,Array.getElem?_append_left (by simp;omega),Array.getElem?_append_left (by simp;omega)]
   simpa using f5 j (by omega)
  have hcell1 :∀i j,i<ys.length->j<(T.get e).size->cells[(i+1)*(T.get e).size+j]?=some (g i j):=by
   intro i j hi hj
   have:(i+1)*(T.get e).size<=ys.length*(T.get e).size:=X31 _ hi
   rw[X32] at this ⊢
   rw[<- hcells,Array.getElem?_append_left (by simp[flat_length];omega),Array.getElem?_append_right (by simp;omega)]
   have e2:i*(T.get e).size+1*(T.get e).size+j-vs.toList.toArray.size=i*(T.get e).size+j:=by simp;omega
   rw[e2]
   simpa using flat_get g hi hj
  obtain⟨m2,k2⟩:=md.alloc self (grownCap w (1+ys.length) 1 e,0) (.row e (T.get e).size (d::ys) .no) cells e (hx1.none hs1) (fun r hr=>by simp[OB.refs] at hr) (fun hk2=>by
   refine⟨hpos,fun i hi=>?_,fun i hi j hj=>?_,.inr ⟨w.heap.size,(grownCap w (1+ys.length) 1 e,0),cells,fun i j=>match i with
    | 0=>f j
    | i+1=>g i j,upd_same _ _ _,heap_alloc_new w.drew _,by simp;omega,hmax,Nat.le_of_eq ((Nat.zero_add _).trans hlen.symm),fun i j hi hj=>?_,fun i hi j hj=>?_,fun o _ ho=>absurd (m1.bS _ _ ho) (Nat.lt_irrefl _),fun _ _ _ _ h=>nomatch h⟩⟩
   ·cases i with
    | zero=>exact hdl
    | succ i=>exact hsv.hsz i (by simpa using hi)
   ·cases i with
    | zero=>
     obtain⟨u,_,q2,_⟩:=hdr j hj
     exact q2
    | succ i=>exact hsv.na i (by simpa using hi) j hj
   ·cases i with
    | zero=>simpa using hcell0 j hj
    | succ i=>simpa only[Nat.zero_add] using hcell1 i j (by simpa using hi) hj
   cases i with
   | zero=>
    obtain⟨u,q1,_,q3⟩:=hdr j hj
    have hj':j<cs.length:=by
     have:j<d.cells.length:=hj
     omega
    have hq:=f5 j hj'
    simp only[Value.cells] at q1
    rw[hq] at q1
    simp only[X24] at q1
    subst q1
    exact (q3.mono kd.k).mono hk2.k
   | succ i=>exact ((hr i (by simpa using hi) j hj).mono k1.k |>.mono kd.k).mono hk2.k)
  refine⟨_,_,_,_,hK,fun r' o' hm=>?_,hrun,S1,_,by rw[AT];exact m2,by rw[AT];exact (k1.trans kd).trans k2,?_,?_⟩
  ·rcases X23.1 hm with hm | hm
   ·obtain⟨e',sz',es',f',e1,_⟩:=hw1 r' o' hm
    exact Bo obl r' _ e1
   simp only[X14,X26] at hm
   rw[hm.1];exact hs2
  ·refine .own self _ _ (1+ys.length) _ (some ⟨w.heap.size,0,none⟩) rfl (Nat.add_comm _ _) (fun e2 sz2 es2 f2 hx2=>?_) (fun cs hx2=>?_)
   ·rw[AT] at hx2
    simp only[Au,upd_same,X24,OB.row.injEq] at hx2
    obtain⟨rfl,rfl,rfl,rfl⟩:=hx2
    exact⟨by simp,fun _=>.inr ⟨_,_,upd_same _ _ _,by rw[Nat.add_comm];rfl⟩⟩
   rw[AT] at hx2
   simp[Au] at hx2
  intro r' hr'
  simp only[AV.refs,X14] at hr'
  subst hr'
  rw[AT]
  simp[Au]
 exact h.elim
theorem run_equalIn_slice_nil (w:World)(d t e:Nat)(a0:Option Addr)(n c:Nat)(h:P.underlying t=some (.slice e)):(Op.equalIn (d+1) t (.slice a0 n c) (.slice none 0 0)).run P w=.ok a0.isNone w:=by
 have hun:(underlying t).run P w=.ok (.slice e) w:=run_underlying h w
 unfold Op.equalIn
 rw[Sem.run_bind,hun,Result.andThen_ok]
 cases a0<;>rfl
theorem YR (w:World)(ty e:Nat)(ox oy:Operand)(a0:Option Addr)(n c:Nat)(h:P.underlying ty=some (.slice e)) :
  ((do eqGuard .eql ty ox oy (.slice a0 n c) (.slice none 0 0);binOp .eql ty (.slice a0 n c) (.slice none 0 0):Sem Value)).run P w=.ok (.bool a0.isNone) w:=by
 have h1:(eqGuard .eql ty ox oy (.slice a0 n c) (.slice none 0 0)).run P w=.ok () w:=rfl
 have h2:binOp .eql ty (.slice a0 n c) (.slice none 0 0)=(do pure (Value.bool (← Op.equal ty (.slice a0 n c) (.slice none 0 0)))):=rfl
 have h3:=run_equalIn_slice_nil (P:=P) w 9999 ty e a0 n c h
 have h4:(Op.equal ty (.slice a0 n c) (.slice none 0 0)).run P w=.ok a0.isNone w:=h3
 rw[Sem.run_bind,h1,Result.andThen_ok,h2,Sem.run_bind,h4,Result.andThen_ok]
 rfl
theorem Ya {obl:List (Option OB)}{cx:Cx}(hT:TabOk P cx.T)(hC:QG E.wl P cx)(m:Mem E w S φ (fun r=>obl.getD r none)){o:Oper}{av:Operand->AV}{ρ:Operand->Value}{K:AV->W->Prop}
  (hav :∀x,RepA S w φ (fun r=>obl.getD r none) (av x) (ρ x)/\Closed (fun r=>obl.getD r none) (av x)) (h:opX cx o av obl K) :
  ∃out wr,K out wr/\(∀r o,(r,o)∈wr->r<obl.length)/\RunOK P o ρ w (Post E w S φ (fun r=>obl.getD r none) out wr):=by
 unfold opX at h
 split at h
 ·rename_i op ty x y yt heq
  split at h
  ·rename_i sz es hax hay
   split at h
   ·rename_i e hk
    have hx:=(hav x).1
    have hy:=(hav y).1
    rw[hax] at hx
    rw[hay] at hy
    have hvy:=hy.val
    obtain⟨a0,n,c,hvx,hn⟩ :∃a0 n c,ρ x=.slice a0 n c/\(a0=none->es.length=0):=by
     cases hx with | d _ _ hx=>
     generalize ρ x=vx at hx
     cases hx with
     | lst0 _ a cap=>exact⟨a,0,cap,rfl,fun _=>rfl⟩
     | lst _ _ b o cap=>exact⟨_,_,_,rfl,fun h=>by simp at h⟩
    have hu:P.underlying ty=some (.slice e):=by
     have:=(hT.of (t:=ty) (by rw[hk];simp[TK.cls])).kind
     rwa [hk] at this
    have hrun:(execOp ρ o).run P w=.ok (.value (.bool a0.isNone)) w:=by
     have h1:=YR (P:=P) w ty e x y a0 n c hu
     have he:execOp ρ o=(do let v ← (do eqGuard .eql ty x y (ρ x) (ρ y);binOp .eql ty (ρ x) (ρ y):Sem Value);pure (.value v)):=by unfold execOp;rw[heq]
     rw[he,hvx,hvy,Sem.run_bind,h1,Result.andThen_ok]
     rfl
    have hout:K (.b a0.isNone) []:=by
     cases a0 with
     | none=>exact h.2 (hn rfl)
     | some a=>exact h.1
    exact⟨_,[],hout,fun _ _ hm=>by simp at hm,RunOK.value (u:=.bool a0.isNone) (w':=w) hrun ⟨S,φ,m,.refl _ _ _ _,.d _ _ (.val _ rfl),BJ _ _⟩⟩
   exact h.elim
  exact GO hT hC m hav h
 ·rename_i ty a x heq
  split at h
  ·rename_i r n i k r' n' har hax
   rcases h with h | h
   ·obtain⟨out,wr,w',h1,h2,h3,h4⟩:=Hg (P:=P) hT m har (hav a).1 (hax ▸ (hav x).1) h
    exact⟨out,wr,h1,h2,RunOK.skip (w':=w') (by unfold execOp;rw[heq];simp[h3]) h4⟩
   obtain⟨out,wr,w',h1,h2,h3,h4⟩:=JF (P:=P) hT m (har ▸ (hav a).1) (hax ▸ (hav x).1) (hax ▸ (hav x).2) h
   exact⟨out,wr,h1,h2,RunOK.skip (w':=w') (by unfold execOp;rw[heq];simp[h3]) h4⟩
  ·rename_i r n i k cs har hax
   obtain⟨out,wr,w',h1,h2,h3,h4⟩:=Hg (P:=P) hT m har (hav a).1 (hax ▸ (hav x).1) h
   exact⟨out,wr,h1,h2,RunOK.skip (w':=w') (by unfold execOp;rw[heq];simp[h3]) h4⟩
  exact GO hT hC m hav h
 ·rename_i c heq
  split at h
  ·rename_i hca
   split at h
   ·rename_i x y t u hargs htys
    split at h
    ·rename_i r n hx
     split at h
     ·rename_i cs ho
      obtain⟨callee,args,argTypes⟩:=c
      simp only at hca hargs htys
      subst hca
      have ha:args=#[x,y]:=by rw[<- Array.toArray_toList (xs:=args),hargs]
      have ht:argTypes=#[t,u]:=by rw[<- Array.toArray_toList (xs:=argTypes),htys]
      subst ha ht
      rw[AI] at h
      obtain⟨htu,h⟩:=h
      have:=Bj.1 htu
      subst this
      obtain⟨out,wr,v,w',h1,h2,h3,h4⟩:=SI (ty:=o.type) hT m (hx ▸ (hav x).1) ho (hav y).1 h
      refine⟨out,wr,h1,h2,RunOK.value (u:=v) (w':=w') ?_ h4⟩
      unfold execOp;rw[heq]
      simp[resolve,invoke,builtin,h3]
     exact GO hT hC m hav h
    exact GO hT hC m hav h
   exact GO hT hC m hav h
  ·rename_i x hca
   obtain⟨f,caps,h,hf⟩:=UG h
   obtain⟨callee,args,argTypes⟩:=c
   simp only at hca
   subst hca
   exact Q4 (E:=E) hav heq hf (fun asz vals h1 h2=>WA hC.2.1 m h1 h2) h
  exact GO hT hC m hav h
 exact GO hT hC m hav h
end
end Go.AX
end
