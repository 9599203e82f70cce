/-
  Texts of one proof, packed: AxT AxV AxW AxU N18A N18B N18C AxX N18D N18E N18F N18G N18H N18I N18J N18K L33O N18V N35M L33S L33T L33U L33V L33W L33X L33Y.
-/
import Derived.Test.YtdljbnbckcecdaaGreatDoorK2
import Derived.KernelRfl
import Derived.MapKept
set_option linter.all false
open List renaming length_map→X10,length_append→X11,length_cons→X12,length_nil→X13,mem_singleton→X14,getElem?_eq_getElem→X15,getElem?_eq_some_iff→X16,length_drop→X17,length_take→X18,mem_cons_of_mem→X19,length_replicate→X20,length_set→X21,length_singleton→X22,mem_append→X23
open Option.some renaming injEq→X24,inj→X25
open Prod.mk renaming injEq→X26
open Bool renaming and_eq_true→X27,eq_iff_iff→X28
open Nat renaming le_of_ble_eq_true→X29,eq_of_beq_eq_true→X30,mul_le_mul_right→X31,add_mul→X32
section
namespace Go.AX
class Tt {ρ:Type} (m:Option ρ):Prop where
 h :∃r,m=some r
def Ok {ρ:Type} (m:Option ρ) (Q:ρ->Prop):Prop:=∃r,m=some r/\Q r
theorem Ok.ret {ρ:Type} {Q:ρ->Prop} {r:ρ} (h:Q r):Ok (some r) Q:=⟨r,rfl,h⟩
theorem Ok.of {ρ:Type} {m:Option ρ} [t:Tt m]:Ok m fun r=>m=some r:=by
 obtain⟨r,h⟩:=t.h
 exact⟨r,h,h⟩
theorem Ok.imp {ρ:Type} {m:Option ρ} {P Q:ρ->Prop} (h:Ok m P) (k :∀r,P r->Q r):Ok m Q:=by
 obtain⟨r,h1,h2⟩:=h
 exact⟨r,h1,k r h2⟩
theorem Ok.tt {ρ:Type} {m:Option ρ} {Q:ρ->Prop} (h:Ok m Q):Tt m:=by
 obtain⟨r,h1,_⟩:=h
 exact⟨r,h1⟩
theorem Ok.bind {α ρ:Type} {m:Option α} {f:α->Option ρ} {P:α->Prop} {Q:ρ->Prop} (h:Ok m P) (k :∀a,P a->Ok (f a) Q):Ok (Option.bind m f) Q:=by
 obtain⟨a,h1,h2⟩:=h
 rw[h1]
 exact k a h2
theorem Ok.join {τ ρ:Type} {m:(τ->Option ρ)->Option ρ} {k:τ->Option ρ} {Q:ρ->Prop} (J:τ->Prop) (h1 :∀k',(∀v,J v->Ok (k' v) Q)->Ok (m k') Q) (h2 :∀v,J v->Ok (k v) Q):Ok (AI m k) Q:=h1 k h2
theorem Ok.forX {α σ ρ:Type} {done:σ->Option ρ} {body:(σ->Option ρ)->α->Nat->σ->Option ρ} {Q:ρ->Prop} {l:List α} {s0:σ} (I:Nat->σ->Prop) (h0:I 0 s0) (hd :∀s,I l.length s->Ok (done s) Q)
  (hs :∀(next:σ->Option ρ) x i s,l[i]?=some x->I i s->(∀s',I (i + 1) s'->Ok (next s') Q)->Ok (body next x i s) Q):Ok (An done body l 0 s0) Q:=by
 have key :∀(t:List α) (i:Nat) (s:σ),(∃p,l=p++t/\p.length=i)->I i s->Ok (An done body t i s) Q:=by
  intro t
  induction t with
  | nil=>intro i s ⟨p,hp,hl⟩ hi;exact hd s (by rw[hp];simpa[hl] using hi)
  | cons x t ih=>
   intro i s ⟨p,hp,hl⟩ hi
   exact hs _ x i s (by rw[hp,<- hl];simp) hi fun s' h'=>ih (i + 1) s' ⟨p++[x],by simp[hp],by simp[hl]⟩ h'
 exact key l 0 s0 ⟨[],rfl,rfl⟩ h0
theorem Ok.forI {α σ ρ:Type} {done:σ->Option ρ} {body:(σ->Option ρ)->α->Nat->σ->Option ρ} {Q:ρ->Prop} {l:List α} {s0:σ} (I:Nat->σ->Prop) (h0:I 0 s0) (hd :∀s,I l.length s->Ok (done s) Q)
  (hs :∀(next:σ->Option ρ) x i s,i<l.length->x ∈ l->I i s->(∀s',I (i + 1) s'->Ok (next s') Q)->Ok (body next x i s) Q):Ok (An done body l 0 s0) Q:=
 .forX I h0 hd fun n x i s hx=>hs n x i s (X16.1 hx).1 (List.mem_of_getElem? hx)
theorem Ok.for_ {α σ ρ:Type} {done:σ->Option ρ} {body:(σ->Option ρ)->α->Nat->σ->Option ρ} {Q:ρ->Prop} {l:List α} {s0:σ} (hd :∀s,Ok (done s) Q)
  (hs :∀(next:σ->Option ρ) x i s,i<l.length->x ∈ l->(∀s',Ok (next s') Q)->Ok (body next x i s) Q):Ok (An done body l 0 s0) Q:=
 .forI (fun _ _=>True) trivial (fun s _=>hd s) fun n x i s h1 h2 _ h3=>hs n x i s h1 h2 fun s'=>h3 s' trivial
theorem Ok.whileI {σ ρ:Type} {body:(σ->Option ρ)->σ->Option ρ} {n:Nat} {s:σ} {Q:ρ->Prop} (I:σ->Prop) (μ:σ->Nat) (h0:I s) (hm:μ s<n)
  (hs :∀(next:σ->Option ρ) s,I s->(∀s',I s'->μ s'<μ s->Ok (next s') Q)->Ok (body next s) Q):Ok (Av body n s) Q:=
 Rz I μ Q (fun next s h k=>hs next s h k) n s h0 hm
theorem Ok.ite {ρ:Type} {p:Prop} [Decidable p] {x y:Option ρ} {Q:ρ->Prop} (h1:p->Ok x Q) (h2:¬ p->Ok y Q):Ok (if p then x else y) Q:=by
 split
 ·exact h1 ‹_›
 exact h2 ‹_›
theorem Ok.geti {α:Type} {l:List α} {i:Int} (h:0<=i/\i<l.length):Ok (geti l i) fun x=>x ∈ l/\geti l i=some x:=by
 have h2:i.toNat<l.length:=by omega
 have h3:Go.AX.geti l i=some l[i.toNat]:=by
  unfold Go.AX.geti
  rw[if_pos h]
  simp[h2]
 exact⟨_,h3,List.getElem_mem h2,h3⟩
theorem Ok.seti {α:Type} {l:List α} {i:Int} {x:α} (h:0<=i/\i<l.length):Ok (seti l i x) fun l'=>l'=l.set i.toNat x/\l'.length=l.length:=by
 refine⟨_,?_,rfl,by simp⟩
 unfold Go.AX.seti
 rw[if_pos h]
theorem Ok.apnd {α:Type} {b:Nat} {l m:List α} (hb:Nat.ble b 65536=true) (h:l.length + m.length<=1000000000):Ok (apnd b l m) fun l'=>l'=l++m:=⟨_,Ag hb h,rfl⟩
theorem Ok.apndB {α:Type} {b:Nat} {l m:List α} (hb:0<b) (h:(l.length + m.length) * b<=140737488355328):Ok (Go.AX.apnd b l m) fun l2=>l2=l++m:=⟨_,YN hb h,rfl⟩
theorem Ok.part {α:Type} {l:List α} {a b:Int} (h:0<=a/\a<=b/\b<=l.length):Ok (part l a b) fun l'=>l'=(l.drop a.toNat).take (b.toNat - a.toNat)/\(l'.length:Int)=b - a:=by
 refine⟨_,?_,rfl,by simp;omega⟩
 unfold Go.AX.part
 rw[if_pos h]
theorem Ok.chk {p:Prop} [Decidable p] (h:p):Ok (chk p) fun _=>True:=by
 refine⟨(),?_,trivial⟩
 unfold Go.AX.chk
 rw[if_pos h]
theorem Tt.auto {ρ:Type} {m:Option ρ} (h:Ok m fun _=>True:=by
  repeat' (first
   | exact Ok.ret trivial
   | assumption
   | (refine Ok.bind Ok.of ?_;intros)
   | (refine Ok.ite ?_ ?_<;>intros)
   | (refine Ok.join (fun _=>True) ?_ ?_<;>intros)
   | (refine Ok.for_ ?_ ?_<;>intros)
   | (refine Ok.bind (Ok.geti ?_) ?_<;>intros)
   | (refine Ok.bind (Ok.chk ?_) ?_<;>intros)
   | exact ‹∀v,True->Ok _ _› _ trivial
   | exact ‹∀v,Ok _ _› _
   | solve_by_elim
   | (constructor<;>first | omega | (simp_all;done)|(simp_all;omega))
   | omega
   | decide)):Tt m:=h.tt
theorem Ok.q {ρ:Type} {m:Option ρ} {Q:ρ->Prop} (h:Ok m Q:=by
  repeat' (first
   | assumption
   | refine Ok.ret ?_
   | exact trivial
   | (refine Ok.bind Ok.of ?_;intros)
   | (refine Ok.ite ?_ ?_<;>intros)
   | (refine Ok.bind (Ok.chk ?_) ?_<;>intros)
   | (refine Ok.bind (Ok.geti ?_) ?_<;>intros)
   | (refine Ok.bind (Ok.seti ?_) ?_<;>intros)
   | (refine Ok.bind (Ok.apnd (by decide) ?_) ?_<;>intros)
   | refine ‹∀v,_->_->Ok _ _› _ ?_ ?_
   | refine ‹∀v,_->Ok _ _› _ ?_
   | exact ‹∀v,Ok _ _› _
   | (refine Ok.join (τ:=Bool) (fun _=>True) ?_ ?_<;>intros)
   | (refine Ok.join (τ:=Unit) (fun _=>True) ?_ ?_<;>intros)
   | omega
   | solve_by_elim
   | (simp_all;done)
   | (simp_all;omega)
   | (simp only[X11,X12,X13,X21,decide_eq_true_eq,beq_iff_eq,bne_iff_ne,Bool.not_eq_true'] at *;(try subst_vars);(try simp only[X11,X12,X13]);omega))):Ok m Q:=h
theorem Ok.pos {ρ:Type} {Q:ρ->Prop} {n:Nat} {g:(Bool->Option ρ)->Int->Option ρ} {k:Int->Option ρ} (hn:n<=1000000000)
  (hg :∀(k':Bool->Option ρ) (v:Int),0<=v->v<=n->(∀c,(c=true->v<n)->Ok (k' c) Q)->Ok (g k' v) Q) (hk :∀v:Int,0<=v->v<=n->Ok (k v) Q) :
  Ok (AI (fun k1=>Av (fun next v=>AI (fun k2=>g k2 v) (fun c=>if c=true then next (AK (v + 1)) else k1 v)) fuel 0) k) Q:=by
 refine .join (fun v:Int=>0<=v/\v<=n) (fun k1 hk1=>?_) fun v hv=>hk v hv.1 hv.2
 refine .whileI (fun v:Int=>0<=v/\v<=n) (fun v=>(n - v).toNat) (by omega) (Bo (by omega)) fun next v hv hnx=>?_
 refine .join (fun c=>c=true->v<n) (fun k2 hk2=>hg k2 v hv.1 hv.2 hk2) fun c hc=>.ite (fun h=>?_) fun _=>hk1 v hv
 have:=hc h
 rw[AQ (by omega)]
 exact hnx _ (by omega) (by omega)
end Go.AX
end
section
namespace Go.AX
theorem bw {α ρ:Type} {g:α->Bool} {body:(Unit->Option ρ)->α->Nat->Unit->Option ρ} {K:Unit->Option ρ} {r0:Option ρ} :
  ∀{l:List α} {i:Nat},(∀next x i,x ∈ l->body next x i ()=cond (g x) (next ()) r0)->An K body l i ()=cond (l.all g) (K ()) r0
 | [],_,_=>rfl
 | x::t,i,h=>by
  show body (fun s=>An K body t (i + 1) s) x i ()=_
  rw[h _ x i (by simp),List.all_cons]
  cases g x
  ·rfl
  exact bw fun next y j hy=>h next y j (X19 _ hy)
theorem cJ {α:Type} {f:α->Option Bool} {q:α->Bool} :∀{l:List α} {i:Nat},(∀x ∈ l,f x=some (q x))->
  An (fun _=>some (-1)) (fun next x i _=>Option.bind (f x) fun v=>if v then some (i:Int) else next ()) l i ()=some (match l.findIdx? q with | some j=>((i + j:Nat):Int)|none=>-1)
 | [],_,_=>rfl
 | x::t,i,h=>by
  show Option.bind (f x) (fun v=>if v then some (i:Int) else An (fun _=>some (-1)) _ t (i + 1) ())=_
  rw[h x (by simp),AC,List.findIdx?_cons]
  by_cases hq:q x=true
  ·rw[if_pos hq,if_pos hq];simp
  rw[if_neg hq,if_neg hq,cJ fun y hy=>h y (X19 _ hy)]
  cases t.findIdx? q with
  | none=>rfl
  | some j=>simp only[Option.map_some];rw[show i + 1 + j=i + (j + 1) by omega]
theorem aO {α:Type} {f:α->Option Bool} {q:α->Bool} {l:List α} (h :∀x ∈ l,f x=some (q x)) :
  (Option.bind (AI (τ:=Unit) (fun k1=>An (fun _=>k1 ()) (fun next x i _=>Option.bind (f x) fun v=>if v then some (i:Int) else next ()) l 0 ()) fun _=>some (-1)) fun v1=>some (decide (v1 ≥ 0)))=some (l.any q):=by
 rw[AG,cJ h,AC]
 congr 1
 cases hf:l.findIdx? q with
 | none=>
  have:l.any q=false:=by
   rw[List.findIdx?_eq_none_iff] at hf
   simp only[List.any_eq_false]
   intro x hx
   simp[hf x hx]
  rw[this];rfl
 | some j=>
  have h1:=List.findIdx?_eq_some_iff_getElem.1 hf
  obtain⟨hj,hq,_⟩:=h1
  have:l.any q=true:=List.any_eq_true.2 ⟨_,List.getElem_mem hj,hq⟩
  rw[this]
  simp
theorem S3 {a b:ByteArray} (h:(a==b)=true):a=b:=(Go.MapKept.bytes_beq a b).1 h
theorem bH {a:ByteArray}:(a==a)=true:=(Go.MapKept.bytes_beq a a).2 rfl
instance:LawfulBEq ByteArray:={ eq_of_beq:=S3,rfl:=bH }
section
variable {K V:Type} [BEq K] [LawfulBEq K]
theorem EA (l:List (K×V)) (k:K) (v:V) (k':K):Df (F3 l k v) k'=if k'==k then some v else Df l k':=by
 induction l with
 | nil=>
  unfold F3
  simp only[Df]
 | cons p l ih=>
  unfold F3
  by_cases hp:(k==p.1)=true
  ·rw[if_pos hp]
   have:=eq_of_beq hp
   simp only[Df]
   by_cases hk:(k'==k)=true
   ·rw[if_pos hk,if_pos hk]
   rw[if_neg hk,if_neg hk,if_neg (by rw[<- this];exact hk)]
  rw[if_neg hp]
  simp only[Df,ih]
  by_cases hk:(k'==k)=true
  ·have:=eq_of_beq hk
   subst this
   rw[if_neg hp,if_pos hk,if_pos hk]
  rw[if_neg hk,if_neg hk]
end
theorem GH {α:Type} (p:α->Bool) (l:List α):(l.takeWhile p).length<=l.length:=(List.takeWhile_prefix p).length_le
theorem Lp {α:Type} {p:α->Bool} :∀{l:List α} {k:Nat} (hk:k<l.length),k<=(l.takeWhile p).length->(k<(l.takeWhile p).length↔p l[k]=true)
 | [],_,hk,_=>by simp at hk
 | x::t,k,hk,h=>by
  rw[List.takeWhile_cons] at h ⊢
  by_cases hp:p x=true
  ·rw[if_pos hp] at h ⊢
   cases k with
   | zero=>simp[hp]
   | succ k=>simpa using Lp (p:=p) (l:=t) (k:=k) (by simpa using hk) (by simpa using h)
  rw[if_neg hp] at h ⊢
  have:k=0:=by simpa using h
  subst this
  simp[hp]
theorem ad {α ρ:Type} {l:List α} {p:α->Bool} (g:α->(Bool->Option ρ)->Option ρ) {K:Int->Option ρ} (hl:l.length<=1000000000000) (hg :∀x ∈ l,∀k,g x k=k (p x)) :
  AI (fun k1=>Av (fun next v=>AI (fun k2=>if decide (v<(l.length:Int)) then Option.bind (geti l v) fun x=>g x k2 else k2 false) (fun c=>if c=true then next (AK (v + 1)) else k1 v)) fuel 0) K=K ((l.takeWhile p).length:Int):=by
 have ht:=GH p l
 rw[AG,CU (fun v:Int=>0<=v/\v<=((l.takeWhile p).length:Int)) (fun v=>(l.length - v).toNat) (fun _=>K ((l.takeWhile p).length:Int)) ?_ fuel 0 (by omega) (Bo (by omega))]
 intro next v hv hn
 obtain⟨k,rfl⟩ :∃k:Nat,v=k:=⟨v.toNat,by omega⟩
 rw[AG]
 by_cases hk:k<l.length
 ·rw[if_pos (by simpa using hk),Bz hk,AC,hg _ (List.getElem_mem hk)]
  have h:=Lp (p:=p) hk (by omega)
  by_cases hp:p l[k]=true
  ·rw[if_pos hp,AQ (by omega)]
   have:=h.2 hp
   exact hn _ (by omega) (by omega)
  rw[if_neg hp]
  have:¬ k<(l.takeWhile p).length:=fun q=>hp (h.1 q)
  have:k=(l.takeWhile p).length:=by omega
  rw[this]
 rw[if_neg (by simpa using hk)]
 have:k=(l.takeWhile p).length:=by omega
 subst this
 rfl
theorem R2 {α:Type} [DecidableEq α] :∀{l m:List α},l.Nodup->(∀x ∈ l,x ∈ m)->l.length<=m.length
 | [],_,_,_=>Nat.zero_le _
 | x::t,m,h,hs=>by
  obtain⟨h1,h2⟩:=List.nodup_cons.1 h
  have hx:=hs x (by simp)
  have:=R2 (m:=m.erase x) h2 fun y hy=>(List.mem_erase_of_ne (fun e=>h1 (by rw[<- e];exact hy))).2 (hs y (X19 _ hy))
  rw[List.length_erase_of_mem hx] at this
  have:0<m.length:=List.length_pos_of_mem hx
  simp only[X12]
  omega
theorem Il {α:Type} {lt:α->α->Prop} (hirr :∀a,¬ lt a a) (htr :∀a b c,lt a b->lt b c->lt a c) :∀{l m:List α},l.Pairwise lt->m.Pairwise lt->(∀x,x ∈ l↔x ∈ m)->l=m
 | [],[],_,_,_=>rfl
 | [],y::m,_,_,h=>by have:=(h y).2 (by simp);simp at this
 | x::l,[],_,_,h=>by have:=(h x).1 (by simp);simp at this
 | x::l,y::m,h1,h2,h=>by
  obtain⟨a1,a2⟩:=List.pairwise_cons.1 h1
  obtain⟨b1,b2⟩:=List.pairwise_cons.1 h2
  have hxy:x=y:=by
   rcases List.mem_cons.1 ((h x).1 (by simp)) with e | e
   ·exact e
   rcases List.mem_cons.1 ((h y).2 (by simp)) with e' | e'
   ·exact e'.symm
   exact absurd (htr _ _ _ (a1 y e') (b1 x e)) (hirr x)
  subst hxy
  congr 1
  refine Il hirr htr a2 b2 fun z=>?_
  constructor
  ·intro hz
   rcases List.mem_cons.1 ((h z).1 (X19 _ hz)) with e | e
   ·subst e;exact absurd (a1 z hz) (hirr z)
   exact e
  intro hz
  rcases List.mem_cons.1 ((h z).2 (X19 _ hz)) with e | e
  ·subst e;exact absurd (b1 z hz) (hirr z)
  exact e
def KU {α:Type} (lt:α->α->Bool) (l:List α) (x:α):List α:=l.takeWhile (lt · x)++x::l.dropWhile (lt · x)
theorem U5 {α:Type} {lt:α->α->Bool} {l:List α} {x y:α}:y ∈ KU lt l x↔y ∈ l\/y=x:=by
 unfold KU
 have:y ∈ l↔y ∈ l.takeWhile (lt · x)\/y ∈ l.dropWhile (lt · x):=by
  rw[<- X23,List.takeWhile_append_dropWhile]
 rw[this,X23,List.mem_cons]
 constructor
 ·rintro (h | h | h)
  ·exact .inl (.inl h)
  ·exact .inr h
  exact .inl (.inr h)
 rintro ((h | h)|h)
 ·exact .inl h
 ·exact .inr (.inr h)
 exact .inr (.inl h)
theorem Uk {α:Type} (lt:α->α->Bool) (l:List α) (x:α):(KU lt l x).length=l.length + 1:=by
 unfold KU
 have:=congrArg List.length (List.takeWhile_append_dropWhile (p:=(lt · x)) (l:=l))
 simp only[X11,X12] at this ⊢
 omega
theorem Kp {α:Type} (p:α->Bool) {l:List α} {x:α} (h:x ∈ l.takeWhile p):p x=true:=by
 induction l with
 | nil=>simp at h
 | cons y t ih=>
  rw[List.takeWhile_cons] at h
  split at h
  ·rcases List.mem_cons.1 h with rfl | h
   ·assumption
   exact ih h
  simp at h
theorem N4 {α:Type} {lt:α->α->Bool} (htr :∀a b c,lt a b=true->lt b c=true->lt a c=true) (htot :∀a b,lt a b=false->a=b\/lt b a=true) {l:List α} {x:α} (h:l.Pairwise fun a b=>lt a b=true) (hx:x ∉ l) :
  (KU lt l x).Pairwise fun a b=>lt a b=true:=by
 have h0:=h
 rw[<- List.takeWhile_append_dropWhile (p:=(lt · x)) (l:=l),List.pairwise_append] at h
 obtain⟨h1,h2,h3⟩:=h
 have hd :∀b ∈ l.dropWhile (lt · x),lt x b=true:=by
  cases hl:l.dropWhile (lt · x) with
  | nil=>intro b hb;simp at hb
  | cons y t=>
   have hy:lt y x=false:=by
    have:=List.head?_dropWhile_not (lt · x) l
    rw[hl] at this
    simpa using this
   have hyl:y ∈ l:=by
    have:y ∈ l.dropWhile (lt · x):=by rw[hl];simp
    exact List.dropWhile_subset _ this
   have hxy:lt x y=true:=by
    rcases htot _ _ hy with e | e
    ·subst e;exact absurd hyl hx
    exact e
   rw[hl] at h2
   intro b hb
   rcases List.mem_cons.1 hb with rfl | hb
   ·exact hxy
   exact htr _ _ _ hxy ((List.pairwise_cons.1 h2).1 b hb)
 unfold KU
 rw[List.pairwise_append]
 refine⟨h1,List.pairwise_cons.2 ⟨hd,h2⟩,fun a ha b hb=>?_⟩
 rcases List.mem_cons.1 hb with e | hb
 ·rw[e];exact Kp (lt · x) ha
 exact h3 a ha b hb
theorem takeWhile_take {α:Type} (p:α->Bool) (l:List α):l.take (l.takeWhile p).length=l.takeWhile p/\l.drop (l.takeWhile p).length=l.dropWhile p:=by
 have h:=List.takeWhile_append_dropWhile (p:=p) (l:=l)
 constructor
 ·conv=>lhs;arg 2;rw[<- h]
  rw[List.take_left']
  rfl
 conv=>lhs;arg 2;rw[<- h]
 rw[List.drop_left']
 rfl
end Go.AX
end
section
namespace Go.AX
set_option maxRecDepth 8000
def Yg (a b:Int):Int:=if a<b then -1 else if b<a then 1 else 0
def orI:List Int->Int
 | []=>0
 | x::t=>if x=0 then orI t else x
def Fj:List Int->List Int->Int
 | x::s,y::t=>if x<y then -1 else if y<x then 1 else Fj s t
 | _,_=>0
theorem Ua (x:Int) (t:List Int):orI (x::t)=if x=0 then orI t else x:=rfl
theorem MA (x y:Int) (t:List Int):orI (Yg x y::t)=if x<y then -1 else if y<x then 1 else orI t:=by
 rw[Ua]
 unfold Yg
 split
 ·rfl
 split<;>simp
theorem XY (x y:Int) (s t:List Int):Fj (x::s) (y::t)=if x<y then -1 else if y<x then 1 else Fj s t:=rfl
theorem SD :∀a:List Int,Fj a a=0
 | []=>rfl
 | x::t=>by unfold Fj;simp[SD t]
theorem SJ :∀{a b:List Int},a.length=b.length->Fj a b=0->a=b
 | [],[],_,_=>rfl
 | [],_::_,h,_=>by simp at h
 | _::_,[],h,_=>by simp at h
 | x::s,y::t,h,e=>by
  unfold Fj at e
  split at e
  ·simp at e
  split at e
  ·simp at e
  rw[SJ (by simpa using h) e,show x=y by omega]
theorem VU :∀a b:List Int,Fj b a=- Fj a b
 | [],[]=>rfl
 | [],_::_=>rfl
 | _::_,[]=>rfl
 | x::s,y::t=>by
  unfold Fj
  have:=VU s t
  split<;>split<;>first | omega | (split<;>omega)
theorem WP :∀{a b c:List Int},a.length=b.length->b.length=c.length->Fj a b<0->Fj b c<0->Fj a c<0
 | [],_,_,_,_,h,_=>by simp[Fj] at h
 | _::_,[],_,h,_,_,_=>by simp at h
 | _::_,_::_,[],_,h,_,_=>by simp at h
 | x::s,y::t,z::u,h1,h2,h3,h4=>by
  have ih:=@WP s t u (by simpa using h1) (by simpa using h2)
  unfold Fj at h3 h4 ⊢
  by_cases a1:x<y
  ·by_cases a2:y<z
   ·rw[if_pos (by omega)];omega
   rw[if_neg a2] at h4
   by_cases a3:z<y
   ·rw[if_pos a3] at h4;omega
   rw[if_pos (by omega)];omega
  rw[if_neg a1] at h3
  by_cases a4:y<x
  ·rw[if_pos a4] at h3;omega
  rw[if_neg a4] at h3
  have:x=y:=by omega
  subst this
  by_cases a2:x<z
  ·rw[if_pos a2];omega
  rw[if_neg a2] at h4 ⊢
  by_cases a3:z<x
  ·rw[if_pos a3] at h4;omega
  rw[if_neg a3] at h4 ⊢
  exact ih h3 h4
section
variable {X:Type} {key:X->List Int}
def ltK (key:X->List Int) (a b:X):Bool:=decide (Fj (key a) (key b)<0)
theorem MD (a:X):ltK key a a=false:=by unfold ltK;rw[SD];rfl
theorem Nb (hl :∀a b:X,(key a).length=(key b).length) (a b c:X) (h1:ltK key a b=true) (h2:ltK key b c=true):ltK key a c=true:=by
 unfold ltK at *
 simp only[decide_eq_true_eq] at *
 exact WP (hl _ _) (hl _ _) h1 h2
theorem L8 (hl :∀a b:X,(key a).length=(key b).length) (a b:X) (h:ltK key a b=false):key a=key b\/ltK key b a=true:=by
 unfold ltK at *
 simp only[decide_eq_false_iff_not,decide_eq_true_eq] at *
 have:=VU (key a) (key b)
 by_cases h0:Fj (key a) (key b)=0
 ·exact .inl (SJ (hl _ _) h0)
 exact .inr (by omega)
theorem VW (hl :∀a b:X,(key a).length=(key b).length) (a b:X) (h:ltK key a b=true):ltK key b a=false:=by
 cases h1:ltK key b a
 ·rfl
 have:=Nb hl _ _ _ h h1
 rw[MD] at this;simp at this
theorem Zl (hl :∀a b:X,(key a).length=(key b).length) (a b c:X) (h1:ltK key a b=false) (h2:ltK key b c=false):ltK key a c=false:=by
 rcases L8 hl _ _ h1 with e | h1
 ·unfold ltK at *;rw[e];exact h2
 rcases L8 hl _ _ h2 with e | h2
 ·refine VW hl _ _ ?_
  unfold ltK at *;rw[<- e];exact h1
 exact VW hl _ _ (Nb hl _ _ _ h2 h1)
variable {cmp:X->X->Option Int}
theorem WY (hc :∀a b,cmp a b=some (Fj (key a) (key b))) (a b:X):ltC cmp a b=ltK key a b:=by unfold ltC;rw[hc];rfl
theorem TU (hl :∀a b:X,(key a).length=(key b).length) (hc :∀a b,cmp a b=some (Fj (key a) (key b))) {l:List X} (hn:l.length<=1000000000) :
  Ok (FR cmp l) fun r=>r.Perm l/\r.Pairwise fun a b=>ltK key b a=false:=by
 obtain⟨r,hr⟩:=Vk (cmp:=cmp) (l:=l) (Zz (fun a _ b _=>⟨_,hc a b⟩) (fun a _=>by rw[WY hc,MD])
  (fun a _ b _ c _ h1 h2=>by rw[WY hc] at *;exact Nb hl _ _ _ h1 h2) (fun a _ b _ c _ h1 h2=>by rw[WY hc] at *;exact Zl hl _ _ _ h1 h2) hn)
 obtain⟨h1,h2⟩:=LA hr
 exact⟨r,hr,h1,h2.imp fun h=>by rw[WY hc] at h;exact h⟩
theorem XI {l:List X} (hl :∀a b:X,(key a).length=(key b).length) (h1:l.Pairwise fun a b=>ltK key b a=false) (h2:l.Pairwise fun a b=>key a≠key b):l.Pairwise fun a b=>ltK key a b=true:=
 (h1.and h2).imp fun {a b} h=>(L8 hl b a h.1).resolve_left fun e=>h.2 e.symm
theorem Z2 (hl :∀a b:X,(key a).length=(key b).length) {l m:List X} (h1:l.Pairwise fun a b=>ltK key a b=true) (h2:m.Pairwise fun a b=>ltK key a b=true) (h :∀x,x ∈ l↔x ∈ m):l=m:=
 Il (lt:=fun a b=>ltK key a b=true) (fun a h=>by rw[MD] at h;simp at h) (fun a b c=>Nb hl a b c) h1 h2 h
end
theorem YO {α:Type} {lt:α->α->Bool} (htr :∀a b c,lt a b=true->lt b c=true->lt a c=true) (hirr :∀a,lt a a=false) {l:List α} {x:α} (hs:l.Pairwise fun a b=>lt a b=true) :
  x ∈ l↔l[(l.takeWhile (lt · x)).length]?=some x:=by
 constructor
 ·intro hx
  rw[<- List.takeWhile_append_dropWhile (p:=(lt · x)) (l:=l),X23] at hx
  rcases hx with hx | hx
  ·have:=Kp (lt · x) hx
   rw[hirr] at this
   simp at this
  have h2:=(takeWhile_take (lt · x) l).2
  cases hd:l.dropWhile (lt · x) with
  | nil=>rw[hd] at hx;simp at hx
  | cons y t=>
   have hy:lt y x=false:=by
    have:=List.head?_dropWhile_not (lt · x) l
    rw[hd] at this
    simpa using this
   have hp:(y::t).Pairwise fun a b=>lt a b=true:=by
    rw[<- hd]
    exact hs.sublist (List.dropWhile_sublist _)
   rw[hd] at hx
   have hxy:x=y:=by
    rcases List.mem_cons.1 hx with e | e
    ·exact e
    have:=(List.pairwise_cons.1 hp).1 x e
    rw[hy] at this;simp at this
   have h3:(l.drop (l.takeWhile (lt · x)).length)[0]?=some x:=by rw[h2,hd,hxy];rfl
   rw[List.getElem?_drop] at h3
   simpa using h3
 intro h
 exact List.mem_of_getElem? h
def J4 {α:Type} (e:α->α->Bool) (z:α) (a0:List α):Option (List α):=
 if (decide ((a0.length:Int)<2)) then
  some a0
 else
  AI (τ:=Unit) (fun k1=>
   Av (σ:=Int) (fun next2 v3=>
    if (decide (v3<(a0.length:Int))) then
     AI (τ:=Unit) (fun k4=>
      Option.bind (geti a0 v3) fun v5=>
      Option.bind (geti a0 (AK (v3 - 1))) fun v6=>
      if (e v5 v6) then
       Option.bind (chk (0<=v3/\v3<=(a0.length:Int)/\(a0.length:Int)<=(a0.length:Int))) fun _=>
       AI (τ:=Int×(List α)) (fun k7=>
        Av (σ:=Int×Int×(List α)) (fun next8 (v9,v10,v11)=>
         if (decide (v10<(((Int.toNat (a0.length:Int) - Int.toNat v3):Nat):Int))) then
          Option.bind (geti (List.take (Int.toNat (a0.length:Int) - Int.toNat v3) (List.drop (Int.toNat v3) v11)) v10) fun v12=>
          Option.bind (geti (List.take (Int.toNat (a0.length:Int) - Int.toNat v3) (List.drop (Int.toNat v3) v11)) (AK (v10 - 1))) fun v13=>
          AI (τ:=Int×(List α)) (fun k14=>
           if (!(e v12 v13)) then
            Option.bind (geti (List.take (Int.toNat (a0.length:Int) - Int.toNat v3) (List.drop (Int.toNat v3) v11)) v10) fun v15=>
            Option.bind (geti v11 v9) fun v16=>
            Option.bind (seti v11 v9 v15) fun v17=>
            k14 ((AK (v9 + 1)),v17)
           else
            k14 (v9,v11)
          ) fun (v18,v19)=>
          next8 (v18,(AK (v10 + 1)),v19)
         else
          k7 (v9,v11)
        ) fuel (v3,1,a0)
       ) fun (v20,v21)=>
       Option.bind (chk (0<=v20/\v20<=(v21.length:Int)/\(v21.length:Int)<=(v21.length:Int))) fun _=>
       Option.bind (part (List.take (Int.toNat v20) v21++List.replicate (Int.toNat (v21.length:Int) - Int.toNat v20) z++List.drop ((Int.toNat v20) + (Int.toNat (v21.length:Int) - Int.toNat v20)) v21) 0 v20) fun v22=>
       some v22
      else
       k4 ()
     ) fun _=>
     next2 (AK (v3 + 1))
    else
     k1 ()
   ) fuel 1
  ) fun _=>
  some a0
theorem Z8 {α:Type} {l:List α} {i:Int} {x:α} (h0:0<=i) (h:l[i.toNat]?=some x):geti l i=some x:=by
 have:=(X16.1 h).1
 unfold geti
 rw[if_pos (by omega),h]
theorem VR {α:Type} {l:List α} {i:Nat} {x:α} (h:i<l.length):(l.set i x).take (i + 1)=l.take i++[x]:=by
 rw[List.take_add_one,List.take_set_of_le (Nat.le_refl _),List.getElem?_set_self h]
 rfl
section
variable {α:Type} {lt:α->α->Bool} (hirr :∀a,lt a a=false) (htr :∀a b c,lt a b=true->lt b c=true->lt a c=true) (htot :∀a b,lt a b=false->a=b\/lt b a=true)
include htr htot
theorem YP {p q:List α} {y z:α} (hp:p.Pairwise fun a b=>lt a b=true) (hm :∀x,x ∈ p↔x ∈ q) (hq :∀x ∈ q,lt z x=false) (hyz:lt y z=false) (hne:y≠z) :
  (p++[y]).Pairwise (fun a b=>lt a b=true)/\∀x,x ∈ p++[y]↔x ∈ q++[y]:=by
 refine⟨List.pairwise_append.2 ⟨hp,by simp,fun x hx w hw=>?_⟩,fun x=>by rw[X23,X23,hm]⟩
 rw[X14] at hw
 subst hw
 have h1:=hq x ((hm x).1 hx)
 have h2:lt z w=true:=(htot _ _ hyz).resolve_left hne
 rcases htot _ _ h1 with e | e
 ·rw[<- e];exact h2
 exact htr _ _ _ e h2
include hirr
theorem Jr {e:α->α->Bool} {zz:α} (he :∀a b,e a b=true↔a=b) {l:List α} (hs:l.Pairwise fun a b=>lt b a=false) (hl:l.length<=1000000000) :
  Ok (J4 e zz l) fun c=>c.Pairwise (fun a b=>lt a b=true)/\(∀x,x ∈ c↔x ∈ l):=by
 have hprev :∀(k:Nat) (z:α),l[k]?=some z->∀x ∈ l.take (k + 1),lt z x=false:=by
  intro k z hk x hx
  obtain⟨i,hi,rfl⟩:=List.mem_iff_getElem.1 hx
  rw[X18] at hi
  obtain⟨hk1,rfl⟩:=X16.1 hk
  rw[List.getElem_take]
  by_cases e:i=k
  ·subst e;exact hirr _
  exact List.pairwise_iff_getElem.1 hs i k (by omega) hk1 (by omega)
 have hnext :∀(k:Nat) (z y:α),l[k]?=some z->l[k + 1]?=some y->lt y z=false:=by
  intro k z y hk hy
  obtain⟨hk1,rfl⟩:=X16.1 hk
  obtain⟨hk2,rfl⟩:=X16.1 hy
  exact List.pairwise_iff_getElem.1 hs k (k + 1) hk1 hk2 (by omega)
 have htk :∀(k:Nat) (y:α),l[k]?=some y->l.take (k + 1)=l.take k++[y]:=by
  intro k y hk
  rw[List.take_add_one,hk];rfl
 have hmem :∀(k:Nat) (z:α),l[k]?=some z->z ∈ l.take (k + 1):=by
  intro k z hk;rw[htk k z hk];simp
 unfold J4
 refine .ite (fun h=>?_) fun h=>?_
 ·simp only[decide_eq_true_eq] at h
  refine .ret ⟨?_,fun _=>Iff.rfl⟩
  match l,h with
  | [],_=>exact .nil
  | [x],_=>simp
  | x::y::t,h=>simp at h;omega
 simp only[decide_eq_true_eq] at h
 refine .join (fun _=>l.Pairwise fun a b=>lt a b=true) (fun k1 hk1=>?_) fun _ h=>.ret ⟨h,fun _=>Iff.rfl⟩
 refine .whileI (fun v:Int=>1<=v/\v<=l.length/\(l.take v.toNat).Pairwise fun a b=>lt a b=true) (fun v=>(l.length - v).toNat) ⟨by omega,by omega,?_⟩ (Bo (by omega)) fun next v hv hnx=>?_
 ·match l,h with
  | x::t,_=>simp
  | [],h=>simp at h
 obtain⟨v1,v2,v3⟩:=hv
 refine .ite (fun hlt=>?_) fun hge=>?_
 rotate_left
 ·simp only[decide_eq_true_eq] at hge
  refine hk1 () ?_
  have:v.toNat=l.length:=by omega
  rw[this,List.take_length] at v3
  exact v3
 simp only[decide_eq_true_eq] at hlt
 obtain⟨n,rfl⟩ :∃n:Nat,v=((n + 1:Nat):Int):=⟨(v - 1).toNat,by omega⟩
 have hn:n + 1<l.length:=by omega
 have gy:l[n + 1]?=some l[n + 1]:=X15 hn
 have gz:l[n]?=some l[n]:=X15 (by omega)
 have e1:geti l ((n + 1:Nat):Int)=some l[n + 1]:=Bz hn
 have e2:geti l (AK (((n + 1:Nat):Int) - 1))=some l[n]:=by
  rw[AQ (by omega),show ((n + 1:Nat):Int) - 1=(n:Int) by omega]
  exact Bz (by omega)
 refine .join (fun _=>l[n + 1]≠l[n]) (fun k4 hk4=>?_) fun _ hne=>?_
 rotate_left
 ·rw[AQ (by omega)]
  refine hnx _ ⟨by omega,by omega,?_⟩ (by omega)
  have:=(YP htr htot (p:=l.take (n + 1)) (q:=l.take (n + 1)) v3 (fun _=>Iff.rfl) (hprev n _ gz) (hnext n _ _ gz gy) hne).1
  rw[<- htk _ _ gy] at this
  have e:(((n + 1:Nat):Int) + 1).toNat=n + 1 + 1:=by omega
  rw[e];exact this
 rw[e1,AC,e2,AC]
 refine .ite (fun heq=>?_) fun hne=>hk4 _ fun e=>hne ((he _ _).2 e)
 have heq:=(he _ _).1 heq
 refine .bind (Ok.chk (by omega)) fun _ _=>?_
 refine .join (fun p:Int×List α=>0<=p.1/\p.1<=l.length/\p.2.length=l.length/\(p.2.take p.1.toNat).Pairwise (fun a b=>lt a b=true)/\∀x,x ∈ p.2.take p.1.toNat↔x ∈ l) (fun k7 hk7=>?_) ?_
 ·refine .whileI (fun p:Int×Int×List α=>0<=p.1/\1<=p.2.1/\p.1<=(n + 1:Nat) + p.2.1 - 1/\(n + 1:Nat) + p.2.1<=l.length/\p.2.2.length=l.length/\(∀j:Nat,p.1<=j->p.2.2[j]?=l[j]?)/\
    (p.2.2.take p.1.toNat).Pairwise (fun a b=>lt a b=true)/\∀x,x ∈ p.2.2.take p.1.toNat↔x ∈ l.take ((n + 1:Nat) + p.2.1).toNat) (fun p=>(l.length - p.2.1).toNat) ⟨by dsimp only;omega,by dsimp only;omega,by dsimp only;omega,by dsimp only;omega,rfl,fun _ _=>rfl,v3,fun x=>?_⟩ (Bo (by dsimp only;omega)) ?_
  ·dsimp only
   have e:(((n + 1:Nat):Int) + 1).toNat=n + 1 + 1:=by omega
   rw[e,htk _ _ gy,Int.toNat_natCast]
   constructor
   ·exact fun h=>List.mem_append_left _ h
   intro h
   rcases X23.1 h with h | h
   ·exact h
   rw[X14] at h
   rw[h,heq];exact hmem n _ gz
  rintro next ⟨i,k,a⟩ ⟨q1,q2,q3,q4,q5,q6,q7,q8⟩ hnx2
  dsimp only at q1 q2 q3 q4 q5 q6 q7 q8 ⊢
  refine .ite (fun hk=>?_) fun hk=>?_
  rotate_left
  ·simp only[decide_eq_true_eq] at hk
   refine hk7 (i,a) ⟨q1,by dsimp only;omega,q5,q7,fun x=>?_⟩
   dsimp only
   rw[q8 x,show ((n + 1:Nat) + k).toNat=l.length by omega,List.take_length]
  simp only[decide_eq_true_eq] at hk
  obtain⟨m,rfl⟩ :∃m:Nat,k=((m + 1:Nat):Int):=⟨(k - 1).toNat,by omega⟩
  have hml:n + 1 + (m + 1)<l.length:=by omega
  have gy2:l[n + 1 + (m + 1)]?=some l[n + 1 + (m + 1)]:=X15 hml
  have gz2:l[n + 1 + m]?=some l[n + 1 + m]:=X15 (by omega)
  have ge :∀j:Nat,n + 1 + j<l.length->i<=((n + 1 + j:Nat):Int)->∀y,l[n + 1 + j]?=some y->geti (List.take (Int.toNat (l.length:Int) - Int.toNat ((n + 1:Nat):Int)) (List.drop (Int.toNat ((n + 1:Nat):Int)) a)) (j:Int)=some y:=by
   intro j hj hij y hy
   refine Z8 (by omega) ?_
   rw[Int.toNat_natCast,Int.toNat_natCast,Int.toNat_natCast,List.getElem?_take_of_lt (by omega),List.getElem?_drop,q6 _ hij]
   exact hy
  have r1:=ge (m + 1) hml (by omega) _ gy2
  have r2:=ge m (by omega) (by omega) _ gz2
  rw[r1,AC,AQ (x:=((m + 1:Nat):Int) - 1) (by omega),show ((m + 1:Nat):Int) - 1=(m:Int) by omega,r2,AC]
  refine .join (fun p:Int×List α=>0<=p.1/\p.1<=(n + 1:Nat) + ((m + 1:Nat):Int)/\p.2.length=l.length/\(∀j:Nat,p.1<=j->p.2[j]?=l[j]?)/\
    (p.2.take p.1.toNat).Pairwise (fun a b=>lt a b=true)/\∀x,x ∈ p.2.take p.1.toNat↔x ∈ l.take (n + 1 + (m + 1) + 1)) (fun k14 hk14=>?_) ?_
  ·have et:((n + 1:Nat) + ((m + 1:Nat):Int)).toNat=n + 1 + (m + 1):=by omega
   rw[et] at q8
   refine .ite (fun hne=>?_) fun heq2=>?_
   ·have hne:l[n + 1 + (m + 1)]≠l[n + 1 + m]:=fun e=>by rw[(he _ _).2 e] at hne;simp at hne
    rw[AC]
    have hia:i.toNat<a.length:=by omega
    refine .bind (Ok.geti (by omega)) fun _ _=>.bind (Ok.seti (by omega)) fun a' ha'=>hk14 _ ?_
    rw[AQ (by omega)]
    have ei:(i + 1).toNat=i.toNat + 1:=by omega
    have hc:=YP htr htot (y:=l[n + 1 + (m + 1)]) (z:=l[n + 1 + m]) q7 q8 (by rw[show n + 1 + (m + 1)=n + 1 + m + 1 by omega];exact hprev _ _ gz2) (hnext _ _ _ gz2 gy2) hne
    refine⟨by dsimp only;omega,by dsimp only;omega,ha'.2.trans q5,fun j hj=>?_,?_,?_⟩
    ·dsimp only at hj ⊢
     rw[ha'.1,List.getElem?_set_ne (by omega)]
     exact q6 j (by omega)
    ·dsimp only
     rw[ei,ha'.1,VR hia]
     exact hc.1
    dsimp only
    rw[ei,ha'.1,VR hia,htk _ _ gy2]
    exact hc.2
   have heq2:l[n + 1 + (m + 1)]=l[n + 1 + m]:=by
    refine (he _ _).1 ?_
    cases h:e l[n + 1 + (m + 1)] l[n + 1 + m]
    ·rw[h] at heq2;simp at heq2
    rfl
   refine hk14 _ ⟨q1,by dsimp only;omega,q5,q6,q7,fun x=>?_⟩
   dsimp only
   rw[q8 x,htk _ _ gy2]
   constructor
   ·exact fun h=>List.mem_append_left _ h
   intro h
   rcases X23.1 h with h | h
   ·exact h
   rw[X14] at h
   rw[h,heq2];exact hmem _ _ gz2
  rintro⟨i',a'⟩ ⟨p1,p2,p3,p4,p5,p6⟩
  dsimp only at p1 p2 p3 p4 p5 p6 ⊢
  rw[AQ (by omega)]
  refine hnx2 _ ⟨p1,by dsimp only;omega,by dsimp only;omega,by dsimp only;omega,p3,p4,p5,fun x=>?_⟩ (by dsimp only;omega)
  dsimp only
  rw[p6 x,show ((n + 1:Nat) + (((m + 1:Nat):Int) + 1)).toNat=n + 1 + (m + 1) + 1 by omega]
 rintro⟨i,a⟩ ⟨p1,p2,p3,p4,p5⟩
 dsimp only at p1 p2 p3 p4 p5 ⊢
 refine .bind (Ok.chk (by omega)) fun _ _=>.bind (Ok.part ⟨by omega,by omega,by simp;omega⟩) fun c hc=>.ret ?_
 have:c=a.take i.toNat:=by
  rw[hc.1]
  simp only[Int.toNat_zero,List.drop_zero,Nat.sub_zero]
  rw[List.append_assoc,List.take_append_of_le_length (by simp;omega),List.take_take,Nat.min_self]
 rw[this]
 exact⟨p4,p5⟩
end
theorem Xm {l:List Int} (hl:l.length<=1000000000):Ok (Kr l) fun r=>r.Perm l/\r.Pairwise fun a b=>decide (b<a)=false:=by
 unfold Kr
 rw[if_pos (by omega)]
 refine .ret ⟨List.mergeSort_perm _ _,?_⟩
 refine (List.pairwise_mergeSort (le:=fun x y:Int=>decide (x<=y)) (fun a b c h1 h2=>by simp only[decide_eq_true_eq] at *;omega) (fun a b=>by simp only[Bool.or_eq_true,decide_eq_true_eq];omega) l).imp fun {a b} h=>?_
 simp only[decide_eq_true_eq,decide_eq_false_iff_not] at *
 omega
end Go.AX
end
section
namespace Go.AX
def Po {ρ:Type} (m:Option ρ) (Q:ρ->Prop):Prop:=∀r,m=some r->Q r
theorem Po.ret {ρ:Type} {Q:ρ->Prop} {r:ρ} (h:Q r):Po (some r) Q:=fun _ e=>X25 e ▸ h
theorem Po.imp {ρ:Type} {m:Option ρ} {P Q:ρ->Prop} (h:Po m P) (k :∀r,P r->Q r):Po m Q:=fun r e=>k r (h r e)
theorem Po.bind {α ρ:Type} {m:Option α} {f:α->Option ρ} {Q:ρ->Prop} (k :∀a,m=some a->Po (f a) Q):Po (Option.bind m f) Q:=by
 intro r e
 cases hm:m with
 | none=>rw[hm] at e;cases e
 | some a=>rw[hm] at e;exact k a hm r e
theorem Po.join {τ ρ:Type} {m:(τ->Option ρ)->Option ρ} {k:τ->Option ρ} {Q:ρ->Prop} (J:τ->Prop) (h1 :∀k',(∀v,J v->Po (k' v) Q)->Po (m k') Q) (h2 :∀v,J v->Po (k v) Q):Po (AI m k) Q:=h1 k h2
theorem Po.ite {ρ:Type} {p:Prop} [Decidable p] {x y:Option ρ} {Q:ρ->Prop} (h1:p->Po x Q) (h2:¬ p->Po y Q):Po (if p then x else y) Q:=by
 split
 ·exact h1 ‹_›
 exact h2 ‹_›
theorem Po.forX {α σ ρ:Type} {done:σ->Option ρ} {body:(σ->Option ρ)->α->Nat->σ->Option ρ} {Q:ρ->Prop} {l:List α} {s0:σ} (I:Nat->σ->Prop) (h0:I 0 s0) (hd :∀s,I l.length s->Po (done s) Q)
  (hs :∀(next:σ->Option ρ) x i s,l[i]?=some x->I i s->(∀s',I (i + 1) s'->Po (next s') Q)->Po (body next x i s) Q):Po (An done body l 0 s0) Q:=by
 have key :∀(t:List α) (i:Nat) (s:σ),(∃p,l=p++t/\p.length=i)->I i s->Po (An done body t i s) Q:=by
  intro t
  induction t with
  | nil=>intro i s ⟨p,hp,hl⟩ hi;exact hd s (by rw[hp];simpa[hl] using hi)
  | cons x t ih=>
   intro i s ⟨p,hp,hl⟩ hi
   exact hs _ x i s (by rw[hp,<- hl];simp) hi fun s' h'=>ih (i + 1) s' ⟨p++[x],by simp[hp],by simp[hl]⟩ h'
 exact key l 0 s0 ⟨[],rfl,rfl⟩ h0
theorem Po.for_ {α σ ρ:Type} {done:σ->Option ρ} {body:(σ->Option ρ)->α->Nat->σ->Option ρ} {Q:ρ->Prop} {l:List α} {s0:σ} (I:σ->Prop) (h0:I s0) (hd :∀s,I s->Po (done s) Q)
  (hs :∀(next:σ->Option ρ) x i s,x ∈ l->I s->(∀s',I s'->Po (next s') Q)->Po (body next x i s) Q):Po (An done body l 0 s0) Q:=
 .forX (fun _=>I) h0 hd fun n x i s hx=>hs n x i s (List.mem_of_getElem? hx)
theorem Po.apnd {α:Type} {b:Nat} {l m:List α}:Po (Go.AX.apnd b l m) fun r=>r=l++m:=by
 intro r e
 unfold Go.AX.apnd at e
 split at e
 ·exact (X25 e).symm
 cases e
theorem Po.geti {α:Type} {l:List α} {i:Int}:Po (Go.AX.geti l i) fun x=>0<=i/\l[i.toNat]?=some x:=by
 intro r e
 unfold Go.AX.geti at e
 split at e
 ·rename_i h
  exact⟨h.1,e⟩
 cases e
theorem Po.seti {α:Type} {l:List α} {i:Int} {x:α}:Po (Go.AX.seti l i x) fun r=>0<=i/\i.toNat<l.length/\r=l.set i.toNat x:=by
 intro r e
 unfold Go.AX.seti at e
 split at e
 ·rename_i h
  exact⟨h.1,by omega,(X25 e).symm⟩
 cases e
theorem Po.part {α:Type} {l:List α} {a b:Int}:Po (Go.AX.part l a b) fun r=>r=(l.drop a.toNat).take (b.toNat - a.toNat):=by
 intro r e
 unfold Go.AX.part at e
 split at e
 ·exact (X25 e).symm
 cases e
theorem Ok.and {ρ:Type} {m:Option ρ} {P Q:ρ->Prop} (h:Ok m P) (k:Po m Q):Ok m fun r=>P r/\Q r:=by
 obtain⟨r,h1,h2⟩:=h
 exact⟨r,h1,h2,k r h1⟩
theorem Ok.po {ρ:Type} {m:Option ρ} {P:ρ->Prop} (h:Ok m P):Po m P:=by
 obtain⟨r,h1,h2⟩:=h
 intro q e
 rw[h1] at e
 exact X25 e ▸ h2
theorem Po.sel {τ ρ:Type} {m:(τ->Option ρ)->Option ρ} {k:τ->Option ρ} {Q:ρ->Prop} (h1 :∀k',(∀v,Po (k' v) Q)->Po (m k') Q) (h2 :∀v,Po (k v) Q):Po (AI m k) Q:=h1 k h2
end Go.AX
end
section
namespace Go.AX.Q33
open Go Go.AX
set_option maxRecDepth 8000
def fl (t:Int):Int:=if t=1 then 64 else if t=2 then 64 else if t=3 then 64 else if t=4 then 128 else if t=5 then 64 else if t=8 then 192 else if t=32 then 192 else if t=35 then 192 else 0
def unk (t:Int):Bool:=decide (fl t=0)&&(decide (t≠14)&&decide (t≠15))
theorem Wu (t:Int):(Df I8 t).getD 0=fl t:=by
 unfold I8 fl
 simp only[Df,beq_iff_eq]
 repeat' (split;· rfl)
 rfl
theorem IH (t:Int):(t=1/\fl t=64)\/(t=2/\fl t=64)\/(t=3/\fl t=64)\/(t=4/\fl t=128)\/(t=5/\fl t=64)\/(t=8/\fl t=192)\/(t=32/\fl t=192)\/(t=35/\fl t=192) \/
  (t≠1/\t≠2/\t≠3/\t≠4/\t≠5/\t≠8/\t≠32/\t≠35/\fl t=0):=by
 unfold fl
 by_cases h1:t=1<;>by_cases h2:t=2<;>by_cases h3:t=3<;>by_cases h4:t=4<;>by_cases h5:t=5<;>by_cases h6:t=8<;>by_cases h7:t=32<;>by_cases h8:t=35<;>first | (exfalso;omega)|simp[h1,h2,h3,h4,h5,h6,h7,h8]
theorem Bi (t:Int):Dv t=some (fl t):=by
 unfold Dv
 simp only[AG,beq_iff_eq]
 rcases IH t with ⟨h,e⟩|⟨h,e⟩|⟨h,e⟩|⟨h,e⟩|⟨h,e⟩|⟨h,e⟩|⟨h,e⟩|⟨h,e⟩|⟨h1,h2,h3,h4,h5,h6,h7,h8,e⟩<;>rw[e]
 iterate 8 (subst h;rfl)
 simp[h1,h2,h3,h4,h5,h6,h7,h8]
theorem Y9 (t:Int) (k:Bool->Option Bool):(if (fl t==0)=true then if (cond true (t != 14) false)=true then k (cond true (t != 15) false) else k false else k false)=k (unk t):=by
 have e1:(t != 14)=!decide (t=14):=rfl
 have e2:(t != 15)=!decide (t=15):=rfl
 unfold unk
 rw[e1,e2]
 by_cases h1:fl t=0<;>by_cases h2:t=14<;>by_cases h3:t=15<;>simp[h1,h2,h3]
theorem Ge (t:Int):Ba t=some (unk t):=by
 unfold Ba
 rw[AG,Wu,AC]
 exact Y9 t some
theorem IK (t:Int):BQ t=some (unk t):=by
 unfold BQ
 rw[AG,Bi,AC]
 exact Y9 t some
theorem XN (a b c:Int):CV a b c=some (decide (b<=a)&&decide (a<=c)):=by
 unfold CV
 rw[AG]
 by_cases h:b<=a
 ·rw[if_pos (by simpa using h),decide_eq_true h];rfl
 rw[if_neg (by simpa using h),decide_eq_false h];rfl
theorem number_eq (a:Int):EV a=some (decide (1<=a)&&decide (a<=4294967295)):=by
 unfold EV
 rw[AG]
 by_cases h:1<=a
 ·rw[if_pos (by simpa using h),decide_eq_true h];rfl
 rw[if_neg (by simpa using h),decide_eq_false h];rfl
def bt (x m:Int):Int:=AK ((BitVec.ofInt 64 x &&& BitVec.ofInt 64 m).toNat:Int)
theorem Vg {n m:Int} (h:n % (2 ^ 64:Int)=m % (2 ^ 64:Int)):AK n=AK m:=
 congrArg (fun q:Int=>if (IntKind.i64.signed&&decide (q ≥ (2 ^ (IntKind.i64.bits - 1):Int)))=true then q - (2 ^ IntKind.i64.bits:Int) else q) h
theorem S8 (b:BitVec 64):AK (b.toNat:Int)=b.toInt:=by
 have h:=b.isLt
 have h1:=BitVec.toInt_eq_toNat_cond b
 have p1:(2:Int) ^ 64=18446744073709551616:=by decide
 have p2:((2 ^ 64:Nat):Int)=18446744073709551616:=by decide
 have p3:(2:Nat) ^ 64=18446744073709551616:=by decide
 rw[p2] at h1
 rw[p3] at h h1
 have h2:-9223372036854775808<=b.toInt/\b.toInt<=9223372036854775807:=by
  rw[h1];split<;>omega
 rw[Vg (m:=b.toInt) (by rw[p1,h1];split<;>omega),AQ h2]
theorem Q2 (b:BitVec 64):BitVec.ofInt 64 (AK (b.toNat:Int))=b:=by
 rw[S8,BitVec.ofInt_toInt]
theorem WC {f m:Int} (hf:f=64\/f=128\/f=192):(AK ((BitVec.ofInt 64 (AK ((BitVec.ofInt 64 m ^^^ BitVec.ofInt 64 f).toNat:Int)) &&& BitVec.ofInt 64 192).toNat:Int)==0)=(bt m 192==f):=by
 unfold bt
 rw[Q2,S8,S8,X28,beq_iff_eq,beq_iff_eq]
 have h0:(0:Int)=(0#64).toInt:=by decide
 have h1:f=(BitVec.ofInt 64 f &&& BitVec.ofInt 64 192).toInt:=by rcases hf with rfl | rfl | rfl<;>decide
 have hx:(BitVec.ofInt 64 m ^^^ BitVec.ofInt 64 f) &&& BitVec.ofInt 64 192=(BitVec.ofInt 64 m &&& BitVec.ofInt 64 192) ^^^ (BitVec.ofInt 64 f &&& BitVec.ofInt 64 192):=by
  apply BitVec.eq_of_getLsbD_eq
  intro i _
  simp only[BitVec.getLsbD_and,BitVec.getLsbD_xor]
  generalize (BitVec.ofInt 64 m).getLsbD i=x
  generalize (BitVec.ofInt 64 f).getLsbD i=y
  generalize (BitVec.ofInt 64 192).getLsbD i=z
  cases x<;>cases y<;>cases z<;>rfl
 rw[hx]
 conv=>rhs;rhs;rw[h1]
 rw[h0,BitVec.toInt_inj,BitVec.toInt_inj,BitVec.xor_eq_zero_iff]
def DN (x:JAB):Bool:=bt x.Flags 192==fl x.Type_&&(fl x.Type_==192 || bt x.Flags 32==0)
theorem BN (x:JAB) (h:fl x.Type_≠0):BC x=some (DN x):=by
 have hf:fl x.Type_=64\/fl x.Type_=128\/fl x.Type_=192:=by
  rcases IH x.Type_ with ⟨_,e⟩|⟨_,e⟩|⟨_,e⟩|⟨_,e⟩|⟨_,e⟩|⟨_,e⟩|⟨_,e⟩|⟨_,e⟩|h'<;>first | (rw[e];simp;done)|exact absurd h'.2.2.2.2.2.2.2.2 h
 unfold BC DN
 rw[AG,Wu]
 simp only[AC,WC hf]
 show (if (bt x.Flags 192==fl x.Type_)=true then if (fl x.Type_==192)=true then some true else some (cond true (cond false true (bt x.Flags 32==0)) false) else some false)=_
 cases (bt x.Flags 192==fl x.Type_)<;>cases (fl x.Type_==192)<;>rfl
def DR (b:List UInt8):Int:=b.foldl (fun n x=>AK ((BitVec.ofInt 64 (AK (n * (2 ^ (min (Int.toNat 8) 64)))) ||| BitVec.ofInt 64 (x.toNat:Int)).toNat:Int)) 0
theorem Yf {α σ ρ:Type} {K:σ->Option ρ} {g:σ->α->σ} :∀(l:List α) (i:Nat) (s:σ),An K (fun next x _ s=>next (g s x)) l i s=K (l.foldl g s)
 | [],_,_=>rfl
 | x::t,i,s=>Yf t (i + 1) (g s x)
theorem CW (b:List UInt8):Bl b=some (DR b):=by
 unfold Bl
 rw[AG]
 exact Yf (K:=some) b 0 0
theorem BB (b:List UInt8):Ak b=some (DR b):=by
 unfold Ak
 rw[AG]
 exact Yf (K:=some) b 0 0
def val (l:List UInt8):Nat:=l.foldl (fun m x=>m * 256 + x.toNat) 0
theorem MK (l:List UInt8) (x:UInt8):val (l++[x])=val l * 256 + x.toNat:=by simp[val]
theorem NN :∀l:List UInt8,val l<256 ^ l.length:=by
 intro l
 rw[<- List.reverse_reverse l]
 generalize l.reverse=m
 induction m with
 | nil=>decide
 | cons x t ih=>
  rw[List.reverse_cons,MK,X11,X22,Nat.pow_succ]
  have:=x.toNat_lt
  omega
theorem SK {u v:Nat} (hu:u<36028797018963968) (hv:v<256):AK ((BitVec.ofInt 64 (AK ((u:Int) * (2 ^ (min (Int.toNat 8) 64)))) ||| BitVec.ofInt 64 (v:Int)).toNat:Int)=((u * 256 + v:Nat):Int):=by
 have h1:((u:Int) * (2 ^ (min (Int.toNat 8) 64)))=((u * 256:Nat):Int):=by
  have:min (Int.toNat 8) 64=8:=rfl
  rw[this];omega
 rw[h1,AQ (x:=((u * 256:Nat):Int)) (by omega),BitVec.ofInt_natCast,BitVec.ofInt_natCast,BitVec.toNat_or,BitVec.toNat_ofNat,BitVec.toNat_ofNat,Nat.mod_eq_of_lt (show u * 256<2 ^ 64 by omega),Nat.mod_eq_of_lt (show v<2 ^ 64 by omega),
  show u * 256=2 ^ 8 * u by omega,<- Nat.two_pow_add_eq_or_of_lt (show v<2 ^ 8 by omega)]
 rw[AQ (by omega)]
theorem Gy :∀{l:List UInt8},l.length<=7->DR l=(val l:Int):=by
 intro l
 rw[<- List.reverse_reverse l]
 generalize l.reverse=m
 induction m with
 | nil=>intro _;rfl
 | cons x t ih=>
  intro h
  rw[List.reverse_cons] at h ⊢
  simp only[X11,List.length_reverse,X22] at h
  unfold DR at ih ⊢
  rw[List.foldl_append,ih (by simp;omega)]
  have h1:=NN t.reverse
  have h2:256 ^ t.reverse.length<=256 ^ 6:=Nat.pow_le_pow_right (by omega) (by simp;omega)
  show AK _=_
  rw[SK (by omega) x.toNat_lt,MK]
def nums:List UInt8->List Int
 | a::b::c::d::t=>DR [a,b,c,d]::nums t
 | _=>[]
theorem FQ (a b c d:UInt8) (t:List UInt8):nums (a::b::c::d::t)=DR [a,b,c,d]::nums t:=rfl
theorem VY :∀{l:List UInt8},l.length<4->nums l=[]
 | [],_=>rfl
 | [_],_=>rfl
 | [_,_],_=>rfl
 | [_,_,_],_=>rfl
 | _::_::_::_::_,h=>by simp at h;omega
theorem Fb :∀{l:List UInt8},4<=l.length->∃a b c d t,l=a::b::c::d::t
 | [],h=>by simp at h
 | [_],h=>by simp at h
 | [_,_],h=>by simp at h
 | [_,_,_],h=>by simp at h
 | a::b::c::d::t,_=>⟨a,b,c,d,t,rfl⟩
theorem E7 :∀l:List UInt8,(nums l).length=l.length / 4
 | a::b::c::d::t=>by
  rw[FQ,X12,E7 t]
  simp only[X12]
  omega
 | []=>rfl
 | [_]=>by simp[nums]
 | [_,_]=>by simp[nums]
 | [_,_,_]=>by simp[nums]
theorem MH :∀(l:List UInt8),∀n ∈ nums l,0<=n/\n<=4294967295
 | a::b::c::d::t=>by
  rw[FQ]
  intro n hn
  rcases List.mem_cons.1 hn with h | h
  ·have h1:=NN [a,b,c,d]
   rw[h,Gy (by simp)]
   simp only[X12,X13] at h1
   omega
  exact MH t n h
 | []=>by intro n h;simp[nums] at h
 | [_]=>by intro n h;simp[nums] at h
 | [_,_]=>by intro n h;simp[nums] at h
 | [_,_,_]=>by intro n h;simp[nums] at h
theorem Ed {b:List UInt8} (hb:b.length<=1000000000):B8 b=some (nums b):=by
 unfold B8
 rw[AG,CU (fun s:List UInt8×List Int=>s.1.length + 4 * s.2.length<=1000000000) (fun s=>s.1.length) (fun s=>some (s.2++nums s.1)) ?_ fuel (b,[]) (by simpa using hb) (Bo (by simp only;omega))]
 ·rfl
 rintro next ⟨v,o⟩ h hn
 dsimp only at h ⊢
 by_cases h4:4<=v.length
 ·obtain⟨x,y,z,w,t,rfl⟩:=Fb h4
  simp only[X12] at h
  rw[if_pos (by simp only[X12,decide_eq_true_eq];omega)]
  have e1:part (x::y::z::w::t) 0 4=some [x,y,z,w]:=by
   rw[show (0:Int)=((0:Nat):Int) by rfl,show (4:Int)=((4:Nat):Int) by rfl,BM (by omega) (by simp)]
   rfl
  have e2:part (x::y::z::w::t) 4 ((x::y::z::w::t).length:Int)=some t:=by
   rw[show (4:Int)=((4:Nat):Int) by rfl,BM (by simp) (by simp)]
   simp
  rw[e1,AC,CW,AC,Ag (by decide) (by simp only[X22];omega),AC,e2,AC,hn _ (by simp only[X11,X22];omega) (by simp only[X12];omega)]
  simp[FQ]
 rw[if_neg (by simp only[decide_eq_true_eq];omega),VY (by omega)]
 simp
end Go.AX.Q33
end
section
namespace Go.AX.Q33
open Go Go.AX
set_option maxRecDepth 8000
def ltI (a b:Int):Bool:=decide (a<b)
theorem Oi (a:Int):ltI a a=false:=by simp[ltI]
theorem Tc (a b c:Int) (h1:ltI a b=true) (h2:ltI b c=true):ltI a c=true:=by simp only[ltI,decide_eq_true_eq] at *;omega
theorem Wz (a b:Int) (h:ltI a b=false):a=b\/ltI b a=true:=by simp only[ltI,decide_eq_true_eq,decide_eq_false_iff_not] at *;omega
def Asc (l r:List Int):Prop:=r.Pairwise (fun a b=>ltI a b=true)/\∀x,x ∈ r↔x ∈ l
theorem Asc.uniq {l r s:List Int} (h:Asc l r) (k:Asc l s):r=s:=
 Il (lt:=fun a b=>ltI a b=true) (fun a=>by simp[Oi]) Tc h.1 k.1 fun x=>(h.2 x).trans (k.2 x).symm
theorem IZ {l:List Int} (hl:l.length<=1000000):Ok (EH l) (Asc l):=by
 unfold EH
 refine .join (Asc l) (fun k hk=>?_) fun r hr=>.ret hr
 refine .forX (fun i v=>v.Pairwise (fun a b=>ltI a b=true)/\(∀x,x ∈ v↔x ∈ l.take i)/\v.length<=i) ⟨.nil,by simp,by simp⟩ (fun v hv=>hk v ⟨hv.1,by simpa using hv.2.1⟩) fun next x i v hx hI hn=>?_
 obtain⟨i1,i2,i3⟩:=hI
 have hil:=(X16.1 hx).1
 have hmt :∀y,y ∈ l.take (i + 1)↔y ∈ l.take i\/y=x:=by
  intro y
  rw[List.take_add_one,hx]
  simp
 refine .join (fun v'=>v'.Pairwise (fun a b=>ltI a b=true)/\(∀x,x ∈ v'↔x ∈ l.take (i + 1))/\v'.length<=i + 1) (fun k6 hk6=>?_) fun v' h=>hn _ h
 have hpos:=GH (ltI · x) v
 rw[ad (p:=(ltI · x)) (fun y k4=>k4 (cond true (decide (y<x)) false)) (by omega) (fun y _ k=>rfl)]
 have hh:=YO Tc Oi (x:=x) i1
 obtain⟨t1,t2⟩:=takeWhile_take (ltI · x) v
 refine .join (fun c=>c=true↔x ∈ v) (fun k15 hk15=>?_) fun c hc=>.ite (fun h=>?_) fun h=>?_
 ·by_cases hk:(v.takeWhile (ltI · x)).length<v.length
  ·rw[if_pos (by simpa using hk),Bz hk,AC]
   refine hk15 _ ?_
   rw[hh,X15 hk]
   simp only[cond_true,beq_iff_eq,X24]
  rw[if_neg (by simpa using hk)]
  refine hk15 _ ?_
  rw[hh,List.getElem?_eq_none (by omega)]
  simp
 ·refine hk6 _ ⟨i1,fun y=>?_,by omega⟩
  rw[hmt,i2 y]
  refine⟨.inl,fun q=>q.elim id fun e=>?_⟩
  rw[e];exact (i2 x).1 (hc.1 h)
 have hnx:x ∉ v:=fun q=>h (hc.2 q)
 simp only[Int.toNat_natCast,Int.toNat_zero,List.drop_zero,Nat.sub_zero]
 refine .bind (Ok.chk (by omega)) fun _ _=>.bind (Ok.apnd (by decide) (by simp;omega)) fun _ _=>.bind (Ok.apnd (by decide) (by simp;omega)) fun a ha=>.bind (Ok.chk (by omega)) fun _ _=>.bind (Ok.apnd (by decide) (by rw[ha];simp;omega)) fun b hb=>hk6 _ ?_
 have e:b=KU ltI v x:=by
  have e2:(List.drop (v.takeWhile (ltI · x)).length v).take (v.length - (v.takeWhile (ltI · x)).length)=v.dropWhile (ltI · x):=by
   rw[List.take_of_length_le (by simp),t2]
  rw[hb,ha,e2,t1]
  unfold KU
  simp
 rw[e]
 refine⟨N4 Tc Wz i1 hnx,fun y=>?_,by rw[Uk];omega⟩
 rw[U5,hmt,i2]
def srt (l:List Int):List Int:=(EH l).getD []
theorem aZ {l:List Int} (hl:l.length<=1000000):EH l=some (srt l):=by
 obtain⟨r,h,_⟩:=IZ hl
 unfold srt;rw[h];rfl
theorem W0 {l:List Int} (hl:l.length<=1000000):Asc l (srt l):=by
 obtain⟨r,h,k⟩:=IZ hl
 unfold srt;rw[h];exact k
theorem T9 (l:List Int):BV l=J4 (fun a b=>a==b) 0 l:=rfl
theorem Qz {l:List Int} {ρ:Type} {K:List Int->Option ρ} (hl:l.length<=1000000):(Option.bind (Kr l) fun v=>Option.bind (BV v) K)=K (srt l):=by
 obtain⟨r,h,h1,h2⟩:=Xm (l:=l) (by omega)
 rw[h,AC,T9]
 obtain⟨c,g,g1,g2⟩:=Jr (lt:=ltI) (e:=fun a b:Int=>a==b) (zz:=0) Oi Tc Wz (fun a b=>beq_iff_eq) (l:=r) h2 (by rw[h1.length_eq];omega)
 rw[g,AC,Asc.uniq (l:=l) ⟨g1,fun x=>(g2 x).trans h1.mem_iff⟩ (W0 hl)]
def HF (p:List JAC) (set:Bool) (l:List Int):List JAC:=
 if set then p++[⟨true,srt l⟩] else match p.getLast? with
  | some s=>if s.Set then p++[⟨false,l⟩] else p.dropLast++[⟨false,s.ASNs++l⟩]
  | none=>[⟨false,l⟩]
def JL:Nat->List UInt8->List JAC->Option (List JAC)
 | _,[],p=>some p
 | n + 1,k::c::t,p=>if (k.toNat≠1/\k.toNat≠2)\/c.toNat=0\/t.length<4 * c.toNat then none else JL n (t.drop (4 * c.toNat)) (HF p (k.toNat==1) (nums (t.take (4 * c.toNat))))
 | _,_,_=>none
end Go.AX.Q33
end
section
namespace Go.AX.Q33
open Go Go.AX
set_option maxRecDepth 8000
theorem Na (n:Nat) (p:List JAC):JL n [] p=some p:=by cases n<;>rfl
theorem QC :∀(n m:Nat) (b:List UInt8) (p:List JAC),b.length<=n->b.length<=m->JL n b p=JL m b p
 | n,m,[],p,_,_=>by rw[Na,Na]
 | n + 1,m + 1,[x],p,_,_=>rfl
 | n + 1,m + 1,k::c::t,p,h1,h2=>by
  simp only[X12] at h1 h2
  simp only[JL]
  split
  ·rfl
  exact QC n m _ _ (by simp only[X17];omega) (by simp only[X17];omega)
 | 0,_,_::_,_,h,_=>by simp at h
 | _,0,_::_,_,_,h=>by simp at h
def rdL (b:List UInt8) (p:List JAC):Option (List JAC):=JL b.length b p
def H7 (k c:UInt8) (t:List UInt8):Bool:=decide ((k.toNat≠1/\k.toNat≠2)\/c.toNat=0\/t.length<4 * c.toNat)
theorem Z0 (p:List JAC):rdL [] p=some p:=rfl
theorem Ur (k c:UInt8) (t:List UInt8) (p:List JAC):rdL (k::c::t) p=if H7 k c t=true then none else rdL (t.drop (4 * c.toNat)) (HF p (k.toNat==1) (nums (t.take (4 * c.toNat)))):=by
 unfold rdL H7
 simp only[X12,JL,decide_eq_true_eq]
 split
 ·rfl
 exact QC _ _ _ _ (by simp only[X17];omega) (by simp only[X17];omega)
theorem Ru :∀(j:Nat) (t:List UInt8),4 * (j + 1)<=t.length->nums (t.take (4 * (j + 1)))=nums (t.take (4 * j))++[DR ((t.drop (4 * j)).take 4)]
 | 0,t,h=>by
  obtain⟨a,b,c,d,t,rfl⟩:=Fb (l:=t) (by omega)
  rfl
 | j + 1,t,h=>by
  obtain⟨a,b,c,d,t,rfl⟩:=Fb (l:=t) (by omega)
  simp only[X12] at h
  have e1:4 * (j + 1 + 1)=4 * (j + 1) + 1 + 1 + 1 + 1:=by omega
  have e2:4 * (j + 1)=4 * j + 1 + 1 + 1 + 1:=by omega
  have ih:=Ru j t (by omega)
  rw[e1]
  simp only[List.take_succ_cons,FQ]
  rw[ih,e2]
  simp only[List.take_succ_cons,List.drop_succ_cons,FQ,List.cons_append]
def Lk (p:List JAC) (i:Nat) (l:List Int):Prop:=p=[] \/∃q s,p=q++[⟨s,l⟩]/\i=q.length
theorem Fq {x:UInt8} {t:List UInt8}:geti (x::t) 0=some x:=Bz (l:=x::t) (i:=0) (by simp)
theorem Hg {x y:UInt8} {t:List UInt8}:geti (x::y::t) 1=some y:=Bz (l:=x::y::t) (i:=1) (by simp)
theorem Zj (c:UInt8):AK (2 + AK (4 * (c.toNat:Int)))=((2 + 4 * c.toNat:Nat):Int):=by
 have:=c.toNat_lt
 rw[AQ (x:=4 * (c.toNat:Int)) (by omega),AQ (by omega)]
 omega
theorem LL (p:List JAC) (l:List Int):HF p true l=p++[⟨true,srt l⟩]:=rfl
theorem LR (l:List Int):HF [] false l=[⟨false,l⟩]:=rfl
theorem Gq (q:List JAC) (m l:List Int):HF (q++[⟨true,m⟩]) false l=q++[⟨true,m⟩]++[⟨false,l⟩]:=by
 unfold HF;simp
theorem JK (q:List JAC) (m l:List Int):HF (q++[⟨false,m⟩]) false l=q++[⟨false,m++l⟩]:=by
 unfold HF;simp
theorem TE {l:List Int} (hl:l.length<=1000000):(srt l).length<=l.length:=by
 obtain⟨h1,h2⟩:=W0 hl
 refine R2 (h1.imp fun {a b} h e=>?_) fun x hx=>(h2 x).1 hx
 subst e
 rw[Oi] at h;simp at h
theorem SN {α:Type} {q:List α} {x:α} (h:q.length<=1000000000):AK (((q++[x]).length:Int) - 1)=(q.length:Int):=by
 rw[AQ (by simp;omega)]
 simp
theorem Wv {α:Type} (q:List α) (x y:α):seti (q++[x]) (q.length:Int) y=some (q++[y]):=by
 unfold seti
 rw[if_pos (by simp;omega)]
 simp
theorem Zy {k c:UInt8} {t:List UInt8} (hlen:t.length<=1000000) {ρ:Type} (K:Bool->Option ρ) :
  AI (τ:=Bool) (fun q=>if (decide (((k::c::t).length:Int)<2))=true then q true else
   Option.bind (geti (k::c::t) 0) fun v9=>
   if ((v9.toNat:Int) != 1)=true then
    Option.bind (geti (k::c::t) 0) fun v10=>
    if (cond false true (cond true ((v10.toNat:Int) != 2) false))=true then q true else
     Option.bind (geti (k::c::t) 1) fun v11=>
     if (cond false true ((v11.toNat:Int)==0))=true then q true else
      Option.bind (geti (k::c::t) 1) fun v12=>
      q (cond false true (decide (((k::c::t).length:Int)<(AK (2 + (AK (4 * (v12.toNat:Int))))))))
   else
    Option.bind (geti (k::c::t) 1) fun v13=>
    if (cond false true ((v13.toNat:Int)==0))=true then q true else
     Option.bind (geti (k::c::t) 1) fun v14=>
     q (cond false true (decide (((k::c::t).length:Int)<(AK (2 + (AK (4 * (v14.toNat:Int))))))))) K=K (H7 k c t):=by
 rw[AG,if_neg (by simp;omega)]
 simp only[Fq,Hg,AC,Zj,cond_true,cond_false]
 unfold H7
 have e :∀b:Bool,(bif false then true else b)=b:=fun b=>by cases b<;>rfl
 have e1:((k.toNat:Int) != 1)=decide (k.toNat≠1):=by rw[X28];simp;omega
 have e2:((k.toNat:Int) != 2)=decide (k.toNat≠2):=by rw[X28];simp;omega
 have e3:((c.toNat:Int)==0)=decide (c.toNat=0):=by rw[X28];simp
 have e4:decide (((k::c::t).length:Int)<((2 + 4 * c.toNat:Nat):Int))=decide (t.length<4 * c.toNat):=by rw[X28];simp only[X12,decide_eq_true_eq];omega
 rw[e1,e2,e3,e4]
 by_cases h1:k.toNat=1<;>by_cases h2:k.toNat=2<;>by_cases h3:c.toNat=0<;>by_cases h4:t.length < 4 * c.toNat<;>first | (exfalso;omega)|simp[h1,h2,h3,h4]
theorem ZB {k c:UInt8} {t:List UInt8} (hlen:t.length<=1000000) {ρ:Type} (K:Bool->Option ρ) :
  AI (τ:=Bool) (fun q=>if (decide (((k::c::t).length:Int)<2))=true then q true else
   Option.bind (geti (k::c::t) 0) fun v37=>
   if ((v37.toNat:Int) != 1)=true then
    Option.bind (geti (k::c::t) 0) fun v38=>
    if (cond false true (cond true ((v38.toNat:Int) != 2) false))=true then q true else
     Option.bind (geti (k::c::t) 1) fun v39=>
     if (cond false true (decide (((k::c::t).length:Int)<(AK (2 + (AK (4 * (v39.toNat:Int))))))))=true then q true else
      Option.bind (geti (k::c::t) 1) fun v40=>
      q (cond false true ((v40.toNat:Int)==0))
   else
    Option.bind (geti (k::c::t) 1) fun v41=>
    if (cond false true (decide (((k::c::t).length:Int)<(AK (2 + (AK (4 * (v41.toNat:Int))))))))=true then q true else
     Option.bind (geti (k::c::t) 1) fun v42=>
     q (cond false true ((v42.toNat:Int)==0))) K=K (H7 k c t):=by
 rw[AG,if_neg (by simp;omega)]
 simp only[Fq,Hg,AC,Zj,cond_true,cond_false]
 unfold H7
 have e1:((k.toNat:Int) != 1)=decide (k.toNat≠1):=by rw[X28];simp;omega
 have e2:((k.toNat:Int) != 2)=decide (k.toNat≠2):=by rw[X28];simp;omega
 have e3:((c.toNat:Int)==0)=decide (c.toNat=0):=by rw[X28];simp
 have e4:decide (((k::c::t).length:Int)<((2 + 4 * c.toNat:Nat):Int))=decide (t.length<4 * c.toNat):=by rw[X28];simp only[X12,decide_eq_true_eq];omega
 rw[e1,e2,e3,e4]
 by_cases h1:k.toNat=1<;>by_cases h2:k.toNat=2<;>by_cases h3:c.toNat=0<;>by_cases h4:t.length < 4 * c.toNat<;>first | (exfalso;omega)|simp[h1,h2,h3,h4]
theorem WR {p:List JAC} (hp:p.length<=1000000) {ρ:Type} (K:Bool->Option ρ) :
  AI (τ:=Bool) (fun q=>if (decide ((p.length:Int) > 0))=true then Option.bind (geti p (AK ((p.length:Int) - 1))) fun v=>q (cond true (!v.Set) false) else q false) K=K (match p.getLast? with | some s=>!s.Set | none=>false):=by
 rcases List.eq_nil_or_concat p with rfl | ⟨q,s,rfl⟩
 ·rfl
 rw[List.concat_eq_append] at hp ⊢
 rw[AG,if_pos (by simp),SN (by simp at hp;omega),KI,AC]
 simp
theorem XB {t:List UInt8} {c k:UInt8} {ρ:Type} {K:List Int->Option ρ} (h:4 * c.toNat<=t.length) (ht:t.length<=1000000) :
  AI (τ:=List Int) (fun q=>Av (fun (next18:Int×List Int->Option ρ) (x:Int×List Int)=>match x with
   | (v19,v20)=>if (decide (v19<(c.toNat:Int)))=true then
         Option.bind (part (k::c::t) (AK (2 + (AK (4 * v19)))) (AK (6 + (AK (4 * v19))))) fun v21=>
         Option.bind (Ak v21) fun v22=>
         Option.bind (apnd (α:=Int) 8 v20 ([v22]:List Int)) fun v23=>
         next18 ((AK (v19 + 1)),v23)
        else q v20) fuel (0,[])) K=K (nums (t.take (4 * c.toNat))):=by
 have hc:=c.toNat_lt
 rw[AG]
 refine (CU (fun s:Int×List Int=>∃j:Nat,s.1=j/\j<=c.toNat/\s.2=nums (t.take (4 * j))) (fun s=>(c.toNat - s.1).toNat) (fun _=>K (nums (t.take (4 * c.toNat)))) ?_ fuel (0,[]) ⟨0,rfl,Nat.zero_le _,rfl⟩ (Bo (by simp only;omega))).trans rfl
 rintro next ⟨v,l⟩ ⟨j,h1,h2,h3⟩ hn
 dsimp only at h1 h2 h3
 subst h1 h3
 by_cases hj:j<c.toNat
 ·show (if _ then _ else _)=_
  rw[if_pos (by simpa using hj)]
  have e1:AK (2 + AK (4 * (j:Int)))=((2 + 4 * j:Nat):Int):=by rw[AQ (x:=4 * (j:Int)) (by omega),AQ (by omega)];omega
  have e2:AK (6 + AK (4 * (j:Int)))=((6 + 4 * j:Nat):Int):=by rw[AQ (x:=4 * (j:Int)) (by omega),AQ (by omega)];omega
  have e3:((k::c::t).drop (2 + 4 * j)).take (6 + 4 * j - (2 + 4 * j))=(t.drop (4 * j)).take 4:=by
   rw[show 2 + 4 * j=4 * j + 1 + 1 by omega,List.drop_succ_cons,List.drop_succ_cons]
   congr 1
   omega
  rw[e1,e2,BM (by omega) (by simp;omega),AC,e3,BB,AC,Ag (by decide) (by rw[E7];simp;omega),AC,<- Ru j t (by omega),AQ (by omega)]
  exact hn _ ⟨j + 1,by simp,by omega,rfl⟩ (by simp only;omega)
 have:j=c.toNat:=by omega
 subst this
 show (if _ then _ else _)=_
 rw[if_neg (by simp)]
theorem RL {k c:UInt8} {t:List UInt8} (h:4 * c.toNat<=t.length):part (k::c::t) ((2 + 4 * c.toNat:Nat):Int) ((k::c::t).length:Int)=some (t.drop (4 * c.toNat)):=by
 rw[BM (by simp;omega) (Nat.le_refl _)]
 rw[show 2 + 4 * c.toNat=4 * c.toNat + 1 + 1 by omega,List.drop_succ_cons,List.drop_succ_cons,List.take_of_length_le (by simp)]
theorem Q0 {d:List UInt8} (hd:d.length<=1000000):GB d=match rdL d [] with | none=>some ([],false)|some p=>Option.bind (C5 p) fun v=>some (p,v):=by
 unfold GB
 rw[AG]
 refine (CU (fun s:List UInt8×List JAC×Nat×List Int=>Lk s.2.1 s.2.2.1 s.2.2.2/\s.1.length + s.2.1.length<=1000000/\s.1.length + s.2.2.2.length<=1000000) (fun s=>s.1.length)
  (fun s=>match rdL s.1 s.2.1 with | none=>some ([],false)|some p=>Option.bind (C5 p) fun v=>some (p,v)) ?_ fuel (d,[],0,[]) ⟨.inl rfl,by simpa using hd,by simpa using hd⟩ (Bo (by simp only;omega))).trans rfl
 rintro next ⟨b,p,i,l⟩ ⟨h1,h2,h3⟩ hn
 dsimp only at h1 h2 h3 ⊢
 match b,h2,h3,hn with
 | [],_,_,_=>rfl
 | [x],_,_,_=>rfl
 | k::c::t,h2,h3,hn=>
  simp only[X12] at h2 h3
  rw[if_pos (by simp;omega),Ur,AG,Zy (by omega)]
  by_cases hb:H7 k c t=true
  ·rw[if_pos hb,if_pos hb]
  rw[if_neg hb,if_neg hb]
  have hb':(k.toNat=1\/k.toNat=2)/\1<=c.toNat/\4 * c.toNat<=t.length:=by
   simp only[H7,decide_eq_true_eq] at hb
   omega
  obtain⟨b1,b2,b3⟩:=hb'
  have hc:=c.toNat_lt
  rw[Hg,AC,XB b3 (by omega),Fq,AC]
  have hnl:(nums (t.take (4 * c.toNat))).length=c.toNat:=by rw[E7,X18];omega
  generalize hm:nums (t.take (4 * c.toNat))=m at *
  have hdl:(t.drop (4 * c.toNat)).length=t.length - 4 * c.toNat:=X17
  have hrest :∀v41 v42 v43,(Option.bind (some c) fun v44=>Option.bind (part (k::c::t) (AK (2 + (AK (4 * (v44.toNat:Int))))) ((k::c::t).length:Int)) fun v45=>next (v45,v41,v42,v43))=next (t.drop (4 * c.toNat),v41,v42,v43):=by
   intro v41 v42 v43
   rw[AC,Zj,RL b3,AC]
  rw[AG]
  rcases b1 with b1 | b1
  ·rw[if_pos (by rw[b1];rfl),aZ (by omega),AC,Ag (by decide) (by simp;omega),AC]
   have e:(k.toNat==1)=true:=by rw[b1];rfl
   rw[e,LL]
   have:=TE (l:=m) (by omega)
   exact (hrest _ _ _).trans (hn (_,p++[⟨true,srt m⟩],_,srt m) ⟨.inr ⟨_,_,rfl,by simp⟩,by simp only[X11,X22,hdl];omega,by simp only[hdl];omega⟩ (by simp only[hdl,X12];omega))
  have e:(k.toNat==1)=false:=by rw[b1];rfl
  rw[if_neg (by rw[b1];decide),WR (by omega),AG,e]
  rcases h1 with rfl | ⟨q,s,rfl,rfl⟩
  ·rw[if_neg (by simp),Ag (by decide) (by simp),AC,LR]
   exact (hrest _ _ _).trans (hn _ ⟨.inr ⟨[],false,rfl,rfl⟩,by simp only[X11,X22,X13,hdl];omega,by simp only[hdl];omega⟩ (by simp only[hdl,X12];omega))
  simp only[X11,X22] at h2
  cases s
  ·rw[if_pos (by simp),SN (by omega),KI,AC]
   rw[Int.toNat_natCast]
   have ck:chk (q.length=q.length)=some ():=by unfold chk;rw[if_pos rfl]
   rw[ck,AC,Ag (by decide) (by omega),AC,AC,Wv,AC,JK]
   exact (hrest _ _ _).trans (hn (_,q++[⟨false,l++m⟩],_,l++m) ⟨.inr ⟨q,false,rfl,rfl⟩,by simp only[X11,X22,hdl];omega,by simp only[hdl,X11];omega⟩ (by simp only[hdl,X12];omega))
  rw[if_neg (by simp),Ag (by decide) (by simp;omega),AC,Gq]
  exact (hrest _ _ _).trans (hn (_,q++[⟨true,l⟩]++[⟨false,m⟩],_,m) ⟨.inr ⟨q++[⟨true,l⟩],false,rfl,by simp⟩,by simp only[X11,X22,hdl];omega,by simp only[hdl];omega⟩ (by simp only[hdl,X12];omega))
end Go.AX.Q33
end
section
namespace Go.AX
set_option maxRecDepth 8000
section
variable {α ρ:Type}
def chainB (lt:α->α->Bool):List α->Bool
 | x::y::t=>lt x y&&chainB lt (y::t)
 | _=>true
theorem Jo (lt:α->α->Bool) (x y:α) (t:List α):chainB lt (x::y::t)=(lt x y&&chainB lt (y::t)):=rfl
theorem QT (lt:α->α->Bool) (x:α):chainB lt [x]=true:=rfl
theorem NE {lt:α->α->Bool} (htr :∀a b c,lt a b=true->lt b c=true->lt a c=true) :∀{l:List α},chainB lt l=true↔l.Pairwise fun a b=>lt a b=true
 | []=>by simp[chainB]
 | [x]=>by simp[chainB]
 | x::y::t=>by
  rw[Jo,X27,NE htr (l:=y::t),List.pairwise_cons (a:=x)]
  constructor
  ·rintro⟨h1,h2⟩
   refine⟨fun z hz=>?_,h2⟩
   rcases List.mem_cons.1 hz with e | hz
   ·rw[e];exact h1
   exact htr _ _ _ h1 ((List.pairwise_cons.1 h2).1 z hz)
  rintro⟨h1,h2⟩
  exact⟨h1 y (by simp),h2⟩
theorem cA {ok:α->Bool} {lt:α->α->Bool} {l:List α} {K:Unit->Option ρ} {F:Option ρ} {body:(Unit->Option ρ)->α->Nat->Unit->Option ρ} (hl:l.length<=1000000000000)
  (h0 :∀next x,x ∈ l->body next x 0 ()=if ok x then next () else F)
  (h1 :∀next x y i,x ∈ l->y ∈ l->geti l (AK (((i + 1:Nat):Int) - 1))=some y->body next x (i + 1) ()=if ok x&&lt y x then next () else F) :
  An K body l 0 ()=if l.all ok&&chainB lt l then K () else F:=by
 have key :∀(t p:List α) (y:α),l=p++y::t->An K body t (p.length + 1) ()=if t.all ok&&chainB lt (y::t) then K () else F:=by
  intro t
  induction t with
  | nil=>intro p y _;rw[QT];rfl
  | cons x t ih=>
   intro p y e
   show body (fun s=>An K body t (p.length + 1 + 1) s) x (p.length + 1) ()=_
   have hlen:p.length<l.length:=by rw[e];simp
   rw[h1 _ x y p.length (by rw[e];simp) (by rw[e];simp) (by
    rw[AQ (by omega),show ((p.length + 1:Nat):Int) - 1=(p.length:Int) by omega,e]
    exact KI p y (x::t))]
   have:=ih (p++[y]) x (by rw[e];simp)
   rw[X11,X22] at this
   rw[this,Jo,List.all_cons]
   generalize chainB lt (x::t)=c1
   generalize t.all ok=c2
   cases ok x<;>cases lt y x<;>cases c1<;>cases c2<;>rfl
 match l,h0,h1,key with
 | [],_,_,_=>rfl
 | x::t,h0,_,key=>
  show body (fun s=>An K body t (0 + 1) s) x 0 ()=_
  rw[h0 _ x (by simp)]
  have:=key t [] x rfl
  rw[X13] at this
  rw[this,List.all_cons]
  generalize chainB lt (x::t)=c1
  generalize t.all ok=c2
  cases ok x<;>cases c1<;>cases c2<;>rfl
theorem b7 {σ:Type} {g:σ->α->σ} {ok:α->Bool} {lt:α->α->Bool} {l:List α} {s0:σ} {K:σ->Option ρ} {F:Option ρ} {body:(σ->Option ρ)->α->Nat->σ->Option ρ} (hl:l.length<=1000000000000)
  (h0 :∀next x s,x ∈ l->body next x 0 s=if ok x then next (g s x) else F)
  (h1 :∀next x y i s,x ∈ l->y ∈ l->geti l (AK (((i + 1:Nat):Int) - 1))=some y->body next x (i + 1) s=if ok x&&lt y x then next (g s x) else F) :
  An K body l 0 s0=if l.all ok&&chainB lt l then K (l.foldl g s0) else F:=by
 have key :∀(t p:List α) (y:α) (s:σ),l=p++y::t->An K body t (p.length + 1) s=if t.all ok&&chainB lt (y::t) then K (t.foldl g s) else F:=by
  intro t
  induction t with
  | nil=>intro p y s _;rw[QT];rfl
  | cons x t ih=>
   intro p y s e
   show body (fun s=>An K body t (p.length + 1 + 1) s) x (p.length + 1) s=_
   have hlen:p.length<l.length:=by rw[e];simp
   rw[h1 _ x y p.length s (by rw[e];simp) (by rw[e];simp) (by
    rw[AQ (by omega),show ((p.length + 1:Nat):Int) - 1=(p.length:Int) by omega,e]
    exact KI p y (x::t))]
   have:=ih (p++[y]) x (g s x) (by rw[e];simp)
   rw[X11,X22] at this
   rw[this,Jo,List.all_cons,List.foldl_cons]
   generalize chainB lt (x::t)=c1
   generalize t.all ok=c2
   cases ok x<;>cases lt y x<;>cases c1<;>cases c2<;>rfl
 match l,h0,h1,key with
 | [],_,_,_=>rfl
 | x::t,h0,_,key=>
  show body (fun s=>An K body t (0 + 1) s) x 0 s0=_
  rw[h0 _ x s0 (by simp)]
  have:=key t [] x (g s0 x) rfl
  rw[X13] at this
  rw[this,List.all_cons,List.foldl_cons]
  generalize chainB lt (x::t)=c1
  generalize t.all ok=c2
  cases ok x<;>cases c1<;>cases c2<;>rfl
theorem bJ {β:Type} {g:β->List α} {N:Nat} {body:(List α->Option ρ)->β->Nat->List α->Option ρ} {K:List α->Option ρ} :∀{l:List β} {i:Nat} {v:List α},v.length + (l.flatMap g).length<=N->
  (∀next x i v,x ∈ l->v.length + (g x).length<=N->body next x i v=next (v++g x))->An K body l i v=K (v++l.flatMap g)
 | [],i,v,_,_=>by rw[List.flatMap_nil,List.append_nil];rfl
 | x::t,i,v,h,hb=>by
  rw[List.flatMap_cons,X11] at h
  show body (fun s=>An K body t (i + 1) s) x i v=_
  rw[hb _ x i v (by simp) (by omega),bJ (l:=t) (by rw[X11];omega) fun next y j w hy hw=>hb next y j w (X19 _ hy) hw,List.flatMap_cons,List.append_assoc]
def canon (e lt:α->α->Bool) (l:List α):List α:=l.foldl (fun acc x=>if acc.any (fun y=>e y x) then acc else KU lt acc x) []
theorem K2 (e lt:α->α->Bool) (l:List α) (x:α):canon e lt (l++[x])=if (canon e lt l).any (fun y=>e y x) then canon e lt l else KU lt (canon e lt l) x:=by
 unfold canon
 rw[List.foldl_append]
 rfl
theorem LG {e lt:α->α->Bool} (he :∀a b,e a b=true↔a=b) (htr :∀a b c,lt a b=true->lt b c=true->lt a c=true) (htot :∀a b,lt a b=false->a=b\/lt b a=true) (l:List α) :
  (canon e lt l).Pairwise (fun a b=>lt a b=true)/\(∀x,x ∈ canon e lt l↔x ∈ l)/\(canon e lt l).length<=l.length:=by
 rw[<- List.reverse_reverse l]
 generalize l.reverse=m
 induction m with
 | nil=>exact⟨.nil,by simp[canon],by simp[canon]⟩
 | cons x t ih=>
  obtain⟨h1,h2,h3⟩:=ih
  rw[List.reverse_cons,K2]
  by_cases hx:(canon e lt t.reverse).any (fun y=>e y x)=true
  ·rw[if_pos hx]
   obtain⟨y,hy,hyx⟩:=List.any_eq_true.1 hx
   have:=(he _ _).1 hyx
   subst this
   refine⟨h1,fun z=>?_,by simp only[X11];omega⟩
   rw[X23,h2 z,X14]
   refine⟨.inl,fun q=>q.elim id fun e=>?_⟩
   rw[e];exact (h2 _).1 hy
  rw[if_neg hx]
  have hx:x ∉ canon e lt t.reverse:=fun q=>hx (List.any_eq_true.2 ⟨x,q,(he _ _).2 rfl⟩)
  refine⟨N4 htr htot h1 hx,fun z=>?_,by rw[Uk];simp only[X11,X22];omega⟩
  rw[U5,X23,h2 z,X14]
theorem PS {e lt:α->α->Bool} (he :∀a b,e a b=true↔a=b) (hirr :∀a,lt a a=false) (htr :∀a b c,lt a b=true->lt b c=true->lt a c=true) (htot :∀a b,lt a b=false->a=b\/lt b a=true)
  {l r:List α} (h1:r.Pairwise fun a b=>lt a b=true) (h2 :∀x,x ∈ r↔x ∈ l):r=canon e lt l:=by
 obtain⟨g1,g2,_⟩:=LG he htr htot l
 exact Il (lt:=fun a b=>lt a b=true) (fun a h=>by rw[hirr] at h;simp at h) htr h1 g1 fun x=>(h2 x).trans (g2 x).symm
end
end Go.AX
end
section
namespace Go.AX.Q33
open Go Go.AX
set_option maxRecDepth 8000
theorem KH (a b:Int):cmp_Compare_int a b=some (Yg a b):=by
 unfold cmp_Compare_int cmp_isNaN_int Yg
 simp only[AC,bne_self_eq_false,Bool.false_eq_true,if_false,decide_eq_true_eq,gt_iff_lt]
 split<;>(try split)<;>rfl
theorem ZP (l:List Int):Eh l=some (orI l):=by
 unfold Eh
 rw[AG]
 have key :∀(l:List Int) (i:Nat),An (σ:=Unit) (fun _=>some (0:Int)) (fun next x _ _=>if (x != 0)=true then some x else next ()) l i ()=some (orI l):=by
  intro l
  induction l with
  | nil=>intro i;rfl
  | cons x t ih=>
   intro i
   show (if (x != 0)=true then some x else An _ _ t (i + 1) ())=_
   rw[ih]
   rw[Ua]
   by_cases h:x=0<;>simp[h]
 exact key l 0
def O7 (c:JAA):List Int:=[c.A,c.B]
def O0 (c:JAE):List Int:=[c.A,c.B,c.C]
theorem PE (a b:JAA):(O7 a).length=(O7 b).length:=rfl
theorem QN (a b:JAE):(O0 a).length=(O0 b).length:=rfl
theorem ZN {a b:JAA} (h:O7 a=O7 b):a=b:=by
 simp only[O7,List.cons.injEq,and_true] at h
 cases a;cases b;simp_all
theorem X4 {a b:JAE} (h:O0 a=O0 b):a=b:=by
 simp only[O0,List.cons.injEq,and_true] at h
 cases a;cases b;simp_all
def Jp:JAA->JAA->Bool:=ltK O7
def JX:JAE->JAE->Bool:=ltK O0
theorem Uu (a:JAA):Jp a a=false:=MD a
theorem T0 (a:JAE):JX a a=false:=MD a
theorem Ol (a b c:JAA) (h1:Jp a b=true) (h2:Jp b c=true):Jp a c=true:=Nb PE a b c h1 h2
theorem Oq (a b c:JAE) (h1:JX a b=true) (h2:JX b c=true):JX a c=true:=Nb QN a b c h1 h2
theorem P4 (a b:JAA) (h:Jp a b=false):a=b\/Jp b a=true:=(L8 PE a b h).imp_left ZN
theorem QB (a b:JAE) (h:JX a b=false):a=b\/JX b a=true:=(L8 QN a b h).imp_left X4
theorem bP (a b:JAA):JAA.eqd a b=true↔a=b:=by
 unfold JAA.eqd
 simp only[X27,Bool.and_true,beq_iff_eq]
 constructor
 ·rintro⟨h1,h2⟩;cases a;cases b;simp_all
 rintro rfl;exact⟨rfl,rfl⟩
theorem bL (a b:JAE):JAE.eqd a b=true↔a=b:=by
 unfold JAE.eqd
 simp only[X27,Bool.and_true,beq_iff_eq]
 constructor
 ·rintro⟨h1,h2,h3⟩;cases a;cases b;simp_all
 rintro rfl;exact⟨rfl,rfl,rfl⟩
theorem UK (a b:JAA):Do a b=some (Fj (O7 a) (O7 b)):=by
 unfold Do
 rw[KH,AC,KH,AC,ZP,AC,MA,MA]
 rfl
theorem T8 (a b:JAE):B7 a b=some (Fj (O0 a) (O0 b)):=by
 unfold B7
 rw[KH,AC,KH,AC,KH,AC,ZP,AC,MA,MA,MA]
 rfl
theorem XU (a b:JAA):BJ a b=some (Fj (O7 a) (O7 b)):=UK a b
theorem XQ (a b:JAE):CL a b=some (Fj (O0 a) (O0 b)):=T8 a b
theorem UL (a b:JAA):EM a b=some (Jp a b):=by
 unfold EM Jp ltK O7
 rw[AG]
 simp only[Fj,decide_eq_true_eq,beq_iff_eq,cond_true,cond_false]
 by_cases a1:a.A < b.A<;>by_cases a2:a.A=b.A<;>by_cases a3:b.A < a.A<;>by_cases b1:a.B < b.B<;>by_cases b3:b.B < a.B<;>first | (exfalso;omega)|simp[a1,a2,a3,b1,b3]
theorem UC (a b:JAE):Bm a b=some (JX a b):=by
 unfold Bm JX ltK O0
 simp only[AG]
 simp only[Fj,decide_eq_true_eq,beq_iff_eq,cond_true,cond_false]
 by_cases a1:a.A < b.A<;>by_cases a2:a.A=b.A<;>by_cases a3:b.A < a.A<;>by_cases b1:a.B < b.B<;>by_cases b2:a.B=b.B<;>by_cases b3:b.B < a.B<;>by_cases c1:a.C < b.C<;>by_cases c3:b.C < a.C<;>first | (exfalso;omega)|simp[a1,a2,a3,b1,b2,b3,c1,c3]
def inR (m x:Int):Bool:=decide (0<=x)&&decide (x<=m)
def okC (c:JAA):Bool:=inR 65535 c.A&&inR 65535 c.B
def okL (c:JAE):Bool:=inR 4294967295 c.A&&(inR 4294967295 c.B&&inR 4294967295 c.C)
theorem SG (c:JAA):EG c=some (okC c):=by
 unfold EG okC inR
 rw[AG]
 simp only[decide_eq_true_eq,cond_true,ge_iff_le]
 by_cases a1:0<=c.A<;>by_cases a2:c.A<=65535<;>by_cases a3:0<=c.B<;>by_cases a4:c.B<=65535<;>simp[a1,a2,a3,a4]
theorem Rh (c:JAE):By c=some (okL c):=by
 unfold By okL inR
 rw[AG]
 simp only[decide_eq_true_eq,cond_true,ge_iff_le]
 by_cases a1:0<=c.A<;>by_cases a2:c.A<=4294967295<;>by_cases a3:0<=c.B<;>by_cases a4:c.B<=4294967295<;>by_cases a5:0<=c.C<;>by_cases a6:c.C<=4294967295<;>simp[a1,a2,a3,a4,a5,a6]
theorem mmR {g:Int->Int->Int} {x:Int} {t:List Int} (hl:t.length<=1000000000) :
  AI (τ:=Int) (fun k2=>Av (σ:=Int×Int) (fun next3 p=>match p with
   | (v4,v5)=>if (decide (v5<((x::t).length:Int)))=true then Option.bind (geti (x::t) v5) fun v6=>next3 (g v4 v6,(AK (v5 + 1))) else k2 v4) fuel (x,1)) (fun v=>some v)=some (t.foldl g x):=by
 rw[AG]
 refine (CU (fun s:Int×Int=>∃j:Nat,s.2=(j + 1:Nat)/\j<=t.length) (fun s=>((x::t).length - s.2).toNat) (fun s=>some ((t.drop (s.2.toNat - 1)).foldl g s.1)) ?_ fuel (x,1) ⟨0,rfl,Nat.zero_le _⟩ (Bo (by simp;omega))).trans rfl
 rintro next ⟨m,i⟩ ⟨j,h1,h2⟩ hn
 dsimp only at h1
 subst h1
 dsimp only
 have e1:((j + 1:Nat):Int).toNat - 1=j:=by omega
 rw[e1]
 by_cases hj:j<t.length
 ·rw[if_pos (by simp only[X12,decide_eq_true_eq];omega),Bz (by simp;omega),AC,AQ (by omega)]
  rw[hn _ ⟨j + 1,by simp,by omega⟩ (by simp only[X12];omega)]
  have e2:(((j + 1:Nat):Int) + 1).toNat - 1=j + 1:=by omega
  simp only[e2,List.getElem_cons_succ]
  rw[List.drop_eq_getElem_cons hj,List.foldl_cons]
 rw[if_neg (by simp only[X12,decide_eq_true_eq];omega),List.drop_eq_nil_of_le (by omega)]
 rfl
def mn (a b:Int):Int:=if b<a then b else a
def mx (a b:Int):Int:=if b > a then b else a
theorem bU {x:Int} {t:List Int} (hl:t.length<=1000000000):DO (x::t)=some (t.foldl mn x):=by
 unfold DO
 rw[if_neg (by simp;omega),show geti (x::t) 0=some x from Bz (l:=x::t) (i:=0) (by simp),AC]
 exact mmR (g:=mn) hl
theorem bG {x:Int} {t:List Int} (hl:t.length<=1000000000):DV (x::t)=some (t.foldl mx x):=by
 unfold DV
 rw[if_neg (by simp;omega),show geti (x::t) 0=some x from Bz (l:=x::t) (i:=0) (by simp),AC]
 exact mmR (g:=mx) hl
theorem Ym (n:Int) :∀(t:List Int) (x:Int),decide (n<=t.foldl mn x)=(x::t).all fun y=>decide (n<=y)
 | [],x=>by rw[List.all_cons,List.all_nil,Bool.and_true];rfl
 | y::t,x=>by
  rw[List.foldl_cons,Ym n t (mn x y)]
  simp only[List.all_cons]
  unfold mn
  rw[X28]
  simp only[X27,decide_eq_true_eq]
  constructor
  ·rintro⟨h1,h2⟩;split at h1<;>exact⟨by omega,by omega,h2⟩
  rintro⟨h1,h2,h3⟩;split<;>exact⟨by omega,h3⟩
theorem Y5 (n:Int) :∀(t:List Int) (x:Int),decide (t.foldl mx x<=n)=(x::t).all fun y=>decide (y<=n)
 | [],x=>by rw[List.all_cons,List.all_nil,Bool.and_true];rfl
 | y::t,x=>by
  rw[List.foldl_cons,Y5 n t (mx x y)]
  simp only[List.all_cons]
  unfold mx
  rw[X28]
  simp only[X27,decide_eq_true_eq]
  constructor
  ·rintro⟨h1,h2⟩;split at h1<;>exact⟨by omega,by omega,h2⟩
  rintro⟨h1,h2,h3⟩;split<;>exact⟨by omega,h3⟩
theorem QI {m x:Int} {t:List Int} (hl:t.length<=1000000000):DK m (x::t)=some ((x::t).all (inR m)):=by
 unfold DK
 rw[AG,bU hl,AC,bG hl]
 have e:(x::t).all (inR m)=(decide (0<=t.foldl mn x)&&decide (t.foldl mx x<=m)):=by
  rw[Ym,Y5,X28,X27]
  simp only[List.all_eq_true,inR,X27]
  exact⟨fun h=>⟨fun y hy=>(h y hy).1,fun y hy=>(h y hy).2⟩,fun h y hy=>⟨h.1 y hy,h.2 y hy⟩⟩
 rw[e]
 by_cases h:0<=t.foldl mn x
 ·rw[if_pos (by simpa using h),AC,decide_eq_true h];rfl
 rw[if_neg (by simpa using h),decide_eq_false h];rfl
theorem ZS (c:JAA):Eg c=some (okC c):=by
 unfold Eg
 rw[QI (by simp),AC]
 simp[okC]
theorem Yv (c:JAE):DF c=some (okL c):=by
 unfold DF
 rw[QI (by simp),AC]
 simp[okL]
def Jj (l:List JAA):Bool:=l.all okC&&chainB Jp l&&decide (l.length<=64)
def J6 (l:List JAE):Bool:=l.all okL&&chainB JX l&&decide (l.length<=64)
theorem aM {X:Type} {key:X->List Int} (a b:X):decide (Fj (key a) (key b) ≥ 0)=!ltK key a b:=by
 unfold ltK
 rw[X28]
 simp
theorem Z7 {α:Type} {ok:α->Bool} {lt:α->α->Bool} {l:List α} (hl:l.length<=1000000000) {body:(Unit->Option Bool)->α->Nat->Unit->Option Bool}
  (h :∀next x i,body next x i ()=AI (τ:=Bool) (fun k5=>Option.bind (some (ok x)) fun v6=>if (!v6)=true then k5 true else if (decide ((i:Int) > 0))=true then Option.bind (geti l (AK ((i:Int) - 1))) fun v7=>Option.bind (some (lt v7 x)) fun v8=>k5 (cond false true (cond true (!v8) false)) else k5 false) fun v9=>if v9=true then some false else next ()) :
  (AI (τ:=Unit) (fun k1=>An (σ:=Unit) (fun _=>k1 ()) body l 0 ()) fun _=>some (decide ((l.length:Int)<=64)))=some (l.all ok&&chainB lt l&&decide (l.length<=64)):=by
 rw[AG,cA (ok:=ok) (lt:=lt) (F:=some false) (by omega)]
 ·have e:decide ((l.length:Int)<=64)=decide (l.length<=64):=by rw[X28];simp;omega
  rw[e]
  generalize (l.all ok&&chainB lt l)=b
  cases b<;>rfl
 ·intro next x _
  rw[h,AG,AC]
  cases ok x<;>rfl
 intro next x y i _ _ hg
 rw[h,AG,AC,hg,AC,AC,if_pos (show decide (((i + 1:Nat):Int) > 0)=true by simp)]
 cases ok x<;>cases lt y x<;>rfl
theorem P6 {l:List JAA} (hl:l.length<=1000000000):Du l=some (Jj l):=by
 unfold Du Jj
 exact Z7 hl fun next x i=>by simp only[SG,UL]
theorem KO {l:List JAE} (hl:l.length<=1000000000):BY l=some (J6 l):=by
 unfold BY J6
 exact Z7 hl fun next x i=>by simp only[Rh,UC]
theorem Ld {l:List JAA} (hl:l.length<=1000000000):ES l=some (Jj l):=by
 unfold ES AY Jj
 rw[Z7 (ok:=okC) (lt:=Jp) hl fun next x i=>by simp only[ZS,UK,AC,aM];rfl]
 rfl
theorem IL {l:List JAE} (hl:l.length<=1000000000):Cj l=some (J6 l):=by
 unfold Cj AT J6
 rw[Z7 (ok:=okL) (lt:=JX) hl fun next x i=>by simp only[Yv,T8,AC,aM];rfl]
 rfl
theorem V5 {l:List JAA}:Jj l=true↔(∀c ∈ l,okC c=true)/\(l.Pairwise fun a b=>Jp a b=true)/\l.length<=64:=by
 unfold Jj
 rw[X27,X27,NE Ol,List.all_eq_true,decide_eq_true_eq,and_assoc]
theorem V9 {l:List JAE}:J6 l=true↔(∀c ∈ l,okL c=true)/\(l.Pairwise fun a b=>JX a b=true)/\l.length<=64:=by
 unfold J6
 rw[X27,X27,NE Oq,List.all_eq_true,decide_eq_true_eq,and_assoc]
end Go.AX.Q33
end
section
namespace Go.AX.Q33
open Go Go.AX
set_option maxRecDepth 8000
theorem ah {α:Type} {e:α->α->Bool} {x:α} :∀(l:List α) (i:Nat),An (σ:=Unit) (fun _=>some false) (fun (next:Unit->Option Bool) (y:α) _ _=>if e y x=true then some true else next ()) l i ()=some (l.any fun y=>e y x)
 | [],_=>rfl
 | y::t,i=>by
  show (if e y x=true then some true else An _ _ t (i + 1) ())=_
  rw[ah t (i + 1),List.any_cons]
  cases e y x<;>rfl
theorem SO (l:List JAA) (c:JAA):F9 l c=some (l.any fun y=>JAA.eqd y c):=by
 unfold F9
 rw[AG]
 exact ah l 0
theorem Ln (l:List JAE) (c:JAE):DW l c=some (l.any fun y=>JAE.eqd y c):=by
 unfold DW
 rw[AG]
 exact ah l 0
theorem Oy {α:Type} {l:List α} {n:Nat} (h:n<=l.length):part l 0 (n:Int)=some (l.take n):=by
 have:=BM (l:=l) (a:=0) (b:=n) (by omega) h
 simpa using this
theorem Dx {α:Type} {l:List α} {n:Nat} (h:n<=l.length):part l (n:Int) (l.length:Int)=some (l.drop n):=by
 rw[BM h (Nat.le_refl _),List.take_of_length_le (by simp)]
theorem UY {α:Type} {b:Nat} {lt:α->α->Bool} {l:List α} {x:α} (hb:Nat.ble b 65536=true) (hl:l.length + 1<=1000000000) {ρ:Type} {K:List α->Option ρ} :
  (Option.bind (part l 0 ((l.takeWhile (lt · x)).length:Int)) fun v14=>Option.bind (apnd (α:=α) b [] v14) fun _=>Option.bind (apnd (α:=α) b v14 ([x]:List α)) fun v15=>Option.bind (part l ((l.takeWhile (lt · x)).length:Int) (l.length:Int)) fun v16=>Option.bind (apnd (α:=α) b v15 v16) K)=K (KU lt l x):=by
 have ht:=GH (lt · x) l
 obtain⟨h1,h2⟩:=takeWhile_take (lt · x) l
 rw[Oy (by omega),AC,Ag hb (by simp;omega),AC,Ag hb (by simp;omega),AC,Dx (by omega),AC,Ag hb (by simp;omega),AC,h1,h2]
 unfold KU
 simp
def NI:List JAA->List JAA:=canon JAA.eqd Jp
def NC:List JAE->List JAE:=canon JAE.eqd JX
theorem TZ {l:List JAA} {c:JAA} (hv:Jj l=true) (hc:okC c=true) (hl:l.length<64):GA l c=some (if l.any (fun y=>JAA.eqd y c)=true then l else KU Jp l c,0):=by
 unfold GA
 rw[AG,P6 (by omega),AC,hv,if_neg (by decide),SG,AC,hc]
 show (if (bif false then true else !true)=true then _ else _)=_
 rw[if_neg (by decide),SO,AC]
 by_cases h:(l.any fun y=>JAA.eqd y c)=true
 ·rw[if_pos h,if_pos h,Ag (by decide) (by simp;omega),AC]
 rw[if_neg h,if_neg h,if_neg (by simp;omega)]
 rw[ad (p:=(Jp · c)) (fun y k9=>Option.bind (EM y c) fun v11=>k9 (cond true v11 false)) (by omega) (fun y _ k=>by rw[UL];rfl)]
 exact UY (K:=fun v17=>some (v17,0)) (by decide) (by omega)
theorem Lq {l:List JAE} {c:JAE} (hv:J6 l=true) (hc:okL c=true) (hl:l.length<64):DT l c=some (if l.any (fun y=>JAE.eqd y c)=true then l else KU JX l c,0):=by
 unfold DT
 rw[AG,KO (by omega),AC,hv,if_neg (by decide),Rh,AC,hc]
 show (if (bif false then true else !true)=true then _ else _)=_
 rw[if_neg (by decide),Ln,AC]
 by_cases h:(l.any fun y=>JAE.eqd y c)=true
 ·rw[if_pos h,if_pos h,Ag (by decide) (by simp;omega),AC]
 rw[if_neg h,if_neg h,if_neg (by simp;omega)]
 rw[ad (p:=(JX · c)) (fun y k9=>Option.bind (Bm y c) fun v11=>k9 (cond true v11 false)) (by omega) (fun y _ k=>by rw[UC];rfl)]
 exact UY (K:=fun v17=>some (v17,0)) (by decide) (by omega)
theorem NW (l:List JAA):(NI l).Pairwise (fun a b=>Jp a b=true)/\(∀x,x ∈ NI l↔x ∈ l)/\(NI l).length<=l.length:=LG bP Ol P4 l
theorem NR (l:List JAE):(NC l).Pairwise (fun a b=>JX a b=true)/\(∀x,x ∈ NC l↔x ∈ l)/\(NC l).length<=l.length:=LG bL Oq QB l
theorem O2 {l:List JAA} (h :∀c ∈ l,okC c=true) (hl:l.length<=64):Jj (NI l)=true:=by
 obtain⟨h1,h2,h3⟩:=NW l
 exact V5.2 ⟨fun c hc=>h c ((h2 c).1 hc),h1,by omega⟩
theorem QH {l:List JAE} (h :∀c ∈ l,okL c=true) (hl:l.length<=64):J6 (NC l)=true:=by
 obtain⟨h1,h2,h3⟩:=NR l
 exact V9.2 ⟨fun c hc=>h c ((h2 c).1 hc),h1,by omega⟩
theorem W8 (l:List JAA) (c:JAA):NI (l++[c])=if (NI l).any (fun y=>JAA.eqd y c)=true then NI l else KU Jp (NI l) c:=K2 _ _ _ _
theorem XD (l:List JAE) (c:JAE):NC (l++[c])=if (NC l).any (fun y=>JAE.eqd y c)=true then NC l else KU JX (NC l) c:=K2 _ _ _ _
theorem Qk {l:List JAA} (hl:l.length<=1000000) {ρ:Type} {K:List JAA->Option ρ}:(Option.bind (FR BJ l) fun v=>Option.bind (Am v) K)=K (NI l):=by
 obtain⟨r,h,h1,h2⟩:=TU PE XU (l:=l) (by omega)
 rw[h,AC]
 obtain⟨c,g,g1,g2⟩:=Jr (lt:=Jp) (e:=JAA.eqd) (zz:=⟨0,0⟩) Uu Ol P4 bP (l:=r) h2 (by rw[h1.length_eq];omega)
 have e:Am r=J4 JAA.eqd ⟨0,0⟩ r:=rfl
 rw[e,g,AC,PS (l:=l) bP Uu Ol P4 g1 fun x=>(g2 x).trans h1.mem_iff]
 rfl
theorem Qh {l:List JAE} (hl:l.length<=1000000) {ρ:Type} {K:List JAE->Option ρ}:(Option.bind (FR CL l) fun v=>Option.bind (A1 v) K)=K (NC l):=by
 obtain⟨r,h,h1,h2⟩:=TU QN XQ (l:=l) (by omega)
 rw[h,AC]
 obtain⟨c,g,g1,g2⟩:=Jr (lt:=JX) (e:=JAE.eqd) (zz:=⟨0,0,0⟩) T0 Oq QB bL (l:=r) h2 (by rw[h1.length_eq];omega)
 have e:A1 r=J4 JAE.eqd ⟨0,0,0⟩ r:=rfl
 rw[e,g,AC,PS (l:=l) bL T0 Oq QB g1 fun x=>(g2 x).trans h1.mem_iff]
 rfl
def comms:List UInt8->List JAA
 | a::b::c::d::t=>⟨DR [a,b],DR [c,d]⟩::comms t
 | _=>[]
def Bv:List Int->List JAE
 | a::b::c::t=>⟨a,b,c⟩::Bv t
 | _=>[]
theorem G6 (a b c d:UInt8) (t:List UInt8):comms (a::b::c::d::t)=⟨DR [a,b],DR [c,d]⟩::comms t:=rfl
theorem GZ (a b c:Int) (t:List Int):Bv (a::b::c::t)=⟨a,b,c⟩::Bv t:=rfl
theorem NL :∀l:List UInt8,(comms l).length=l.length / 4
 | a::b::c::d::t=>by
  rw[G6,X12,NL t]
  simp only[X12]
  omega
 | []=>rfl
 | [_]=>by simp[comms]
 | [_,_]=>by simp[comms]
 | [_,_,_]=>by simp[comms]
theorem Lc :∀l:List Int,(Bv l).length=l.length / 3
 | a::b::c::t=>by
  rw[GZ,X12,Lc t]
  simp only[X12]
  omega
 | []=>rfl
 | [_]=>by simp[Bv]
 | [_,_]=>by simp[Bv]
theorem VT (a b:UInt8):0<=DR [a,b]/\DR [a,b]<=65535:=by
 have:=NN [a,b]
 rw[Gy (by simp)]
 simp only[X12,X13] at this
 omega
theorem MI :∀(l:List UInt8),∀c ∈ comms l,okC c=true
 | a::b::c::d::t=>by
  rw[G6]
  intro x hx
  rcases List.mem_cons.1 hx with rfl | hx
  ·have h1:=VT a b
   have h2:=VT c d
   simp[okC,inR,h1,h2]
  exact MI t x hx
 | []=>by intro n h;simp[comms] at h
 | [_]=>by intro n h;simp[comms] at h
 | [_,_]=>by intro n h;simp[comms] at h
 | [_,_,_]=>by intro n h;simp[comms] at h
theorem KA :∀(l:List Int),(∀n ∈ l,0<=n/\n<=4294967295)->∀c ∈ Bv l,okL c=true
 | a::b::c::t,h=>by
  rw[GZ]
  intro x hx
  rcases List.mem_cons.1 hx with rfl | hx
  ·have h1:=h a (by simp)
   have h2:=h b (by simp)
   have h3:=h c (by simp)
   simp[okL,inR,h1,h2,h3]
  exact KA t (fun n hn=>h n (by simp[hn])) x hx
 | [],_=>by intro n h;simp[Bv] at h
 | [_],_=>by intro n h;simp[Bv] at h
 | [_,_],_=>by intro n h;simp[Bv] at h
theorem ai (a b c d:UInt8):Int.fdiv (DR [a,b,c,d]) (2 ^ (min (Int.toNat 16) 64))=DR [a,b]/\AK ((BitVec.ofInt 64 (DR [a,b,c,d]) &&& BitVec.ofInt 64 65535).toNat:Int)=DR [c,d]:=by
 have h1:=a.toNat_lt
 have h2:=b.toNat_lt
 have h3:=c.toNat_lt
 have h4:=d.toNat_lt
 rw[Gy (by simp),Gy (by simp),Gy (by simp)]
 have v4:val [a,b,c,d]=((a.toNat * 256 + b.toNat) * 256 + c.toNat) * 256 + d.toNat:=by simp[val]
 have v2:val [a,b]=a.toNat * 256 + b.toNat:=by simp[val]
 have v2':val [c,d]=c.toNat * 256 + d.toNat:=by simp[val]
 rw[v4,v2,v2']
 constructor
 ·have e:((2:Int) ^ (min (Int.toNat 16) 64))=65536:=rfl
  rw[e,Int.fdiv_eq_ediv_of_nonneg _ (by omega)]
  omega
 have e:BitVec.ofInt 64 65535=BitVec.ofNat 64 (2 ^ 16 - 1):=rfl
 rw[BitVec.ofInt_natCast,e,BitVec.toNat_and,BitVec.toNat_ofNat,BitVec.toNat_ofNat,Nat.mod_eq_of_lt (show ((a.toNat * 256 + b.toNat) * 256 + c.toNat) * 256 + d.toNat<2 ^ 64 by omega),Nat.mod_eq_of_lt (show 2 ^ 16 - 1<2 ^ 64 by decide),Nat.and_two_pow_sub_one_eq_mod]
 rw[AQ (by omega)]
 omega
theorem Kt :∀(l:List UInt8),(nums l).map (fun n=>(⟨Int.fdiv n (2 ^ (min (Int.toNat 16) 64)),AK ((BitVec.ofInt 64 n &&& BitVec.ofInt 64 65535).toNat:Int)⟩:JAA))=comms l
 | a::b::c::d::t=>by
  rw[FQ,G6,List.map_cons,Kt t]
  obtain⟨h1,h2⟩:=ai a b c d
  rw[h1,h2]
 | []=>rfl
 | [_]=>rfl
 | [_,_]=>rfl
 | [_,_,_]=>rfl
theorem PD :∀(j:Nat) (t:List UInt8),4 * (j + 1)<=t.length->comms (t.take (4 * (j + 1)))=comms (t.take (4 * j))++[⟨DR ((t.drop (4 * j)).take 2),DR ((t.drop (4 * j + 2)).take 2)⟩]
 | 0,t,h=>by
  obtain⟨a,b,c,d,t,rfl⟩:=Fb (l:=t) (by omega)
  rfl
 | j + 1,t,h=>by
  obtain⟨a,b,c,d,t,rfl⟩:=Fb (l:=t) (by omega)
  simp only[X12] at h
  have e1:4 * (j + 1 + 1)=4 * (j + 1) + 1 + 1 + 1 + 1:=by omega
  have e2:4 * (j + 1)=4 * j + 1 + 1 + 1 + 1:=by omega
  have e3:4 * j + 1 + 1 + 1 + 1 + 2=(4 * j + 2) + 1 + 1 + 1 + 1:=by omega
  have ih:=PD j t (by omega)
  rw[e1]
  simp only[List.take_succ_cons,G6]
  rw[ih,e2,e3]
  simp only[List.take_succ_cons,List.drop_succ_cons,G6,List.cons_append]
theorem OA :∀(j:Nat) (t:List UInt8),12 * (j + 1)<=t.length->Bv (nums (t.take (12 * (j + 1))))=Bv (nums (t.take (12 * j)))++[⟨DR ((t.drop (12 * j)).take 4),DR ((t.drop (12 * j + 4)).take 4),DR ((t.drop (12 * j + 8)).take 4)⟩]
 | 0,t,h=>by
  obtain⟨a,b,c,d,t,rfl⟩:=Fb (l:=t) (by omega)
  simp only[X12] at h
  obtain⟨a1,b1,c1,d1,t,rfl⟩:=Fb (l:=t) (by omega)
  simp only[X12] at h
  obtain⟨a2,b2,c2,d2,t,rfl⟩:=Fb (l:=t) (by omega)
  rfl
 | j + 1,t,h=>by
  obtain⟨a,b,c,d,t,rfl⟩:=Fb (l:=t) (by omega)
  simp only[X12] at h
  obtain⟨a1,b1,c1,d1,t,rfl⟩:=Fb (l:=t) (by omega)
  simp only[X12] at h
  obtain⟨a2,b2,c2,d2,t,rfl⟩:=Fb (l:=t) (by omega)
  simp only[X12] at h
  have e1:12 * (j + 1 + 1)=12 * (j + 1) + 1 + 1 + 1 + 1 + 1 + 1 + 1 + 1 + 1 + 1 + 1 + 1:=by omega
  have e2:12 * (j + 1)=12 * j + 1 + 1 + 1 + 1 + 1 + 1 + 1 + 1 + 1 + 1 + 1 + 1:=by omega
  have e3:12 * j + 1 + 1 + 1 + 1 + 1 + 1 + 1 + 1 + 1 + 1 + 1 + 1 + 4=(12 * j + 4) + 1 + 1 + 1 + 1 + 1 + 1 + 1 + 1 + 1 + 1 + 1 + 1:=by omega
  have e4:12 * j + 1 + 1 + 1 + 1 + 1 + 1 + 1 + 1 + 1 + 1 + 1 + 1 + 8=(12 * j + 8) + 1 + 1 + 1 + 1 + 1 + 1 + 1 + 1 + 1 + 1 + 1 + 1:=by omega
  have ih:=OA j t (by omega)
  rw[e1]
  simp only[List.take_succ_cons,FQ,GZ]
  rw[ih,e2,e3,e4]
  simp only[List.take_succ_cons,List.drop_succ_cons,FQ,GZ,List.cons_append]
theorem cK {d:List UInt8} {ρ:Type} {K:List JAA->Option ρ} (h1:d.length % 4=0) (h2:d.length / 4<=64) :
  AI (τ:=List JAA) (fun k58=>Av (σ:=Int×(List JAA)) (fun next59 p=>match p with
   | (v60,v61)=>if (decide (v60<(d.length:Int)))=true then
     Option.bind (part d v60 (AK (v60 + 2))) fun v62=>
     Option.bind (Ak v62) fun v63=>
     Option.bind (part d (AK (v60 + 2)) (AK (v60 + 4))) fun v64=>
     Option.bind (Ak v64) fun v65=>
     Option.bind (GA v61 (⟨v63,v65⟩:JAA)) fun x=>match x with | (v66,v67)=>next59 ((AK (v60 + 4)),v66)
    else k58 v61) fuel (0,[])) K=K (NI (comms d)):=by
 rw[AG]
 refine (CU (fun s:Int×List JAA=>∃j:Nat,s.1=(4 * j:Nat)/\4 * j<=d.length/\s.2=NI (comms (d.take (4 * j)))) (fun s=>(d.length - s.1).toNat) (fun _=>K (NI (comms d))) ?_ fuel (0,[]) ⟨0,rfl,Nat.zero_le _,rfl⟩ (Bo (by simp only;omega))).trans rfl
 rintro next ⟨v,l⟩ ⟨j,g1,g2,g3⟩ hn
 dsimp only at g1 g2 g3
 subst g1 g3
 dsimp only
 by_cases hj:4 * j<d.length
 ·rw[if_pos (by simp only[decide_eq_true_eq];omega)]
  have e1:AK (((4 * j:Nat):Int) + 2)=((4 * j + 2:Nat):Int):=by rw[AQ (by omega)];omega
  have e2:AK (((4 * j:Nat):Int) + 4)=((4 * j + 4:Nat):Int):=by rw[AQ (by omega)];omega
  have hlen:=NL (d.take (4 * j))
  rw[X18] at hlen
  have hs:=(NW (comms (d.take (4 * j)))).2.2
  rw[e1,e2,BM (by omega) (by omega),AC,BB,AC,BM (by omega) (by omega),AC,BB,AC,
   show 4 * j + 2 - 4 * j=2 by omega,show 4 * j + 4 - (4 * j + 2)=2 by omega]
  have ht:=PD j d (by omega)
  have hok:okC ⟨DR ((d.drop (4 * j)).take 2),DR ((d.drop (4 * j + 2)).take 2)⟩=true:=MI (d.take (4 * (j + 1))) _ (by rw[ht];simp)
  rw[TZ (O2 (MI _) (by omega)) hok (by omega),AC,<- W8,<- ht]
  exact hn _ ⟨j + 1,by simp only;omega,by omega,rfl⟩ (by simp only;omega)
 rw[if_neg (by simp only[decide_eq_true_eq];omega),List.take_of_length_le (by omega)]
theorem bC {d:List UInt8} {ρ:Type} {K:List JAE->Option ρ} (h1:d.length % 12=0) (h2:d.length / 12<=64) :
  AI (τ:=List JAE) (fun k72=>Av (σ:=Int×(List JAE)) (fun next73 p=>match p with
   | (v74,v75)=>if (decide (v74<(d.length:Int)))=true then
     Option.bind (part d v74 (AK (v74 + 4))) fun v76=>
     Option.bind (Ak v76) fun v77=>
     Option.bind (part d (AK (v74 + 4)) (AK (v74 + 8))) fun v78=>
     Option.bind (Ak v78) fun v79=>
     Option.bind (part d (AK (v74 + 8)) (AK (v74 + 12))) fun v80=>
     Option.bind (Ak v80) fun v81=>
     Option.bind (DT v75 (⟨v77,v79,v81⟩:JAE)) fun x=>match x with | (v82,v83)=>next73 ((AK (v74 + 12)),v82)
    else k72 v75) fuel (0,[])) K=K (NC (Bv (nums d))):=by
 rw[AG]
 refine (CU (fun s:Int×List JAE=>∃j:Nat,s.1=(12 * j:Nat)/\12 * j<=d.length/\s.2=NC (Bv (nums (d.take (12 * j))))) (fun s=>(d.length - s.1).toNat) (fun _=>K (NC (Bv (nums d)))) ?_ fuel (0,[]) ⟨0,rfl,Nat.zero_le _,rfl⟩ (Bo (by simp only;omega))).trans rfl
 rintro next ⟨v,l⟩ ⟨j,g1,g2,g3⟩ hn
 dsimp only at g1 g2 g3
 subst g1 g3
 dsimp only
 by_cases hj:12 * j<d.length
 ·rw[if_pos (by simp only[decide_eq_true_eq];omega)]
  have e1:AK (((12 * j:Nat):Int) + 4)=((12 * j + 4:Nat):Int):=by rw[AQ (by omega)];omega
  have e2:AK (((12 * j:Nat):Int) + 8)=((12 * j + 8:Nat):Int):=by rw[AQ (by omega)];omega
  have e3:AK (((12 * j:Nat):Int) + 12)=((12 * j + 12:Nat):Int):=by rw[AQ (by omega)];omega
  have hlen:=Lc (nums (d.take (12 * j)))
  rw[E7,X18] at hlen
  have hs:=(NR (Bv (nums (d.take (12 * j))))).2.2
  rw[e1,e2,e3,BM (by omega) (by omega),AC,BB,AC,BM (by omega) (by omega),AC,BB,AC,BM (by omega) (by omega),AC,BB,AC,
   show 12 * j + 4 - 12 * j=4 by omega,show 12 * j + 8 - (12 * j + 4)=4 by omega,show 12 * j + 12 - (12 * j + 8)=4 by omega]
  have ht:=OA j d (by omega)
  have hok:okL ⟨DR ((d.drop (12 * j)).take 4),DR ((d.drop (12 * j + 4)).take 4),DR ((d.drop (12 * j + 8)).take 4)⟩=true:=KA _ (MH (d.take (12 * (j + 1)))) _ (by rw[ht];simp)
  rw[Lq (QH (KA _ (MH _)) (by omega)) hok (by omega),AC,<- XD,<- ht]
  exact hn _ ⟨j + 1,by simp only;omega,by omega,rfl⟩ (by simp only;omega)
 rw[if_neg (by simp only[decide_eq_true_eq];omega),List.take_of_length_le (by omega)]
theorem ar {n:List Int} {ρ:Type} {K:List JAE->Option ρ} (h1:n.length % 3=0) (h2:n.length<=1000000) :
  AI (τ:=List JAE) (fun k130=>Av (σ:=(List JAE)×(List Int)) (fun next131 p=>match p with
   | (v132,v133)=>if (decide ((v133.length:Int) > 0))=true then
     Option.bind (geti v133 0) fun v134=>
     Option.bind (geti v133 1) fun v135=>
     Option.bind (geti v133 2) fun v136=>
     Option.bind (apnd (α:=JAE) 24 v132 ([(⟨v134,v135,v136⟩:JAE)]:List JAE)) fun v137=>
     Option.bind (part v133 3 (v133.length:Int)) fun v138=>
     next131 (v137,v138)
    else k130 v132) fuel ([],n)) K=K (Bv n):=by
 rw[AG]
 refine (CU (fun s:List JAE×List Int=>s.2.length % 3=0/\s.1.length + s.2.length<=1000000) (fun s=>s.2.length) (fun s=>K (s.1++Bv s.2)) ?_ fuel ([],n) ⟨h1,by simpa using h2⟩ (Bo (by simp only;omega))).trans rfl
 rintro next ⟨o,v⟩ ⟨g1,g2⟩ hn
 dsimp only at g1 g2 ⊢
 match v,g1,g2,hn with
 | [],_,_,_=>simp[Bv]
 | [_],g1,_,_=>simp at g1
 | [_,_],g1,_,_=>simp at g1
 | a::b::c::t,g1,g2,hn=>
  simp only[X12] at g1 g2
  have e1:geti (a::b::c::t) 0=some a:=Bz (l:=a::b::c::t) (i:=0) (by simp)
  have e2:geti (a::b::c::t) 1=some b:=Bz (l:=a::b::c::t) (i:=1) (by simp)
  have e3:geti (a::b::c::t) 2=some c:=Bz (l:=a::b::c::t) (i:=2) (by simp)
  have e4:part (a::b::c::t) 3 ((a::b::c::t).length:Int)=some t:=Dx (l:=a::b::c::t) (n:=3) (by simp)
  rw[if_pos (by simp;omega),e1,AC,e2,AC,e3,AC,Ag (by decide) (by simp;omega),AC,e4,AC,hn _ ⟨by simp only;omega,by simp;omega⟩ (by simp only[X12];omega),GZ]
  simp
end Go.AX.Q33
end
section

end
section
namespace Go.AX.Q33
open Go Go.AX
set_option maxRecDepth 8000
def toP (a:JAF):Int×Bool×UInt64×UInt64×Int×Int×Int×(List JAC)×(List JAA)×(List JAE):=(a.Origin,a.Next.V6,a.Next.Hi,a.Next.Lo,a.MED,a.Pref,a.OTC,a.Path,a.Communities,a.JAE)
def toR (a:JAF):Int×(List JAC)×Bool×UInt64×UInt64×Int×Int×Int×(List JAA)×(List JAE):=(a.Origin,a.Path,a.Next.V6,a.Next.Hi,a.Next.Lo,a.MED,a.Pref,a.OTC,a.Communities,a.JAE)
def LP (p:List JAC):Bool:=(C5 p).getD false
def Jg (d:List UInt8):Option Int:=if d.length=1/\DR d<=2 then some (DR d) else none
def Py (d:List UInt8):Option (List JAC):=(rdL d []).bind fun p=>if LP p=true then some p else none
def addrOf (d:List UInt8):Addr:=((A7 d).getD (⟨false,0,0⟩,0)).1
def SR (d:List UInt8):Option Addr:=if d.length=4 then some (addrOf d) else none
def rd4 (d:List UInt8):Option Int:=if d.length=4 then some (DR d) else none
def W2 (d:List UInt8):Option Int:=if d.length=4/\DR d≠0 then some (DR d) else none
def QP (d:List UInt8):Option (List JAA):=if d.length≠0/\d.length % 4=0/\d.length / 4<=64 then some (NI (comms d)) else none
def KD (d:List UInt8):Option (List JAE):=if d.length≠0/\d.length % 12=0/\d.length / 12<=64 then some (NC (Bv (nums d))) else none
def Ft (a:JAF) (t:Int) (d:List UInt8):Option JAF:=
 if t=1 then (Jg d).map fun v=>{ a with Origin:=v } else
 if t=2 then (Py d).map fun v=>{ a with Path:=v } else
 if t=3 then (SR d).map fun v=>{ a with Next:=v } else
 if t=4 then (rd4 d).map fun v=>{ a with MED:=v } else
 if t=5 then (rd4 d).map fun v=>{ a with Pref:=v } else
 if t=8 then (QP d).map fun v=>{ a with Communities:=v } else
 if t=32 then (KD d).map fun v=>{ a with JAE:=v } else
 if t=35 then (W2 d).map fun v=>{ a with OTC:=v } else some a
def stepS (a:JAF) (x:JAB):Option JAF:=if fl x.Type_=0 then some a else if DN x=true then Ft a x.Type_ x.Data else none
theorem G1 (d:List UInt8):Au d=A7 d:=rfl
instance (a0:List UInt8):Tt (A7 a0):=by unfold A7;exact Tt.auto
theorem RG (d:List UInt8) :∃e,A7 d=some (addrOf d,e):=by
 have h :∃r,A7 d=some r:=Tt.h
 obtain⟨⟨r,e⟩,h⟩:=h
 refine⟨e,?_⟩
 unfold addrOf
 rw[h];rfl
theorem XH {d:List UInt8} (h:d.length=4):0<=DR d/\DR d<=4294967295:=by
 have:=NN d
 rw[Gy (by omega)]
 rw[h] at this
 omega
section
variable {ρ:Type} {F:Option ρ} {next:Int×Bool×UInt64×UInt64×Int×Int×Int×(List JAC)×(List JAA)×(List JAE)->Option ρ} {x:JAB} {a:JAF}
theorem aF (h:x.Type_=1) (e:fl x.Type_=64):EY F next x (toP a)=match stepS a x with | none=>F | some a'=>next (toP a'):=by
 unfold EY toP stepS Ft Jg
 dsimp only
 rw[AG,if_pos (by rw[h];rfl),AG,BN x (by rw[e];decide),if_neg (by rw[e];decide)]
 simp only[AG,AC,CW,h,if_true]
 have e1:((x.Data.length:Int)==1)=decide (x.Data.length=1):=by rw[X28];simp;omega
 rw[e1]
 cases hr:DN x<;>by_cases h1:x.Data.length=1<;>by_cases h2:DR x.Data<=2<;>simp[h1,h2]
theorem Z6 (h:x.Type_=3) (e:fl x.Type_=64):EY F next x (toP a)=match stepS a x with | none=>F | some a'=>next (toP a'):=by
 unfold EY toP stepS Ft SR
 dsimp only
 obtain⟨er,he⟩:=RG x.Data
 rw[AG,if_neg (by rw[h];decide),if_neg (by rw[h];decide),if_pos (by rw[h];rfl),AG,BN x (by rw[e];decide),if_neg (by rw[e];decide),h]
 simp only[AG,AC,he]
 have e1:((x.Data.length:Int)==4)=decide (x.Data.length=4):=by rw[X28];simp;omega
 rw[e1]
 cases hr:DN x<;>by_cases h1:x.Data.length=4<;>simp[h1]
theorem Zg (h:x.Type_=4) (e:fl x.Type_=128):EY F next x (toP a)=match stepS a x with | none=>F | some a'=>next (toP a'):=by
 unfold EY toP stepS Ft rd4
 dsimp only
 rw[AG,if_neg (by rw[h];decide),if_neg (by rw[h];decide),if_neg (by rw[h];decide),if_pos (by rw[h];rfl),AG,BN x (by rw[e];decide),if_neg (by rw[e];decide),h]
 simp only[AG,AC,CW]
 have e1:((x.Data.length:Int)==4)=decide (x.Data.length=4):=by rw[X28];simp;omega
 rw[e1]
 cases hr:DN x<;>by_cases h1:x.Data.length=4<;>simp[h1]
theorem ZX (h:x.Type_=5) (e:fl x.Type_=64):EY F next x (toP a)=match stepS a x with | none=>F | some a'=>next (toP a'):=by
 unfold EY toP stepS Ft rd4
 dsimp only
 rw[AG,if_neg (by rw[h];decide),if_neg (by rw[h];decide),if_neg (by rw[h];decide),if_neg (by rw[h];decide),if_pos (by rw[h];rfl),AG,BN x (by rw[e];decide),if_neg (by rw[e];decide),h]
 simp only[AG,AC,CW]
 have e1:((x.Data.length:Int)==4)=decide (x.Data.length=4):=by rw[X28];simp;omega
 rw[e1]
 cases hr:DN x<;>by_cases h1:x.Data.length=4<;>simp[h1]
theorem ZI (h:x.Type_=35) (e:fl x.Type_=192):EY F next x (toP a)=match stepS a x with | none=>F | some a'=>next (toP a'):=by
 unfold EY toP stepS Ft W2
 dsimp only
 rw[AG,if_neg (by rw[h];decide),if_neg (by rw[h];decide),if_neg (by rw[h];decide),if_neg (by rw[h];decide),if_neg (by rw[h];decide),if_neg (by rw[h];decide),if_neg (by rw[h];decide),if_pos (by rw[h];rfl),AG,BN x (by rw[e];decide),if_neg (by rw[e];decide),h]
 simp only[AG,AC,CW,number_eq]
 have e1:((x.Data.length:Int)==4)=decide (x.Data.length=4):=by rw[X28];simp;omega
 rw[e1]
 by_cases h1:x.Data.length=4
 ·have hg:=XH h1
  have h3:decide (1<=DR x.Data)=decide (DR x.Data≠0):=by rw[X28];simp;omega
  have h4:decide (DR x.Data<=4294967295)=true:=decide_eq_true hg.2
  rw[h3,h4]
  cases hr:DN x<;>by_cases h2:DR x.Data=0<;>simp[h1,h2]
 cases hr:DN x<;>simp[h1]
theorem aL (h:x.Type_≠1/\x.Type_≠2/\x.Type_≠3/\x.Type_≠4/\x.Type_≠5/\x.Type_≠8/\x.Type_≠32/\x.Type_≠35) (e:fl x.Type_=0):EY F next x (toP a)=match stepS a x with | none=>F | some a'=>next (toP a'):=by
 obtain⟨h1,h2,h3,h4,h5,h6,h7,h8⟩:=h
 unfold EY toP stepS
 dsimp only
 rw[AG,if_neg (by simpa using h1),if_neg (by simpa using h2),if_neg (by simpa using h3),if_neg (by simpa using h4),if_neg (by simpa using h5),if_neg (by simpa using h6),if_neg (by simpa using h7),if_neg (by simpa using h8),if_pos e]
theorem cL {α β ρ:Type} {g:β->α} {b:Nat} {K:List α->Option ρ} (hb:Nat.ble b 65536=true) :∀(l:List β) (i:Nat) (acc:List α),acc.length + l.length<=1000000000->An K (fun next x _ v=>Option.bind (apnd (α:=α) b v ([g x]:List α)) fun v'=>next v') l i acc=K (acc++l.map g)
 | [],i,acc,_=>by rw[List.map_nil,List.append_nil];rfl
 | x::t,i,acc,h=>by
  simp only[X12] at h
  show (Option.bind (apnd (α:=α) b acc ([g x]:List α)) fun v'=>An K _ t (i + 1) v')=_
  rw[Ag hb (by simp;omega),AC,cL hb t (i + 1) _ (by simp;omega)]
  simp
theorem ZV (hd:x.Data.length<=1000000) (h:x.Type_=8) (e:fl x.Type_=192):EY F next x (toP a)=match stepS a x with | none=>F | some a'=>next (toP a'):=by
 have er :∀d,Ft a 8 d=(QP d).map fun v=>{ a with Communities:=v }:=fun _=>rfl
 unfold EY toP stepS
 dsimp only
 rw[AG,if_neg (by rw[h];decide),if_neg (by rw[h];decide),if_neg (by rw[h];decide),if_neg (by rw[h];decide),if_neg (by rw[h];decide),if_pos (by rw[h];rfl),AG,BN x (by rw[e];decide),if_neg (by rw[e];decide),h,AC]
 by_cases hr:DN x=true
 rotate_left
 ·have hr:DN x=false:=by simpa using hr
  rw[hr]
  rfl
 have hl:=NL x.Data
 have hc:=NW (comms x.Data)
 rw[hr,if_neg (by decide),AG,Ed (by omega),AC,AG,cL (by decide) _ _ _ (by rw[E7];simp;omega),Kt,List.nil_append,er]
 unfold QP
 show AI _ _=_
 rw[AG]
 have e1:((Int.tmod (x.Data.length:Int) 4)==0)=decide (x.Data.length % 4=0):=by
  rw[Int.tmod_eq_emod_of_nonneg (by omega),X28];simp;omega
 have e2 :∀K:Bool->Option ρ,(AI (τ:=Bool) (fun k113=>if (decide (((comms x.Data).length:Int) > 0))=true then k113 (cond true (decide (((comms x.Data).length:Int)<=64)) false) else k113 false) K)=K (decide (0<(comms x.Data).length/\(comms x.Data).length<=64)):=by
  intro K
  rw[AG]
  by_cases g1:0 < (comms x.Data).length<;>by_cases g2:(comms x.Data).length<=64<;>simp[g1,g2]<;>first | (intro;omega)|(rw[decide_eq_true (by omega)])|(rw[decide_eq_false (by omega)])|omega
 rw[e2,Qk (by omega)]
 simp only[AG,e1]
 by_cases g:x.Data.length≠0/\x.Data.length % 4=0/\x.Data.length / 4<=64
 ·rw[if_pos g,decide_eq_true (show 0<(comms x.Data).length/\(comms x.Data).length<=64 by omega),if_pos rfl,if_pos (by rw[decide_eq_true g.2.1];rfl),Ld (by omega),O2 (MI _) (by omega)]
  rfl
 rw[if_neg g]
 by_cases g1:0<(comms x.Data).length/\(comms x.Data).length<=64
 ·rw[decide_eq_true g1,if_pos rfl,if_neg (by rw[decide_eq_false (by omega)];decide)]
  rfl
 rw[decide_eq_false g1,if_neg (by decide)]
 rfl
theorem ZL (hd:x.Data.length<=1000000) (h:x.Type_=32) (e:fl x.Type_=192):EY F next x (toP a)=match stepS a x with | none=>F | some a'=>next (toP a'):=by
 have er :∀d,Ft a 32 d=(KD d).map fun v=>{ a with JAE:=v }:=fun _=>rfl
 unfold EY toP stepS
 dsimp only
 rw[AG,if_neg (by rw[h];decide),if_neg (by rw[h];decide),if_neg (by rw[h];decide),if_neg (by rw[h];decide),if_neg (by rw[h];decide),if_neg (by rw[h];decide),if_pos (by rw[h];rfl),AG,BN x (by rw[e];decide),if_neg (by rw[e];decide),h,AC]
 by_cases hr:DN x=true
 rotate_left
 ·have hr:DN x=false:=by simpa using hr
  rw[hr]
  rfl
 have e1:((Int.tmod (x.Data.length:Int) 12) != 0)=!decide (x.Data.length % 12=0):=by
  rw[Int.tmod_eq_emod_of_nonneg (by omega),X28];simp;omega
 rw[hr,if_neg (by decide),AG,e1]
 by_cases g1:x.Data.length % 12=0
 rotate_left
 ·rw[decide_eq_false g1,if_pos rfl,er]
  unfold KD
  rw[if_neg (show ¬ (x.Data.length≠0/\x.Data.length % 12=0/\x.Data.length / 12<=64) by omega)]
  rfl
 have hl:=Lc (nums x.Data)
 rw[E7] at hl
 have hc:=NR (Bv (nums x.Data))
 rw[decide_eq_true g1,if_neg (by decide),Ed (by omega),AC,ar (by rw[E7];omega) (by rw[E7];omega),er]
 unfold KD
 show AI _ _=_
 rw[AG]
 have e2 :∀K:Bool->Option ρ,(AI (τ:=Bool) (fun k113=>if (decide (((Bv (nums x.Data)).length:Int) > 0))=true then k113 (cond true (decide (((Bv (nums x.Data)).length:Int)<=64)) false) else k113 false) K)=K (decide (0<(Bv (nums x.Data)).length/\(Bv (nums x.Data)).length<=64)):=by
  intro K
  rw[AG]
  by_cases g1:0 < (Bv (nums x.Data)).length<;>by_cases g2:(Bv (nums x.Data)).length<=64<;>simp[g1,g2]<;>first | (intro;omega)|(rw[decide_eq_true (by omega)])|(rw[decide_eq_false (by omega)])|omega
 rw[e2,Qh (by omega)]
 simp only[AG]
 by_cases g:x.Data.length≠0/\x.Data.length % 12=0/\x.Data.length / 12<=64
 ·rw[if_pos g,decide_eq_true (show 0<(Bv (nums x.Data)).length/\(Bv (nums x.Data)).length<=64 by omega),if_pos rfl,IL (by omega),QH (KA _ (MH _)) (by omega)]
  rfl
 rw[if_neg g,decide_eq_false (show ¬ (0<(Bv (nums x.Data)).length/\(Bv (nums x.Data)).length<=64) by omega),if_neg (by decide)]
 rfl
end
end Go.AX.Q33
end
section
namespace Go.AX.Q33
open Go Go.AX
set_option maxRecDepth 8000
def Q6 (n:Int):Bool:=decide (1<=n)&&decide (n<=4294967295)
def Uo (s:JAC):Bool:=decide (s.ASNs.length≠0)&&(s.ASNs.all Q6&&chainB (fun a b=>!s.Set || ltI a b) s.ASNs)
def sgl (a b:JAC):Bool:=b.Set || a.Set
def tot (p:List JAC):Nat:=p.foldl (fun n s=>n + s.ASNs.length) 0
theorem Yk (p:List JAC) (n:Nat):p.foldl (fun n s=>n + s.ASNs.length) n=n + tot p:=by
 unfold tot
 induction p generalizing n with
 | nil=>rfl
 | cons s t ih=>rw[List.foldl_cons,List.foldl_cons,ih,ih (0 + _)];omega
theorem Fo (s:JAC) (p:List JAC):tot (s::p)=s.ASNs.length + tot p:=by
 conv=>lhs;unfold tot
 rw[List.foldl_cons,Yk];omega
theorem Oj (p q:List JAC):tot (p++q)=tot p + tot q:=by
 induction p with
 | nil=>rw[List.nil_append];exact (Nat.zero_add _).symm
 | cons s t ih=>rw[List.cons_append,Fo,Fo,ih];omega
theorem Zh {p:List JAC} {s:JAC} (h:s ∈ p):s.ASNs.length<=tot p:=by
 induction p with
 | nil=>simp at h
 | cons x t ih=>
  rw[Fo]
  rcases List.mem_cons.1 h with rfl | h
  ·omega
  have:=ih h;omega
def PY (p:List JAC):Bool:=p.all Uo&&chainB sgl p&&decide (tot p<=64)
theorem Wn :∀(p:List JAC) (n:Nat),n + tot p<=1000000000->p.foldl (fun (v:Int) s=>AK (v + (s.ASNs.length:Int))) (n:Int)=((n + tot p:Nat):Int)
 | [],n,_=>rfl
 | s::t,n,h=>by
  rw[Fo] at h
  rw[List.foldl_cons,Fo,AQ (by omega),show (n:Int) + (s.ASNs.length:Int)=((n + s.ASNs.length:Nat):Int) by omega,Wn t _ (by omega)]
  congr 1
  omega
theorem XZ {s:JAC} (hl:s.ASNs.length<=1000000000) {K:Unit->Option Bool} {body:(Unit->Option Bool)->Int->Nat->Unit->Option Bool}
  (hb :∀next x i,body next x i ()=AI (τ:=Bool) (fun k14=>if (!Q6 x)=true then k14 true else if s.Set=true then if (cond true (decide ((i:Int) > 0)) false)=true then Option.bind (geti s.ASNs (AK ((i:Int) - 1))) fun v15=>k14 (cond false true (cond true (decide (v15 ≥ x)) false)) else k14 false else k14 false) fun v16=>if v16=true then some false else next ()) :
  An K body s.ASNs 0 ()=if s.ASNs.all Q6&&chainB (fun a b=>!s.Set || ltI a b) s.ASNs then K () else some false:=by
 refine cA (by omega) (fun next x _=>?_) fun next x y i _ _ hg=>?_
 ·rw[hb,AG]
  cases Q6 x<;>cases s.Set<;>rfl
 rw[hb,AG,hg,AC]
 have e:decide (((i + 1:Nat):Int) > 0)=true:=by simp
 have e2:decide (y ≥ x)=!ltI y x:=by unfold ltI;rw[X28];simp
 rw[e,e2]
 cases Q6 x<;>cases s.Set<;>cases ltI y x<;>rfl
theorem Rt {p:List JAC} (hl:p.length<=1000000000) (ht:tot p<=1000000000) {body:(Int->Option Bool)->JAC->Nat->Int->Option Bool} {inner:JAC->(Unit->Option Bool)->Int->Nat->Unit->Option Bool}
  (hb :∀next x i v,body next x i v=AI (τ:=Unit) (fun k6=>AI (τ:=Bool) (fun k7=>if ((x.ASNs.length:Int)==0)=true then k7 true else if (decide ((i:Int) > 0))=true then if (cond true (!x.Set) false)=true then Option.bind (geti p (AK ((i:Int) - 1))) fun v8=>k7 (cond false true (cond true (!v8.Set) false)) else k7 false else k7 false) fun v9=>if v9=true then some false else AI (τ:=Unit) (fun k10=>An (σ:=Unit) (fun _=>k10 ()) (inner x) x.ASNs 0 ()) fun _=>k6 ()) fun _=>next (AK (v + (x.ASNs.length:Int))))
  (hi :∀s next x i,inner s next x i ()=AI (τ:=Bool) (fun k14=>if (!Q6 x)=true then k14 true else if s.Set=true then if (cond true (decide ((i:Int) > 0)) false)=true then Option.bind (geti s.ASNs (AK ((i:Int) - 1))) fun v15=>k14 (cond false true (cond true (decide (v15 ≥ x)) false)) else k14 false else k14 false) fun v16=>if v16=true then some false else next ()) :
  (AI (τ:=Int) (fun k1=>An (σ:=Int) (fun v=>k1 v) body p 0 0) fun v=>some (decide (v<=64)))=some (PY p):=by
 rw[AG]
 have hin :∀s ∈ p,∀K:Unit->Option Bool,An K (inner s) s.ASNs 0 ()=if s.ASNs.all Q6&&chainB (fun a b=>!s.Set || ltI a b) s.ASNs then K () else some false:=fun s hs K=>XZ (by have:=Zh hs;omega) (hi s)
 refine (b7 (g:=fun (v:Int) s=>AK (v + (s.ASNs.length:Int))) (ok:=Uo) (lt:=sgl) (F:=some false) (by omega) (fun next x v hx=>?_) fun next x y i v hx _ hg=>?_).trans ?_
 ·rw[hb,AG,AG]
  unfold Uo
  by_cases h0:x.ASNs.length=0
  ·have e:((x.ASNs.length:Int)==0)=true:=by simp[h0]
   rw[if_pos e]
   simp[h0]
  have e:¬ ((x.ASNs.length:Int)==0)=true:=by simpa using h0
  rw[if_neg e,if_neg (by simp)]
  show (if false=true then _ else _)=_
  rw[if_neg (by decide),AG,hin x hx]
  simp only[h0,ne_eq,not_false_eq_true,decide_true,Bool.true_and]
 ·rw[hb,AG,AG,hg]
  unfold Uo sgl
  by_cases h0:x.ASNs.length=0
  ·have e:((x.ASNs.length:Int)==0)=true:=by simp[h0]
   rw[if_pos e]
   simp[h0]
  have e:¬ ((x.ASNs.length:Int)==0)=true:=by simpa using h0
  have e2:decide (((i + 1:Nat):Int) > 0)=true:=by simp
  rw[if_neg e,if_pos e2,AC,AG,hin x hx]
  simp only[h0,ne_eq,not_false_eq_true,decide_true,Bool.true_and]
  generalize (x.ASNs.all Q6&&chainB (fun a b=>!x.Set || ltI a b) x.ASNs)=c
  cases x.Set<;>cases y.Set<;>cases c<;>rfl
 have hs:=Wn p 0 (by omega)
 rw[Nat.zero_add] at hs
 have hs:p.foldl (fun (v:Int) s=>AK (v + (s.ASNs.length:Int))) 0=(tot p:Int):=hs
 rw[hs]
 unfold PY
 have e:decide ((tot p:Int)<=64)=decide (tot p<=64):=by rw[X28];simp;omega
 simp only[e]
 generalize (p.all Uo&&chainB sgl p)=c
 cases c<;>rfl
theorem Jf {p:List JAC} (hl:p.length<=1000000000) (ht:tot p<=1000000000):C5 p=some (PY p):=by
 unfold C5
 refine Rt hl ht (fun next x i v=>rfl) fun s next x i=>?_
 have e:(!Q6 x)=(decide (x < 1) || decide (x > 4294967295)):=by unfold Q6;rw[X28];simp<;>omega
 rw[AG,AG,e]
 cases decide (x < 1)<;>cases decide (x > 4294967295)<;>rfl
theorem OV {p:List JAC} (hl:p.length<=1000000000) (ht:tot p<=1000000000):Fv p=some (PY p):=by
 unfold Fv
 refine Rt hl ht (fun next x i v=>rfl) fun s next x i=>?_
 rw[number_eq]
 rfl
theorem Ro {p:List JAC} (hl:p.length<=1000000000) (ht:tot p<=1000000000):LP p=PY p:=by
 unfold LP
 rw[Jf hl ht];rfl
theorem Nz (p:List JAC) (b:Bool) {m:List Int} (hm:m.length<=1000000):(HF p b m).length<=p.length + 1/\tot (HF p b m)<=tot p + m.length:=by
 unfold HF
 cases b
 ·simp only[Bool.false_eq_true,if_false]
  rcases List.eq_nil_or_concat p with rfl | ⟨q,s,rfl⟩
  ·exact⟨by simp,by simp[tot]⟩
  rw[List.concat_eq_append]
  simp only[List.getLast?_concat,List.dropLast_concat]
  split
  ·rw[Oj,Fo]
   exact⟨by simp,by simp[tot]⟩
  rw[Oj,Fo,Oj,Fo]
  exact⟨by simp,by simp[tot];omega⟩
 simp only[if_true]
 rw[Oj,Fo]
 have:=TE hm
 exact⟨by simp,by simp only[tot,List.foldl_nil];omega⟩
theorem Px :∀(n:Nat) (b:List UInt8) (p q:List JAC),b.length<=1000000->JL n b p=some q->q.length<=p.length + b.length/\tot q<=tot p + b.length
 | n,[],p,q,_,h=>by
  rw[Na] at h
  obtain rfl:=X25 h
  exact⟨Nat.le_refl _,Nat.le_refl _⟩
 | n + 1,[x],p,q,_,h=>by simp[JL] at h
 | n + 1,k::c::t,p,q,hb,h=>by
  simp only[X12] at hb
  simp only[JL] at h
  split at h
  ·cases h
  rename_i hk
  have h1:=Px n _ _ _ (by simp only[X17];omega) h
  have hn:(nums (t.take (4 * c.toNat))).length=c.toNat:=by rw[E7,X18];omega
  have hc:=c.toNat_lt
  have h2:=Nz p (k.toNat==1) (m:=nums (t.take (4 * c.toNat))) (by omega)
  simp only[X17] at h1
  simp only[X12]
  omega
 | 0,x::b,p,q,_,h=>by
  have:JL 0 (x::b) p=none:=by cases b<;>rfl
  rw[this] at h;simp at h
theorem Y6 {b:List UInt8} {q:List JAC} (hb:b.length<=1000000) (h:rdL b []=some q):q.length<=1000000/\tot q<=1000000:=by
 have:=Px _ _ _ _ hb h
 simp only[X13,tot,List.foldl_nil] at this
 unfold tot
 omega
section
variable {ρ:Type} {F:Option ρ} {next:Int×Bool×UInt64×UInt64×Int×Int×Int×(List JAC)×(List JAA)×(List JAE)->Option ρ} {x:JAB} {a:JAF}
theorem Zk (hd:x.Data.length<=1000000) (h:x.Type_=2) (e:fl x.Type_=64) (hp:a.Path=[]):EY F next x (toP a)=match stepS a x with | none=>F | some a'=>next (toP a'):=by
 have er :∀d,Ft a 2 d=(Py d).map fun v=>{ a with Path:=v }:=fun _=>rfl
 unfold EY toP stepS
 dsimp only
 rw[AG,if_neg (by rw[h];decide),if_pos (by rw[h];rfl),AG,BN x (by rw[e];decide),if_neg (by rw[e];decide),h,AC,er]
 by_cases hr:DN x=true
 rotate_left
 ·have hr:DN x=false:=by simpa using hr
  rw[hr]
  rfl
 have ck:chk (([]:List JAC)=[])=some ():=by unfold chk;rw[if_pos rfl]
 rw[hr,if_neg (by decide),AG,AG,hp,ck,AC]
 refine (CU (fun s:List UInt8×List JAC×Nat×List Int=>Lk s.2.1 s.2.2.1 s.2.2.2/\(s.1.length + s.2.1.length<=1000000/\s.1.length + tot s.2.1<=1000000)/\s.1.length + s.2.2.2.length<=1000000) (fun s=>s.1.length)
  (fun s=>match rdL s.1 s.2.1 with | none=>F | some p=>if LP p=true then next (toP { a with Path:=p }) else F) ?_ fuel (x.Data,[],0,[]) ⟨.inl rfl,by simpa[tot] using hd,by simpa using hd⟩ (Bo (by simp only;omega))).trans ?_
 rotate_left
 ·unfold Py
  dsimp only
  cases rdL x.Data [] with
  | none=>rfl
  | some p=>
   rw[Option.bind_some]
   show (if LP p=true then _ else _)=_
   cases LP p<;>rfl
 rintro next' ⟨b,p,i,l⟩ ⟨h1,⟨h2,h2'⟩,h3⟩ hn
 dsimp only at h1 h2 h2' h3 ⊢
 match b,h2,h2',h3,hn with
 | [],h2,h2',_,_=>
  rw[Z0,if_neg (by simp),OV (by omega) (by simp only[X13] at h2';omega),AC]
  show _=(if LP p=true then next (toP { a with Path:=p }) else F)
  simp only[X13] at h2 h2'
  rw[Ro (by omega) (by omega)]
  cases PY p<;>rfl
 | [x],_,_,_,_=>rfl
 | k::c::t,h2,h2',h3,hn=>
  simp only[X12] at h2 h2' h3
  rw[if_pos (by simp;omega),Ur,ZB (by omega)]
  by_cases hb:H7 k c t=true
  ·rw[if_pos hb,if_pos hb]
   rfl
  rw[if_neg hb,if_neg hb]
  have hb':(k.toNat=1\/k.toNat=2)/\1<=c.toNat/\4 * c.toNat<=t.length:=by
   simp only[H7,decide_eq_true_eq] at hb
   omega
  obtain⟨b1,b2,b3⟩:=hb'
  have hc:=c.toNat_lt
  have epart:part (k::c::t) 2 ((2 + 4 * c.toNat:Nat):Int)=some (t.take (4 * c.toNat)):=by
   rw[show (2:Int)=((2:Nat):Int) by rfl,BM (by omega) (by simp;omega)]
   rw[List.drop_succ_cons,List.drop_succ_cons,List.drop_zero,show 2 + 4 * c.toNat - 2=4 * c.toNat by omega]
  rw[Hg,AC,Fq,AC,Zj,epart,AC,Ed (by simp;omega),AC,RL b3,AC]
  have hnl:(nums (t.take (4 * c.toNat))).length=c.toNat:=by rw[E7,X18];omega
  generalize hm:nums (t.take (4 * c.toNat))=m at *
  have hdl:(t.drop (4 * c.toNat)).length=t.length - 4 * c.toNat:=X17
  have hsl:=TE (l:=m) (by omega)
  have hsz:=Nz p (k.toNat==1) (m:=m) (by omega)
  have hsort :∀K:List Int->Option ρ,AI (τ:=List Int) (fun k50=>if ((k.toNat:Int)==1)=true then Option.bind (Kr m) fun v51=>Option.bind (BV v51) fun v52=>k50 v52 else k50 m) K=K (if k.toNat=1 then srt m else m):=by
   intro K
   rw[AG]
   by_cases b1:k.toNat=1
   ·rw[if_pos (by simp[b1]),if_pos b1];exact Qz (by omega)
   rw[if_neg (by simp;omega),if_neg b1]
  rw[hsort]
  rcases b1 with b1 | b1
  ·have e:(k.toNat==1)=true:=by rw[b1];rfl
   have e1:((k.toNat:Int)==1)=true:=by rw[b1];rfl
   rw[e,LL] at hsz
   have ef :∀K:Bool->Option ρ,AI (τ:=Bool) (fun k54=>if (decide ((AK ((p.length:Int) - 1)) ≥ 0))=true then if (cond true (!true) false)=true then Option.bind (geti p (AK ((p.length:Int) - 1))) fun v55=>k54 (cond true (!v55.Set) false) else k54 false else k54 false) K=K false:=by
    intro K
    rw[AG]
    split<;>rfl
   rw[if_pos b1,e1,ef,AG,if_neg (by decide),Ag (by decide) (by simp;omega),AC,e,LL]
   exact hn (t.drop (4 * c.toNat),p++[⟨true,srt m⟩],(List.map JAC.toD p).length + 0,srt m) ⟨.inr ⟨p,true,rfl,by simp⟩,⟨by simp only[X11,X22,hdl];omega,by simp only[hdl];omega⟩,by simp only[hdl];omega⟩ (by simp only[hdl,X12];omega)
  have e:(k.toNat==1)=false:=by rw[b1];rfl
  have e1:((k.toNat:Int)==1)=false:=by rw[b1];rfl
  rw[e] at hsz
  have ef :∀K:Bool->Option ρ,AI (τ:=Bool) (fun k54=>if (decide ((AK ((p.length:Int) - 1)) ≥ 0))=true then if (cond true (!false) false)=true then Option.bind (geti p (AK ((p.length:Int) - 1))) fun v55=>k54 (cond true (!v55.Set) false) else k54 false else k54 false) K=K (match p.getLast? with | some s=>!s.Set | none=>false):=by
   intro K
   have hlast:=WR (p:=p) (by omega) K
   refine Eq.trans ?_ hlast
   rw[AG,AG]
   have:decide (AK ((p.length:Int) - 1) ≥ 0)=decide ((p.length:Int) > 0):=by rw[AQ (by omega),X28];simp;omega
   rw[this]
   split<;>rfl
  rw[if_neg (by omega),e1,ef,AG,e]
  rcases h1 with rfl | ⟨q,s,rfl,rfl⟩
  ·rw[if_neg (by simp),Ag (by decide) (by simp),AC,LR]
   rw[LR] at hsz
   exact hn (t.drop (4 * c.toNat),[⟨false,m⟩],(List.map JAC.toD []).length + 0,m) ⟨.inr ⟨[],false,rfl,rfl⟩,⟨by simp only[X22,hdl];simp only[X13] at h2;omega,by simp only[hdl];omega⟩,by simp only[hdl];omega⟩ (by simp only[hdl,X12];omega)
  simp only[X11,X22] at h2
  cases s
  ·rw[JK] at hsz
   rw[if_pos (by simp),SN (by omega),KI,AC]
   rw[Int.toNat_natCast]
   have ck:chk (q.length=q.length)=some ():=by unfold chk;rw[if_pos rfl]
   rw[ck,AC,Ag (by decide) (by omega),AC,AC,Wv,AC,JK]
   exact hn (t.drop (4 * c.toNat),q++[⟨false,l++m⟩],q.length,l++m) ⟨.inr ⟨q,false,rfl,rfl⟩,⟨by simp only[X11,X22,hdl];omega,by simp only[hdl];omega⟩,by simp only[hdl,X11];omega⟩ (by simp only[hdl,X12];omega)
  rw[Gq] at hsz
  rw[if_neg (by simp),Ag (by decide) (by simp;omega),AC,Gq]
  exact hn (t.drop (4 * c.toNat),q++[⟨true,l⟩]++[⟨false,m⟩],(List.map JAC.toD (q++[⟨true,l⟩])).length + 0,m) ⟨.inr ⟨q++[⟨true,l⟩],false,rfl,by simp⟩,⟨by simp only[X11,X22,hdl];omega,by simp only[hdl];omega⟩,by simp only[hdl];omega⟩ (by simp only[hdl,X12];omega)
end
end Go.AX.Q33
end
section
namespace Go.AX.Q33
open Go Go.AX
set_option maxRecDepth 8000
theorem JY {f:Int} (m:Int) {ρ:Type} {A B C:Option ρ} (hf:f≠192) :
  (if ((AK ((BitVec.ofInt 64 m &&& BitVec.ofInt 64 192).toNat:Int)) != f)=true then A else if (f != 192)=true then if (cond false true (cond true ((AK ((BitVec.ofInt 64 m &&& BitVec.ofInt 64 32).toNat:Int)) != 0) false))=true then A else B else C)=if (bt m 192==f&&(f==192 || bt m 32==0))=true then B else A:=by
 have d1:(AK ((BitVec.ofInt 64 m &&& BitVec.ofInt 64 192).toNat:Int))=bt m 192:=rfl
 have d2:(AK ((BitVec.ofInt 64 m &&& BitVec.ofInt 64 32).toNat:Int))=bt m 32:=rfl
 rw[d1,d2]
 have h3:(f==192)=false:=by simpa using hf
 have h4:(f != 192)=true:=by simpa using hf
 rw[h3,h4]
 unfold bne
 cases (bt m 192==f)<;>cases (bt m 32==0)<;>rfl
theorem NS (m:Int) {ρ:Type} {A B C:Option ρ} :
  (if ((AK ((BitVec.ofInt 64 m &&& BitVec.ofInt 64 192).toNat:Int)) != 192)=true then A else if ((192:Int) != 192)=true then C else B)=if (bt m 192==192&&((192:Int)==192 || bt m 32==0))=true then B else A:=by
 have d1:(AK ((BitVec.ofInt 64 m &&& BitVec.ofInt 64 192).toNat:Int))=bt m 192:=rfl
 rw[d1]
 unfold bne
 cases (bt m 192==192)<;>rfl
theorem Uw {len n:Nat} {ρ:Type} (K:Bool->Option ρ) (hn:0<n) (hl:len<=1000000000) :
  AI (τ:=Bool) (fun q=>if ((len:Int)==0)=true then q true else if (cond false true ((Int.tmod (len:Int) (n:Int)) != 0))=true then q true else q (cond false true (decide ((AK (Int.tdiv (len:Int) (n:Int))) > 64)))) K=K (!decide (len≠0/\len % n=0/\len / n<=64)):=by
 have e0:((len:Int)==0)=decide (len=0):=by rw[X28];simp
 have e1:((Int.tmod (len:Int) (n:Int)) != 0)=!decide (len % n=0):=by
  rw[Int.tmod_eq_emod_of_nonneg (by omega),<- Int.natCast_emod,X28]
  simp only[bne_iff_ne,ne_eq,Bool.not_eq_true',decide_eq_false_iff_not]
  omega
 have hd:len / n<=len:=Nat.div_le_self _ _
 have e2:AK (Int.tdiv (len:Int) (n:Int))=((len / n:Nat):Int):=by
  rw[Int.tdiv_eq_ediv_of_nonneg (by omega),<- Int.natCast_ediv,AQ (by generalize len / n=q at *;omega)]
 have e3:decide (((len / n:Nat):Int) > 64)=!decide (len / n<=64):=by
  rw[X28]
  simp only[decide_eq_true_eq,Bool.not_eq_true',decide_eq_false_iff_not]
  omega
 rw[AG,e0,e1,e2,e3]
 by_cases a1:len=0<;>by_cases a2:len % n=0<;>by_cases a3:len / n<=64<;>simp[a1,a2,a3]
theorem Wx (t:Int) {ρ:Type} (K:Bool->Option ρ):AI (τ:=Bool) (fun k142=>if (t==4)=true then k142 (t==4) else AI (τ:=Bool) (fun k143=>if (t==5)=true then k143 (t==5) else k143 (t==35)) fun v=>k142 v) K=K (t==4 || (t==5 || t==35)):=by
 rw[AG,AG]
 cases (t==4)<;>cases (t==5)<;>rfl
theorem TX {d:List UInt8} {n:Nat}:((d.length:Int) != (n:Int))=!decide (d.length=n):=by rw[X28];simp;omega
theorem Ns {d:List UInt8} (h:d.length=4):part d 0 (if (4:Int)<(d.length:Int) then 4 else (d.length:Int))=some d:=by
 rw[if_neg (by omega),show (0:Int)=((0:Nat):Int) by rfl,BM (by omega) (by omega)]
 simp
theorem LI (d:List UInt8) :∃r,part d 0 (if (4:Int)<(d.length:Int) then 4 else (d.length:Int))=some r:=by
 have e :∀n:Nat,n<=d.length->part d 0 (n:Int)=some (d.take n):=fun n h=>Oy h
 split
 ·exact⟨_,e 4 (by omega)⟩
 exact⟨_,e d.length (by omega)⟩
section
variable {ρ:Type} {F:Option ρ} {next:Int×(List JAC)×Bool×UInt64×UInt64×Int×Int×Int×(List JAA)×(List JAE)->Option ρ} {x:JAB} {a:JAF}
theorem Zc (h:x.Type_≠1/\x.Type_≠2/\x.Type_≠3/\x.Type_≠4/\x.Type_≠5/\x.Type_≠8/\x.Type_≠32/\x.Type_≠35) (e:fl x.Type_=0):EZ F next x (toR a)=match stepS a x with | none=>F | some a'=>next (toR a'):=by
 unfold EZ toR stepS
 dsimp only
 rw[AG,Bi,AC,e,if_pos (by decide),if_pos rfl]
theorem aJ (h:x.Type_=1) (e:fl x.Type_=64):EZ F next x (toR a)=match stepS a x with | none=>F | some a'=>next (toR a'):=by
 have er :∀d,Ft a 1 d=(Jg d).map fun v=>{ a with Origin:=v }:=fun _=>rfl
 unfold EZ toR stepS DN
 dsimp only
 rw[AG,Bi,AC,e,if_neg (by decide),AG,JY _ (by decide),if_neg (show ¬ (64:Int)=0 by decide),h,er]
 by_cases hr:(bt x.Flags 192==64&&((64:Int)==192 || bt x.Flags 32==0))=true
 rotate_left
 ·rw[if_neg hr,if_neg hr]
  rfl
 rw[if_pos hr,if_pos hr,AG,AG,AG]
 rw[if_pos (by decide)]
 rw[AG]
 unfold Jg
 match hx:x.Data with
 | []=>rfl
 | [y]=>
  have hy:DR [y]=(y.toNat:Int):=by
   rw[Gy (by simp)]
   simp[val]
  have g0:geti [y] 0=some y:=Fq
  rw[if_neg (by simp),g0,AC,AC,hy]
  by_cases hy2:y.toNat<=2
  ·rw[if_pos (show [y].length=1/\(y.toNat:Int)<=2 from ⟨rfl,by omega⟩)]
   have:decide ((y.toNat:Int) > 2)=false:=decide_eq_false (by omega)
   rw[this]
   rfl
  rw[if_neg (show ¬ ([y].length=1/\(y.toNat:Int)<=2) by omega)]
  have:decide ((y.toNat:Int) > 2)=true:=decide_eq_true (by omega)
  rw[this]
  rfl
 | y::z::t=>
  rw[if_pos (by simp;omega),if_neg (by simp)]
  rfl
theorem Zd (hd:x.Data.length<=1000000) (h:x.Type_=2) (e:fl x.Type_=64):EZ F next x (toR a)=match stepS a x with | none=>F | some a'=>next (toR a'):=by
 have er :∀d,Ft a 2 d=(Py d).map fun v=>{ a with Path:=v }:=fun _=>rfl
 unfold EZ toR stepS DN
 dsimp only
 rw[AG,Bi,AC,e,if_neg (by decide),AG,JY _ (by decide),if_neg (show ¬ (64:Int)=0 by decide),h,er]
 by_cases hr:(bt x.Flags 192==64&&((64:Int)==192 || bt x.Flags 32==0))=true
 rotate_left
 ·rw[if_neg hr,if_neg hr]
  rfl
 rw[if_pos hr,if_pos hr,AG,AG,AG]
 rw[if_neg (by decide)]
 rw[if_pos (by decide)]
 rw[Q0 hd]
 unfold Py
 cases hq:rdL x.Data [] with
 | none=>rfl
 | some p=>
  have hs:=Y6 hd hq
  dsimp only
  rw[Jf (by omega) (by omega),AC,AC,Option.bind_some,Ro (by omega) (by omega)]
  cases PY p<;>rfl
theorem aB (h:x.Type_=3) (e:fl x.Type_=64):EZ F next x (toR a)=match stepS a x with | none=>F | some a'=>next (toR a'):=by
 have er :∀d,Ft a 3 d=(SR d).map fun v=>{ a with Next:=v }:=fun _=>rfl
 unfold EZ toR stepS DN
 dsimp only
 rw[AG,Bi,AC,e,if_neg (by decide),AG,JY _ (by decide),if_neg (show ¬ (64:Int)=0 by decide),h,er]
 by_cases hr:(bt x.Flags 192==64&&((64:Int)==192 || bt x.Flags 32==0))=true
 rotate_left
 ·rw[if_neg hr,if_neg hr]
  rfl
 rw[if_pos hr,if_pos hr,AG,AG,AG]
 obtain⟨er',he⟩:=RG x.Data
 rw[if_neg (by decide),if_neg (by decide),AG,if_pos (by decide)]
 have e4:=TX (d:=x.Data) (n:=4)
 unfold SR
 by_cases h4:x.Data.length=4
 ·rw[if_neg (by rw[show ((4:Int))=((4:Nat):Int) by rfl,e4,decide_eq_true h4];decide),G1,he,AC,if_pos h4]
  rfl
 rw[if_pos (by rw[show ((4:Int))=((4:Nat):Int) by rfl,e4,decide_eq_false h4];rfl),if_neg h4]
 rfl
theorem Z5 (h:x.Type_=4) (e:fl x.Type_=128):EZ F next x (toR a)=match stepS a x with | none=>F | some a'=>next (toR a'):=by
 have er :∀d,Ft a 4 d=(rd4 d).map fun v=>{ a with MED:=v }:=fun _=>rfl
 unfold EZ toR stepS DN
 dsimp only
 rw[AG,Bi,AC,e,if_neg (by decide),AG,JY _ (by decide),if_neg (show ¬ (128:Int)=0 by decide),h,er]
 by_cases hr:(bt x.Flags 192==128&&((128:Int)==192 || bt x.Flags 32==0))=true
 rotate_left
 ·rw[if_neg hr,if_neg hr]
  rfl
 rw[if_pos hr,if_pos hr,AG,AG,AG]
 rw[if_neg (by decide),if_neg (by decide),AG,if_neg (by decide)]
 obtain⟨q,hq⟩:=LI x.Data
 simp only[AG]
 have e4:=TX (d:=x.Data) (n:=4)
 have e4:((x.Data.length:Int) != 4)=!decide (x.Data.length=4):=e4
 rw[if_pos (by decide),if_pos (by decide)]
 unfold rd4
 by_cases h4:x.Data.length=4
 ·rw[Ns h4,AC,BB,AC,if_neg (by rw[e4,decide_eq_true h4];decide)]
  rw[if_pos h4]
  rfl
 rw[hq,AC,BB,AC,if_pos (by rw[e4,decide_eq_false h4];rfl),if_pos trivial,if_neg h4]
 rfl
theorem Z3 (h:x.Type_=5) (e:fl x.Type_=64):EZ F next x (toR a)=match stepS a x with | none=>F | some a'=>next (toR a'):=by
 have er :∀d,Ft a 5 d=(rd4 d).map fun v=>{ a with Pref:=v }:=fun _=>rfl
 unfold EZ toR stepS DN
 dsimp only
 rw[AG,Bi,AC,e,if_neg (by decide),AG,JY _ (by decide),if_neg (show ¬ (64:Int)=0 by decide),h,er]
 by_cases hr:(bt x.Flags 192==64&&((64:Int)==192 || bt x.Flags 32==0))=true
 rotate_left
 ·rw[if_neg hr,if_neg hr]
  rfl
 rw[if_pos hr,if_pos hr,AG,AG,AG]
 rw[if_neg (by decide),if_neg (by decide),AG,if_neg (by decide)]
 obtain⟨q,hq⟩:=LI x.Data
 simp only[AG]
 have e4:=TX (d:=x.Data) (n:=4)
 have e4:((x.Data.length:Int) != 4)=!decide (x.Data.length=4):=e4
 rw[if_neg (by decide),if_pos (by decide),if_pos (by decide)]
 unfold rd4
 by_cases h4:x.Data.length=4
 ·rw[Ns h4,AC,BB,AC,if_neg (by rw[e4,decide_eq_true h4];decide)]
  rw[if_pos h4]
  rfl
 rw[hq,AC,BB,AC,if_pos (by rw[e4,decide_eq_false h4];rfl),if_pos trivial,if_neg h4]
 rfl
theorem Z1 (hd:x.Data.length<=1000000) (hc:a.Communities=[]) (h:x.Type_=8) (e:fl x.Type_=192):EZ F next x (toR a)=match stepS a x with | none=>F | some a'=>next (toR a'):=by
 have er :∀d,Ft a 8 d=(QP d).map fun v=>{ a with Communities:=v }:=fun _=>rfl
 unfold EZ toR stepS DN
 dsimp only
 rw[AG,Bi,AC,e,if_neg (by decide),AG,NS,if_neg (show ¬ (192:Int)=0 by decide),h,er]
 by_cases hr:(bt x.Flags 192==192&&((192:Int)==192 || bt x.Flags 32==0))=true
 rotate_left
 ·rw[if_neg hr,if_neg hr]
  rfl
 rw[if_pos hr,if_pos hr,AG,AG,AG]
 rw[if_neg (by decide),if_neg (by decide),AG,if_neg (by decide),Wx,show ((8:Int)==4 || ((8:Int)==5 || (8:Int)==35))=false from rfl,AG,if_neg (by decide),AG]
 have ec:=fun K=>Uw (ρ:=ρ) (len:=x.Data.length) (n:=4) K (by omega) (by omega)
 unfold QP
 rw[if_pos (by decide)]
 refine (ec _).trans ?_
 by_cases g:x.Data.length≠0/\x.Data.length % 4=0/\x.Data.length / 4<=64
 ·rw[decide_eq_true g,if_neg (by decide),if_pos g,hc,cK g.2.1 g.2.2]
  rfl
 rw[decide_eq_false g,if_neg g]
 rfl
theorem YG (hd:x.Data.length<=1000000) (hc:a.JAE=[]) (h:x.Type_=32) (e:fl x.Type_=192):EZ F next x (toR a)=match stepS a x with | none=>F | some a'=>next (toR a'):=by
 have er :∀d,Ft a 32 d=(KD d).map fun v=>{ a with JAE:=v }:=fun _=>rfl
 unfold EZ toR stepS DN
 dsimp only
 rw[AG,Bi,AC,e,if_neg (by decide),AG,NS,if_neg (show ¬ (192:Int)=0 by decide),h,er]
 by_cases hr:(bt x.Flags 192==192&&((192:Int)==192 || bt x.Flags 32==0))=true
 rotate_left
 ·rw[if_neg hr,if_neg hr]
  rfl
 rw[if_pos hr,if_pos hr,AG,AG,AG]
 rw[if_neg (by decide),if_neg (by decide),AG,if_neg (by decide),Wx,show ((32:Int)==4 || ((32:Int)==5 || (32:Int)==35))=false from rfl,AG,if_neg (by decide),AG]
 rw[if_neg (by decide),AG]
 have ec:=fun K=>Uw (ρ:=ρ) (len:=x.Data.length) (n:=12) K (by omega) (by omega)
 unfold KD
 rw[if_pos (by decide)]
 refine (ec _).trans ?_
 by_cases g:x.Data.length≠0/\x.Data.length % 12=0/\x.Data.length / 12<=64
 ·rw[decide_eq_true g,if_neg (by decide),if_pos g,hc,bC g.2.1 g.2.2]
  rfl
 rw[decide_eq_false g,if_neg g]
 rfl
theorem Yd (h:x.Type_=35) (e:fl x.Type_=192):EZ F next x (toR a)=match stepS a x with | none=>F | some a'=>next (toR a'):=by
 have er :∀d,Ft a 35 d=(W2 d).map fun v=>{ a with OTC:=v }:=fun _=>rfl
 unfold EZ toR stepS DN
 dsimp only
 rw[AG,Bi,AC,e,if_neg (by decide),AG,NS,if_neg (show ¬ (192:Int)=0 by decide),h,er]
 by_cases hr:(bt x.Flags 192==192&&((192:Int)==192 || bt x.Flags 32==0))=true
 rotate_left
 ·rw[if_neg hr,if_neg hr]
  rfl
 rw[if_pos hr,if_pos hr,AG,AG,AG]
 rw[if_neg (by decide),if_neg (by decide),AG,if_neg (by decide)]
 obtain⟨q,hq⟩:=LI x.Data
 simp only[AG]
 have e4:=TX (d:=x.Data) (n:=4)
 have e4:((x.Data.length:Int) != 4)=!decide (x.Data.length=4):=e4
 rw[if_neg (by decide),if_neg (by decide),if_pos (by decide)]
 unfold W2
 by_cases h4:x.Data.length=4
 ·rw[Ns h4,AC,BB,AC,if_neg (by rw[e4,decide_eq_true h4];decide)]
  by_cases h0:DR x.Data=0
  ·rw[if_neg (show ¬ (x.Data.length=4/\DR x.Data≠0) from fun q=>q.2 h0),h0]
   rfl
  rw[if_pos (show x.Data.length=4/\DR x.Data≠0 from ⟨h4,h0⟩)]
  have h0':(DR x.Data==0)=false:=by simpa using h0
  rw[if_pos (by decide),h0']
  rfl
 rw[hq,AC,BB,AC,if_pos (by rw[e4,decide_eq_false h4];rfl),if_pos trivial,if_neg (show ¬ (x.Data.length=4/\DR x.Data≠0) from fun q=>h4 q.1)]
 rfl
end
end Go.AX.Q33
end
section
namespace Go.AX.Q33
open Go Go.AX
set_option maxRecDepth 8000
def B5 (l:List JAB) (t:Int):Bool:=l.any fun y=>t==y.Type_
def Ap (l:List JAB):List JAB:=l.foldl (fun acc x=>if B5 acc x.Type_ then acc else acc++[x]) []
theorem I7 (l:List JAB) (x:JAB):Ap (l++[x])=if B5 (Ap l) x.Type_ then Ap l else Ap l++[x]:=by
 unfold Ap
 rw[List.foldl_append]
 rfl
theorem Yb {l:List JAB} {t:Int}:B5 l t=true ↔∃y ∈ l,y.Type_=t:=by
 unfold B5
 rw[List.any_eq_true]
 simp only[beq_iff_eq]
 exact⟨fun ⟨y,h1,h2⟩=>⟨y,h1,h2.symm⟩,fun ⟨y,h1,h2⟩=>⟨y,h1,h2.symm⟩⟩
theorem JS (l m:List JAB) (t:Int):B5 (l++m) t=(B5 l t || B5 m t):=by unfold B5;rw[List.any_append]
def Xe (l:List JAB):Prop:=l.Pairwise fun a b=>a.Type_≠b.Type_
theorem Ci (l:List JAB):Xe (Ap l)/\(∀x ∈ Ap l,x ∈ l)/\(∀t,B5 (Ap l) t=B5 l t)/\(Ap l).length<=l.length:=by
 rw[<- List.reverse_reverse l]
 generalize l.reverse=m
 induction m with
 | nil=>exact⟨.nil,by simp[Ap],fun t=>rfl,Nat.le_refl _⟩
 | cons x t ih=>
  obtain⟨h1,h2,h3,h4⟩:=ih
  rw[List.reverse_cons,I7]
  by_cases hx:B5 (Ap t.reverse) x.Type_=true
  ·rw[if_pos hx]
   refine⟨h1,fun y hy=>List.mem_append_left _ (h2 y hy),fun u=>?_,by simp only[X11];omega⟩
   rw[h3 u,JS]
   by_cases hu:u=x.Type_
   ·subst hu
    rw[<- h3,hx];rfl
   have:B5 [x] u=false:=by unfold B5;simp[hu]
   rw[this,Bool.or_false]
  rw[if_neg hx]
  refine⟨List.pairwise_append.2 ⟨h1,by simp,fun a ha b hb e=>?_⟩,fun y hy=>?_,fun u=>by rw[JS,JS,h3],by simp only[X11,X22];omega⟩
  ·rw[X14] at hb
   subst hb
   exact hx (Yb.2 ⟨a,ha,e⟩)
  rcases X23.1 hy with hy | hy
  ·exact List.mem_append_left _ (h2 y hy)
  exact List.mem_append_right _ hy
theorem Zw {l:List JAB} (hl:l.length<=1000000):DI l=some (Ap l):=by
 have:Ok (DI l) fun r=>r=Ap l:=by
  unfold DI
  refine .join (fun r=>r=Ap l) (fun k hk=>?_) fun r hr=>.ret hr
  refine .forX (fun i s=>s.2=Ap (l.take i)/\∀t,(Df s.1 t).getD false=B5 s.2 t) ⟨rfl,fun t=>rfl⟩ (fun s hs=>hk _ (by rw[hs.1,List.take_length])) ?_
  rintro next x i ⟨m,o⟩ hx ⟨h1,h2⟩ hn
  dsimp only at h1 h2
  have hil:=(X16.1 hx).1
  have hlen:=(Ci (l.take i)).2.2.2
  rw[<- h1,X18] at hlen
  have e:l.take (i + 1)=l.take i++[x]:=by rw[List.take_add_one,hx];rfl
  have hs:=I7 (l.take i) x
  rw[<- e,<- h1] at hs
  refine .bind (P:=fun v=>v=B5 o x.Type_) ⟨_,rfl,h2 _⟩ fun v hv=>?_
  subst hv
  refine .join (fun r=>r=Ap (l.take (i + 1))/\∀t,B5 r t=(t==x.Type_ || B5 o t)) (fun k hk=>.ite (fun hc=>.bind (Ok.apnd (by decide) (by simp;omega)) fun r hr=>hk r ?_) fun hc=>hk o ?_) fun r hr=>hn _ ⟨hr.1,fun t=>?_⟩
  ·have hc:B5 o x.Type_=false:=by simpa using hc
   rw[hc,if_neg (by decide)] at hs
   rw[hs,hr]
   refine⟨rfl,fun t=>?_⟩
   rw[JS,Bool.or_comm]
   unfold B5;simp
  ·have hc:B5 o x.Type_=true:=by simpa using hc
   rw[hc,if_pos rfl] at hs
   rw[hs]
   refine⟨rfl,fun t=>?_⟩
   by_cases ht:t=x.Type_
   ·subst ht;rw[hc];simp
   have:(t==x.Type_)=false:=by simpa using ht
   rw[this];rfl
  dsimp only
  rw[hr.2,EA,<- h2]
  cases (t==x.Type_)<;>rfl
 obtain⟨r,h1,h2⟩:=this
 rw[h1,h2]
theorem Zt {l:List JAB} (hl:l.length<=1000000):FO l=some (Ap l):=by
 have:Ok (FO l) fun r=>r=Ap l:=by
  unfold FO
  refine .join (fun r=>r=Ap l) (fun k hk=>?_) fun r hr=>.ret hr
  refine .forX (fun i s=>s.1=Ap (l.take i)/\∀t,(Df s.2 t).getD false=B5 s.1 t) ⟨rfl,fun t=>rfl⟩ (fun s hs=>hk _ (by rw[hs.1,List.take_length])) ?_
  rintro next x i ⟨o,m⟩ hx ⟨h1,h2⟩ hn
  dsimp only at h1 h2
  have hil:=(X16.1 hx).1
  have hlen:=(Ci (l.take i)).2.2.2
  rw[<- h1,X18] at hlen
  have e:l.take (i + 1)=l.take i++[x]:=by rw[List.take_add_one,hx];rfl
  have hs:=I7 (l.take i) x
  rw[<- e,<- h1] at hs
  refine .bind (P:=fun v=>v=B5 o x.Type_) ⟨_,rfl,h2 _⟩ fun v hv=>?_
  subst hv
  refine .join (fun r=>r=Ap (l.take (i + 1))/\∀t,B5 r t=(t==x.Type_ || B5 o t)) (fun k hk=>.ite (fun hc=>.bind (Ok.apnd (by decide) (by simp;omega)) fun r hr=>hk r ?_) fun hc=>hk o ?_) fun r hr=>hn _ ⟨hr.1,fun t=>?_⟩
  ·have hc:B5 o x.Type_=false:=by simpa using hc
   rw[hc,if_neg (by decide)] at hs
   rw[hs,hr]
   refine⟨rfl,fun t=>?_⟩
   rw[JS,Bool.or_comm]
   unfold B5;simp
  ·have hc:B5 o x.Type_=true:=by simpa using hc
   rw[hc,if_pos rfl] at hs
   rw[hs]
   refine⟨rfl,fun t=>?_⟩
   by_cases ht:t=x.Type_
   ·subst ht;rw[hc];simp
   have:(t==x.Type_)=false:=by simpa using ht
   rw[this];rfl
  dsimp only
  rw[hr.2,EA,<- h2]
  cases (t==x.Type_)<;>rfl
 obtain⟨r,h1,h2⟩:=this
 rw[h1,h2]
def J7:JAF->List JAB->Option JAF
 | a,[]=>some a
 | a,x::t=>(stepS a x).bind fun a'=>J7 a' t
structure Fit (l:List JAB) (a:JAF):Prop where
 d:Xe l
 z :∀x ∈ l,x.Data.length<=1000000
 p :∀x ∈ l,x.Type_=2->a.Path=[]
 c :∀x ∈ l,x.Type_=8->a.Communities=[]
 l :∀x ∈ l,x.Type_=32->a.JAE=[]
theorem Ug {a a':JAF} {x:JAB} (h:stepS a x=some a'):(x.Type_≠2->a'.Path=a.Path)/\(x.Type_≠8->a'.Communities=a.Communities)/\(x.Type_≠32->a'.JAE=a.JAE)/\a'.Other=a.Other:=by
 unfold stepS at h
 split at h
 ·obtain rfl:=X25 h
  exact⟨fun _=>rfl,fun _=>rfl,fun _=>rfl,rfl⟩
 split at h
 ·unfold Ft at h
  rcases IH x.Type_ with ⟨e,_⟩|⟨e,_⟩|⟨e,_⟩|⟨e,_⟩|⟨e,_⟩|⟨e,_⟩|⟨e,_⟩|⟨e,_⟩|⟨e1,e2,e3,e4,e5,e6,e7,e8,_⟩
  iterate 8
   ·rw[e] at h ⊢
    obtain⟨v,_,rfl⟩:=Option.map_eq_some_iff.1 h
    exact⟨fun q=>by first | rfl | exact absurd rfl q,fun q=>by first | rfl | exact absurd rfl q,fun q=>by first | rfl | exact absurd rfl q,rfl⟩
  rw[if_neg e1,if_neg e2,if_neg e3,if_neg e4,if_neg e5,if_neg e6,if_neg e7,if_neg e8] at h
  obtain rfl:=X25 h
  exact⟨fun _=>rfl,fun _=>rfl,fun _=>rfl,rfl⟩
 simp at h
theorem Fit.next {x:JAB} {t:List JAB} {a a':JAF} (f:Fit (x::t) a) (h:stepS a x=some a'):Fit t a':=by
 obtain⟨k1,k2,k3,_⟩:=Ug h
 obtain⟨d1,d2⟩:=List.pairwise_cons.1 f.d
 exact⟨d2,fun y hy=>f.z y (X19 _ hy),fun y hy e=>(k1 (e ▸ d1 y hy)).trans (f.p y (X19 _ hy) e),
  fun y hy e=>(k2 (e ▸ d1 y hy)).trans (f.c y (X19 _ hy) e),fun y hy e=>(k3 (e ▸ d1 y hy)).trans (f.l y (X19 _ hy) e)⟩
theorem Yj {ρ:Type} {F:Option ρ} {next:Int×Bool×UInt64×UInt64×Int×Int×Int×(List JAC)×(List JAA)×(List JAE)->Option ρ} {x:JAB} {a:JAF} {t:List JAB} (f:Fit (x::t) a):EY F next x (toP a)=match stepS a x with | none=>F | some a'=>next (toP a'):=by
 have hd:=f.z x (by simp)
 rcases IH x.Type_ with ⟨h,e⟩|⟨h,e⟩|⟨h,e⟩|⟨h,e⟩|⟨h,e⟩|⟨h,e⟩|⟨h,e⟩|⟨h,e⟩|⟨h1,h2,h3,h4,h5,h6,h7,h8,e⟩
 ·exact aF h e
 ·exact Zk hd h e (f.p x (by simp) h)
 ·exact Z6 h e
 ·exact Zg h e
 ·exact ZX h e
 ·exact ZV hd h e
 ·exact ZL hd h e
 ·exact ZI h e
 exact aL ⟨h1,h2,h3,h4,h5,h6,h7,h8⟩ e
theorem YX {ρ:Type} {F:Option ρ} {next:Int×(List JAC)×Bool×UInt64×UInt64×Int×Int×Int×(List JAA)×(List JAE)->Option ρ} {x:JAB} {a:JAF} {t:List JAB} (f:Fit (x::t) a):EZ F next x (toR a)=match stepS a x with | none=>F | some a'=>next (toR a'):=by
 have hd:=f.z x (by simp)
 rcases IH x.Type_ with ⟨h,e⟩|⟨h,e⟩|⟨h,e⟩|⟨h,e⟩|⟨h,e⟩|⟨h,e⟩|⟨h,e⟩|⟨h,e⟩|⟨h1,h2,h3,h4,h5,h6,h7,h8,e⟩
 ·exact aJ h e
 ·exact Zd hd h e
 ·exact aB h e
 ·exact Z5 h e
 ·exact Z3 h e
 ·exact Z1 hd (f.c x (by simp) h) h e
 ·exact YG hd (f.l x (by simp) h) h e
 ·exact Yd h e
 exact Zc ⟨h1,h2,h3,h4,h5,h6,h7,h8⟩ e
theorem aR {ρ:Type} {F:Option ρ} {K:Int×Bool×UInt64×UInt64×Int×Int×Int×(List JAC)×(List JAA)×(List JAE)->Option ρ} :∀(l:List JAB) (i:Nat) (a:JAF),Fit l a->An K (fun next x _ s=>EY F next x s) l i (toP a)=match J7 a l with | none=>F | some a'=>K (toP a')
 | [],_,_,_=>rfl
 | x::t,i,a,f=>by
  show EY F (fun s=>An K (fun next x _ s=>EY F next x s) t (i + 1) s) x (toP a)=_
  rw[Yj f]
  unfold J7
  cases h:stepS a x with
  | none=>rfl
  | some a'=>exact aR t (i + 1) a' (f.next h)
theorem aN {ρ:Type} {F:Option ρ} {K:Int×(List JAC)×Bool×UInt64×UInt64×Int×Int×Int×(List JAA)×(List JAE)->Option ρ} :∀(l:List JAB) (i:Nat) (a:JAF),Fit l a->An K (fun next x _ s=>EZ F next x s) l i (toR a)=match J7 a l with | none=>F | some a'=>K (toR a')
 | [],_,_,_=>rfl
 | x::t,i,a,f=>by
  show EZ F (fun s=>An K (fun next x _ s=>EZ F next x s) t (i + 1) s) x (toR a)=_
  rw[YX f]
  unfold J7
  cases h:stepS a x with
  | none=>rfl
  | some a'=>exact aN t (i + 1) a' (f.next h)
def Ia (x:JAB):Bool:=unk x.Type_&&(decide (1<=x.Type_/\x.Type_<=255)&&(bt x.Flags 64 != 0&&decide (x.Data.length<=255)))
def conv (x:JAB):JAB:=⟨224,x.Type_,x.Data⟩
def E4 (l:List JAB):List JAB:=(List.range' 1 255).flatMap fun (k:Nat)=>l.flatMap fun x=>if (x.Type_==(k:Int)&&Ia x)=true then [conv x] else []
def Q9 (x:JAB):List Int:=[x.Type_]
theorem QV (a b:JAB):(Q9 a).length=(Q9 b).length:=rfl
theorem XE {l:List JAB} {y:JAB}:y ∈ E4 l ↔∃x ∈ l,Ia x=true/\y=conv x:=by
 unfold E4
 simp only[List.mem_flatMap,List.mem_range'_1]
 constructor
 ·rintro⟨k,hk,x,hx,h⟩
  split at h
  ·rename_i hc
   simp only[X27] at hc
   exact⟨x,hx,hc.2,by simpa using h⟩
  simp at h
 rintro⟨x,hx,hk,rfl⟩
 have hk':=hk
 simp only[Ia,X27,decide_eq_true_eq] at hk'
 refine⟨x.Type_.toNat,by omega,x,hx,?_⟩
 rw[if_pos]
 ·simp
 rw[hk,Bool.and_true,beq_iff_eq];omega
theorem R1 {α:Type} {R:α->α->Prop} {c:Bool} {x:α}:(if c=true then [x] else []).Pairwise R:=by
 cases c
 ·exact .nil
 exact List.pairwise_singleton _ _
theorem TR {l:List JAB} (h:Xe l):(E4 l).Pairwise fun a b=>ltK Q9 a b=true:=by
 unfold E4
 rw[List.pairwise_flatMap]
 have hm :∀(k:Nat) (x y:JAB),y ∈ (if (x.Type_==(k:Int)&&Ia x)=true then [conv x] else [])->y.Type_=k/\x.Type_=k:=by
  intro k x y hy
  split at hy
  ·rename_i hc
   simp only[X27,beq_iff_eq] at hc
   rw[X14] at hy
   subst hy
   exact⟨hc.1,hc.1⟩
  simp at hy
 constructor
 ·intro k _
  rw[List.pairwise_flatMap]
  refine⟨fun x _=>R1,h.imp fun {a b} hab x hx y hy=>?_⟩
  exact absurd ((hm k a x hx).2.trans (hm k b y hy).2.symm) hab
 refine (List.pairwise_lt_range' (s:=1) (n:=255)).imp fun {a b} hab x hx y hy=>?_
 obtain⟨x1,_,hx1⟩:=List.mem_flatMap.1 hx
 obtain⟨y1,_,hy1⟩:=List.mem_flatMap.1 hy
 have e1:=(hm a x1 x hx1).1
 have e2:=(hm b y1 y hy1).1
 unfold ltK Q9
 rw[decide_eq_true_eq,XY,if_pos (by omega)]
 decide
end Go.AX.Q33
end
section
namespace Go.AX.Q33
open Go Go.AX
set_option maxRecDepth 8000
def Sm (l:List JAB):Prop:=l.length<=1000000/\∀x ∈ l,x.Data.length<=1000000
def MZ (x:JAB):Bool:=unk x.Type_&&bt x.Flags 128==0
def zA:JAF:=⟨0,[],(⟨false,(0:UInt64),(0:UInt64)⟩:Addr),0,0,0,[],[],[]⟩
def eA:JAF:=⟨(-1),[],(⟨false,(0:UInt64),(0:UInt64)⟩:Addr),(-1),(-1),(-1),[],[],[]⟩
def rdS (l:List JAB):JAF×Int:=
 if (Ap l).any MZ=true then (zA,12) else match J7 eA (Ap l) with
 | none=>(zA,13)
 | some a=>if (E4 (Ap l)).length > 8 then (zA,3) else ({ a with Other:=E4 (Ap l) },0)
theorem ZK (x:JAB):DJ x=some (MZ x):=by
 unfold DJ MZ
 rw[AG,Ge,AC]
 show (if unk x.Type_=true then some (cond true (bt x.Flags 128==0) false) else some false)=_
 cases unk x.Type_<;>rfl
theorem VM (l:List JAB):Ad l=some (l.any MZ):=
 aO (f:=DJ) (q:=MZ) fun x _=>ZK x
theorem RP {l:List JAB} (h:Sm l):Fit (Ap l) eA:=
 ⟨(Ci l).1,fun x hx=>h.2 x ((Ci l).2.1 x hx),fun _ _ _=>rfl,fun _ _ _=>rfl,fun _ _ _=>rfl⟩
def Me (x:JAB):List JAB:=if Ia x=true then [conv x] else []
theorem UW (x:JAB):(Me x).length<=1:=by unfold Me;split<;>simp
theorem Lr {α β:Type} {g:α->List β} (hg :∀x,(g x).length<=1) :∀l:List α,(l.flatMap g).length<=l.length
 | []=>by simp
 | x::t=>by
  rw[List.flatMap_cons,X11,X12]
  have:=Lr hg t
  have:=hg x
  omega
theorem Zm {l:List JAB} {y:JAB}:y ∈ l.flatMap Me ↔∃x ∈ l,Ia x=true/\y=conv x:=by
 rw[List.mem_flatMap]
 constructor
 ·rintro⟨x,hx,h⟩
  unfold Me at h
  split at h
  ·exact⟨x,hx,‹_›,by simpa using h⟩
  simp at h
 rintro⟨x,hx,hk,rfl⟩
 refine⟨x,hx,?_⟩
 unfold Me
 rw[if_pos hk];simp
theorem ZD {l:List JAB} (h:Xe l):(l.flatMap Me).Pairwise fun a b=>Q9 a≠Q9 b:=by
 rw[List.pairwise_flatMap]
 refine⟨fun x _=>R1,h.imp fun {a b} hab x hx y hy e=>?_⟩
 unfold Me at hx hy
 split at hx
 ·split at hy
  ·rw[X14] at hx hy
   subst hx hy
   exact hab (by simpa[Q9,conv] using e)
  simp at hy
 simp at hx
theorem X3 (a b:JAB):DL a b=some (Fj (Q9 a) (Q9 b)):=by
 unfold DL Q9
 rw[KH,AC]
 unfold Yg Fj Fj
 rfl
theorem RS {l:List JAB} (h:Xe l) (hl:l.length<=1000000):FR DL (l.flatMap Me)=some (E4 l):=by
 have hlen:=Lr UW l
 obtain⟨r,h1,h2,h3⟩:=TU QV X3 (l:=l.flatMap Me) (by omega)
 rw[h1]
 congr 1
 refine Z2 QV (XI QV h3 ?_) (TR h) fun x=>?_
 ·exact (h2.pairwise_iff fun h e=>h e.symm).2 (ZD h)
 rw[h2.mem_iff,Zm,XE]
theorem XJ {l:List JAB} (h:Xe l) (hl:l.length<=1000000):(E4 l).length=(l.flatMap Me).length:=by
 exact (KF (RS h hl))
theorem cy {l:List JAB} (hl:l.length<=1000000) (hz :∀x ∈ l,x.Data.length<=1000000) {ρ:Type} {K:List JAB->Option ρ} :
  An (σ:=List JAB) K (fun next x _ v=>
   AI (τ:=Bool) (fun k198=>
      Option.bind (Ba x.Type_) fun v199=>
      if v199=true then
       Option.bind (CV x.Type_ 1 255) fun v200=>
       if (cond true v200 false)=true then
        if (cond true ((AK ((BitVec.ofInt 64 x.Flags &&& BitVec.ofInt 64 64).toNat:Int)) != 0) false)=true then
         k198 (cond true (decide ((x.Data.length:Int)<=255)) false)
        else
         k198 false
       else
        k198 false
      else
       k198 false
     ) fun v201=>
     AI (τ:=(List JAB)) (fun k202=>
      if v201=true then
       Option.bind (B9 x.Data) fun v203=>
       Option.bind (apnd (α:=JAB) 40 v ([(⟨224,x.Type_,v203⟩:JAB)]:List JAB)) fun v204=>
       k202 v204
      else
       k202 v
     ) fun v205=>
     next v205) l 0 []=K (l.flatMap Me):=by
 have hlen:=Lr UW l
 refine (bJ (g:=Me) (N:=1000000) (by simp only[X13];omega) fun next x i v hx hv=>?_).trans (by rw[List.nil_append])
 have hc :∀k:Bool->Option ρ,AI (τ:=Bool) (fun k198=>
      Option.bind (Ba x.Type_) fun v199=>
      if v199=true then
       Option.bind (CV x.Type_ 1 255) fun v200=>
       if (cond true v200 false)=true then
        if (cond true ((AK ((BitVec.ofInt 64 x.Flags &&& BitVec.ofInt 64 64).toNat:Int)) != 0) false)=true then
         k198 (cond true (decide ((x.Data.length:Int)<=255)) false)
        else
         k198 false
       else
        k198 false
      else
       k198 false
     ) k=k (Ia x):=by
  intro k
  unfold Ia
  have d1:(AK ((BitVec.ofInt 64 x.Flags &&& BitVec.ofInt 64 64).toNat:Int))=bt x.Flags 64:=rfl
  have d2:decide ((x.Data.length:Int)<=255)=decide (x.Data.length<=255):=by rw[X28];simp;omega
  have d3:decide (1<=x.Type_/\x.Type_<=255)=(decide (1<=x.Type_)&&decide (x.Type_<=255)):=by rw[X28];simp
  rw[AG,Ge,AC,XN,AC,d1,d2,d3]
  cases unk x.Type_<;>cases decide (1<=x.Type_)<;>cases decide (x.Type_<=255)<;>cases (bt x.Flags 64 != 0)<;>cases decide (x.Data.length<=255)<;>rfl
 rw[hc,AG]
 unfold Me at hv ⊢
 by_cases hk:Ia x=true
 ·rw[if_pos hk] at hv
  have:=hz x hx
  simp only[X22] at hv
  rw[if_pos hk,if_pos hk]
  unfold B9
  rw[Ag (by decide) (by simp;omega),AC,AC,List.nil_append,Ag (by decide) (by simp;omega),AC]
  rfl
 rw[if_neg hk,if_neg hk,List.append_nil]
theorem UM {l:List JAB} (h:Sm l):D9 l=some (rdS l):=by
 obtain⟨h1,h2⟩:=h
 have hlen:=(Ci l).2.2.2
 have hm:=(Ci l).2.1
 unfold D9 rdS
 rw[Zw h1,AC,VM,AC]
 by_cases hb:(Ap l).any MZ=true
 ·rw[if_pos hb,if_pos hb];rfl
 rw[if_neg hb,if_neg hb,AG,AG]
 rw[AG]
 refine (aR (Ap l) 0 eA (RP ⟨h1,h2⟩)).trans ?_
 cases hf:J7 eA (Ap l) with
 | none=>rfl
 | some a=>
  show (if (!true)=true then _ else AI _ _)=_
  rw[if_neg (by decide),AG]
  refine (cy (l:=Ap l) (by omega) fun x hx=>h2 x (hm x hx)).trans ?_
  have hk:=XJ (l:=Ap l) (Ci l).1 (by omega)
  show (if decide (((List.flatMap Me (Ap l)).length:Int) > 8)=true then _ else _)=_
  by_cases h8:(E4 (Ap l)).length > 8
  ·rw[if_pos (by simp only[decide_eq_true_eq];omega)]
   show _=some (if (E4 (Ap l)).length > 8 then _ else _)
   rw[if_pos h8];rfl
  rw[if_neg (by simp only[decide_eq_true_eq];omega),RS (Ci l).1 (by omega),AC]
  show _=some (if (E4 (Ap l)).length > 8 then _ else _)
  rw[if_neg h8]
def Rf (k:Int) (x:JAB):List JAB:=if (x.Type_==k&&Ia x)=true then [conv x] else []
theorem Xd (k:Int) (x:JAB):(Rf k x).length<=1:=by unfold Rf;split<;>simp
theorem cQ {l:List JAB} (hl:l.length<=1000000) (hz :∀x ∈ l,x.Data.length<=1000000) {K:List JAB->Option (JAF×Int)} :
  AI (τ:=(List JAB)) (fun k264=>
  Av (σ:=Int×(List JAB)) (fun next265 p=>match p with
   | (v266,v267)=>if (decide (v266<256))=true then
    AI (τ:=(List JAB)) (fun k268=>
     AI (τ:=(List JAB)) (fun k269=>
      An (σ:=(List JAB)) (fun v270=>
       k269 v270
      ) (fun next271 (x272:JAB) i273 v270=>
       AI (τ:=Bool) (fun k274=>
        if (x272.Type_==v266)=true then
         Option.bind (BQ v266) fun v275=>
         if (cond true v275 false)=true then
          if (cond true ((AK ((BitVec.ofInt 64 x272.Flags &&& BitVec.ofInt 64 64).toNat:Int)) != 0) false)=true then
           k274 (cond true (decide ((x272.Data.length:Int)<=255)) false)
          else
           k274 false
         else
          k274 false
        else
         k274 false
       ) fun v276=>
       AI (τ:=(List JAB)) (fun k277=>
        if v276=true then
         Option.bind (apnd (α:=UInt8) 1 [] x272.Data) fun _=>
         Option.bind (apnd (α:=JAB) 40 v270 ([(⟨224,v266,x272.Data⟩:JAB)]:List JAB)) fun v278=>
         k277 v278
        else
         k277 v270
       ) fun v279=>
       next271 v279
      ) l 0 v267
     ) fun v280=>
     k268 v280
    ) fun v281=>
    next265 ((AK (v266 + 1)),v281)
   else
    k264 v267
  ) fuel (1,[])
 ) K=K (E4 l):=by
 rw[AG]
 refine (CU (fun s:Int×List JAB=>∃k:Nat,s.1=k/\1<=k/\k<=256/\s.2.length<=k * 1000000) (fun s=>(256 - s.1).toNat) (fun s=>K (s.2++(List.range' s.1.toNat (256 - s.1.toNat)).flatMap fun (k:Nat)=>l.flatMap (Rf k))) ?_ fuel (1,[]) ⟨1,rfl,by omega,by omega,by simp⟩ (Bo (by simp only;omega))).trans rfl
 rintro next ⟨kk,v⟩ ⟨k,rfl,hk1,hk2,hv⟩ hn
 dsimp only at hv ⊢
 by_cases hk:k<256
 ·rw[if_pos (by simp only[decide_eq_true_eq];omega),AG,AG]
  have hlen:=Lr (Xd k) l
  refine (bJ (g:=Rf k) (N:=(k + 1) * 1000000) (by omega) fun next2 x i w hx hw=>?_).trans ?_
  ·have hc :∀q:Bool->Option (JAF×Int),AI (τ:=Bool) (fun k274=>
        if (x.Type_==(k:Int))=true then
         Option.bind (BQ k) fun v275=>
         if (cond true v275 false)=true then
          if (cond true ((AK ((BitVec.ofInt 64 x.Flags &&& BitVec.ofInt 64 64).toNat:Int)) != 0) false)=true then
           k274 (cond true (decide ((x.Data.length:Int)<=255)) false)
          else
           k274 false
         else
          k274 false
        else
         k274 false
       ) q=q (x.Type_==(k:Int)&&Ia x):=by
    intro q
    unfold Ia
    have d1:(AK ((BitVec.ofInt 64 x.Flags &&& BitVec.ofInt 64 64).toNat:Int))=bt x.Flags 64:=rfl
    have d2:decide ((x.Data.length:Int)<=255)=decide (x.Data.length<=255):=by rw[X28];simp;omega
    rw[AG,IK,AC,d1,d2]
    by_cases ht:x.Type_=(k:Int)
    ·have d3:decide (1<=x.Type_/\x.Type_<=255)=true:=decide_eq_true (by omega)
     have d4:(x.Type_==(k:Int))=true:=by simp[ht]
     rw[d3,d4,ht]
     cases unk (k:Int)<;>cases (bt x.Flags 64 != 0)<;>cases decide (x.Data.length<=255)<;>rfl
    have d4:(x.Type_==(k:Int))=false:=by simpa using ht
    rw[d4]
    rfl
   rw[hc,AG]
   unfold Rf at hw ⊢
   by_cases hk3:(x.Type_==(k:Int)&&Ia x)=true
   ·rw[if_pos hk3] at hw
    have:=hz x hx
    simp only[X22] at hw
    rw[if_pos hk3,if_pos hk3,Ag (by decide) (by simp;omega),AC,Ag (by decide) (by simp;omega),AC]
    simp only[X27,beq_iff_eq] at hk3
    unfold conv
    rw[hk3.1]
   rw[if_neg hk3,if_neg hk3,List.append_nil]
  show next (AK ((k:Int) + 1),v++List.flatMap (Rf k) l)=_
  rw[AQ (by omega),hn _ ⟨k + 1,by simp,by omega,by omega,by simp only[X11];omega⟩ (by simp only;omega)]
  have e1:((k:Int) + 1).toNat=k + 1:=by omega
  have e2:256 - k=(256 - (k + 1)) + 1:=by omega
  simp only[e1,Int.toNat_natCast]
  rw[e2,List.range'_succ,List.flatMap_cons,List.append_assoc]
 rw[if_neg (by simp only[decide_eq_true_eq];omega)]
 have:256 - (k:Int).toNat=0:=by omega
 rw[this]
 simp
theorem badR {l:List JAB} {ρ:Type} {K:Unit->Option ρ} {r:Option ρ}:An (σ:=Unit) K (fun next x _ _=>
   AI (τ:=Bool) (fun k6=>
    Option.bind (BQ x.Type_) fun v7=>
    if v7=true then
     k6 (cond true ((AK ((BitVec.ofInt 64 x.Flags &&& BitVec.ofInt 64 128).toNat:Int))==0) false)
    else
     k6 false
   ) fun v8=>
   if v8=true then r else next ()) l 0 ()=if l.any MZ=true then r else K ():=by
 refine (bw (g:=fun x=>!MZ x) (r0:=r) fun next x i _=>?_).trans ?_
 ·unfold MZ
  have d1:(AK ((BitVec.ofInt 64 x.Flags &&& BitVec.ofInt 64 128).toNat:Int))=bt x.Flags 128:=rfl
  rw[AG,IK,AC,d1]
  cases unk x.Type_<;>cases (bt x.Flags 128==0)<;>rfl
 have:(l.all fun x=>!MZ x)=!l.any MZ:=by
  induction l with
  | nil=>rfl
  | cons x t ih=>rw[List.all_cons,List.any_cons,ih];cases MZ x<;>rfl
 rw[this]
 cases l.any MZ<;>rfl
theorem YQ {l:List JAB} (h:Sm l):G7 l=some (rdS l):=by
 obtain⟨h1,h2⟩:=h
 have hlen:=(Ci l).2.2.2
 have hm:=(Ci l).2.1
 unfold G7 rdS
 rw[Zt h1,AC,AG]
 refine badR.trans ?_
 by_cases hb:(Ap l).any MZ=true
 ·rw[if_pos hb,if_pos hb];rfl
 rw[if_neg hb,if_neg hb,AG,AG]
 refine (aN (Ap l) 0 eA (RP ⟨h1,h2⟩)).trans ?_
 cases hf:J7 eA (Ap l) with
 | none=>rfl
 | some a=>
  show AI _ _=_
  refine (cQ (l:=Ap l) (by omega) fun x hx=>h2 x (hm x hx)).trans ?_
  show (if decide (((E4 (Ap l)).length:Int) > 8)=true then _ else _)=_
  by_cases h8:(E4 (Ap l)).length > 8
  ·rw[if_pos (by simp only[decide_eq_true_eq];omega)]
   show _=some (if (E4 (Ap l)).length > 8 then _ else _)
   rw[if_pos h8];rfl
  rw[if_neg (by simp only[decide_eq_true_eq];omega)]
  show _=some (if (E4 (Ap l)).length > 8 then _ else _)
  rw[if_neg h8]
end Go.AX.Q33
end
section
namespace Go.AX.Q33
open Go Go.AX
set_option maxRecDepth 8000
theorem UR {d:List UInt8} (h:d.length=1):0<=DR d:=by
 rw[Gy (by omega)];omega
theorem SY {a a':JAF} {x:JAB} (h:stepS a x=some a'):(x.Type_≠1->a'.Origin=a.Origin)/\(x.Type_=1->0<=a'.Origin):=by
 unfold stepS at h
 split at h
 ·rename_i hf
  obtain rfl:=X25 h
  refine⟨fun _=>rfl,fun q=>?_⟩
  rw[q] at hf
  exact absurd hf (by decide)
 split at h
 ·unfold Ft at h
  rcases IH x.Type_ with ⟨e,_⟩|⟨e,_⟩|⟨e,_⟩|⟨e,_⟩|⟨e,_⟩|⟨e,_⟩|⟨e,_⟩|⟨e,_⟩|⟨e1,e2,e3,e4,e5,e6,e7,e8,_⟩
  ·rw[e] at h ⊢
   obtain⟨v,hv,rfl⟩:=Option.map_eq_some_iff.1 h
   refine⟨fun q=>absurd rfl q,fun _=>?_⟩
   unfold Jg at hv
   split at hv
   ·rename_i hc
    obtain rfl:=X25 hv
    exact UR hc.1
   cases hv
  iterate 7
   ·rw[e] at h ⊢
    obtain⟨v,_,rfl⟩:=Option.map_eq_some_iff.1 h
    exact⟨fun q=>rfl,fun q=>absurd q (by decide)⟩
  rw[if_neg e1,if_neg e2,if_neg e3,if_neg e4,if_neg e5,if_neg e6,if_neg e7,if_neg e8] at h
  obtain rfl:=X25 h
  exact⟨fun _=>rfl,fun q=>absurd q e1⟩
 simp at h
theorem MX :∀{l:List JAB} {a a':JAF},J7 a l=some a'->(B5 l 1=false->a'.Origin=a.Origin)/\(B5 l 1=true->0<=a'.Origin)
 | [],a,a',h=>by
  obtain rfl:=X25 h
  exact⟨fun _=>rfl,fun q=>by cases q⟩
 | x::t,a,a',h=>by
  unfold J7 at h
  obtain⟨b,h1,h2⟩:=Option.bind_eq_some_iff.1 h
  have ih:=MX h2
  have st:=SY h1
  have hc:B5 (x::t) 1=(decide (x.Type_=1) || B5 t 1):=by
   unfold B5
   rw[List.any_cons]
   congr 1
   rw[X28,beq_iff_eq,decide_eq_true_iff]
   exact eq_comm
  rw[hc]
  by_cases hx:x.Type_=1
  ·refine⟨fun q=>by simp[hx] at q,fun _=>?_⟩
   cases ht:B5 t 1 with
   | true=>exact ih.2 ht
   | false=>rw[ih.1 ht];exact st.2 hx
  simp only[hx,decide_false,Bool.false_or]
  exact⟨fun q=>by rw[ih.1 q];exact st.1 hx,ih.2⟩
theorem VX {l:List JAB} (h:(rdS l).2=0):((rdS l).1.Origin=-1)↔B5 l 1=false:=by
 unfold rdS at h ⊢
 split at h
 ·cases h
 rename_i hb
 rw[if_neg hb]
 cases hf:J7 eA (Ap l) with
 | none=>rw[hf] at h;cases h
 | some a=>
  rw[hf] at h
  dsimp only at h ⊢
  split at h
  ·cases h
  rename_i hk
  rw[if_neg hk]
  have fo:=MX hf
  rw[(Ci l).2.2.1 1] at fo
  dsimp only
  cases ht:B5 l 1 with
  | true=>
   have:=fo.2 ht
   simp only[Bool.true_eq_false,iff_false]
   omega
  | false=>rw[fo.1 ht];simp[eA]
end Go.AX.Q33
end
section
namespace Go.AX.Q33
open Go Go.AX
set_option maxRecDepth 8000
def hd4 (x:UInt8):Bool:=(((Dh ((BitVec.ofInt 8 (x.toNat:Int) &&& BitVec.ofInt 8 16).toNat:Int)).toNat:Int) != 0)
def hdN (x:UInt8):Nat:=if hd4 x=true then 4 else 3
def flagsOf (x:UInt8):Int:=((Dh ((BitVec.ofInt 8 (x.toNat:Int) &&& BitVec.ofInt 8 224).toNat:Int)).toNat:Int)
def sizeOf (b:List UInt8) (h:Nat):Nat:=val ((b.drop 2).take (h - 2))
def stp (x:UInt8) (t:List UInt8):Option (JAB×List UInt8):=
 if (x::t).length<hdN x\/(x::t).length - hdN x<sizeOf (x::t) (hdN x) then none else
  some (⟨flagsOf x,((t.headD 0).toNat:Int),((x::t).drop (hdN x)).take (sizeOf (x::t) (hdN x))⟩,(x::t).drop (hdN x + sizeOf (x::t) (hdN x)))
def spl:Nat->List UInt8->List JAB->Option (List JAB)
 | _,[],acc=>some acc
 | n + 1,x::t,acc=>match stp x t with
  | none=>none
  | some (u,r)=>spl n r (acc++[u])
 | 0,_::_,_=>none
theorem Vs (x:UInt8):hdN x=4\/hdN x=3:=by unfold hdN;split<;>simp
theorem Si {x:UInt8} {t:List UInt8} {u:JAB} {r:List UInt8} (h:stp x t=some (u,r)):r.length + 3<=(x::t).length/\u.Data.length + r.length<=(x::t).length:=by
 unfold stp at h
 split at h
 ·cases h
 rename_i hc
 simp only[X24,X26] at h
 obtain⟨rfl,rfl⟩:=h
 have:=Vs x
 simp only[X17,X18,X12] at hc ⊢
 omega
theorem Tf (n:Nat) (acc:List JAB):spl n [] acc=some acc:=by cases n<;>rfl
theorem U7 :∀(n m:Nat) (b:List UInt8) (acc:List JAB),b.length<=n->b.length<=m->spl n b acc=spl m b acc
 | n,m,[],acc,_,_=>by rw[Tf,Tf]
 | n + 1,m + 1,x::t,acc,h1,h2=>by
  simp only[spl]
  cases h:stp x t with
  | none=>rfl
  | some p=>
   obtain⟨u,r⟩:=p
   have:=(Si h).1
   exact U7 n m r _ (by omega) (by omega)
 | 0,_,_::_,_,h,_=>by simp at h
 | _,0,_::_,_,_,h=>by simp at h
def J3 (b:List UInt8) (acc:List JAB):Option (List JAB):=spl b.length b acc
theorem RD (x:UInt8) (t:List UInt8) (acc:List JAB):J3 (x::t) acc=match stp x t with | none=>none | some (u,r)=>J3 r (acc++[u]):=by
 unfold J3
 rw[X12]
 simp only[spl]
 cases h:stp x t with
 | none=>rfl
 | some p=>
  obtain⟨u,r⟩:=p
  have:=(Si h).1
  simp only[X12] at this
  exact U7 _ _ r _ (by omega) (by omega)
def NP (b:List UInt8):List JAB×Int:=match J3 b [] with
 | none=>([],12)
 | some l=>(l,0)
theorem Tq {b:List UInt8} {h:Nat} (hh:h=4\/h=3) (hb:h<=b.length):DR ((b.drop 2).take (h - 2))=(sizeOf b h:Int)/\sizeOf b h<65536:=by
 unfold sizeOf
 have hl:((b.drop 2).take (h - 2)).length=h - 2:=by simp only[X18,X17];omega
 refine⟨Gy (by omega),?_⟩
 have:=NN ((b.drop 2).take (h - 2))
 rw[hl] at this
 rcases hh with rfl | rfl
 ·exact this
 have h2:(256:Nat) ^ (3 - 2)=256:=rfl
 omega
theorem bA {b:List UInt8} {h:Nat} (h2:2<=h) (hb:h<=b.length):part b 2 (h:Int)=some ((b.drop 2).take (h - 2)):=BM (l:=b) (a:=2) (b:=h) h2 hb
theorem Vp {b:List UInt8} (hb:b.length<=1000000):EO b=some (NP b):=by
 unfold EO
 rw[AG]
 refine (CU (fun s:List UInt8×List JAB=>s.1.length + s.2.length<=1000000) (fun s=>s.1.length) (fun s=>some (match J3 s.1 s.2 with | none=>([],12)|some l=>(l,0))) ?_ fuel (b,[]) (by simpa using hb) (Bo (by simp only;omega))).trans rfl
 rintro next ⟨b,acc⟩ hl hn
 dsimp only at hl ⊢
 match b,hl,hn with
 | [],_,_=>rfl
 | x::t,hl,hn=>
  have h0:geti (x::t) 0=some x:=Fq
  have hN:=Vs x
  have hjoin :∀K:Int->Option (List JAB×Int),AI (τ:=Int) (fun k6=>if (((Dh ((BitVec.ofInt 8 (x.toNat:Int) &&& BitVec.ofInt 8 16).toNat:Int)).toNat:Int) != 0)=true then k6 4 else k6 3) K=K (hdN x:Int):=by
   intro K
   rw[AG]
   unfold hdN
   show (if hd4 x=true then K 4 else K 3)=_
   cases hd4 x<;>rfl
  rw[if_pos (by simp),h0,AC,hjoin,RD,AG]
  simp only[X12] at hl
  by_cases c1:(x::t).length<hdN x
  ·have:stp x t=none:=by unfold stp;rw[if_pos (.inl c1)]
   rw[this,if_pos (by simp only[decide_eq_true_eq];omega)]
   rfl
  obtain⟨g1,g2⟩:=Tq hN (by omega:hdN x<=(x::t).length)
  have hp:=bA (b:=x::t) (h:=hdN x) (by omega) (by omega)
  rw[if_neg (by simp only[decide_eq_true_eq];omega),hp,AC,CW,AC,g1,AQ (x:=((x::t).length:Int) - (hdN x:Int)) (by simp only[X12];omega)]
  by_cases c2:(x::t).length - hdN x<sizeOf (x::t) (hdN x)
  ·have:stp x t=none:=by unfold stp;rw[if_pos (.inr c2)]
   have e:decide (((x::t).length:Int) - (hdN x:Int)<(sizeOf (x::t) (hdN x):Int))=true:=decide_eq_true (by omega)
   rw[this,e]
   rfl
  have hs:stp x t=some (⟨flagsOf x,((t.headD 0).toNat:Int),((x::t).drop (hdN x)).take (sizeOf (x::t) (hdN x))⟩,(x::t).drop (hdN x + sizeOf (x::t) (hdN x))):=by
   unfold stp
   rw[if_neg (fun q=>q.elim c1 c2)]
  have e:decide (((x::t).length:Int) - (hdN x:Int)<(sizeOf (x::t) (hdN x):Int))=false:=decide_eq_false (by omega)
  obtain⟨y,t2,rfl⟩ :∃y t2,t=y::t2:=by
   cases t with
   | nil=>simp at c1;omega
   | cons y t2=>exact⟨y,t2,rfl⟩
  simp only[X12] at hl
  have h1:geti (x::y::t2) 1=some y:=Hg
  rw[hs,e]
  show (if (cond false true false)=true then _ else _)=_
  have hp3:part (x::y::t2) (hdN x:Int) ((hdN x + sizeOf (x::y::t2) (hdN x):Nat):Int)=some (((x::y::t2).drop (hdN x)).take (sizeOf (x::y::t2) (hdN x))):=by
   rw[BM (by omega) (by omega)]
   congr 2
   omega
  have hp4:part (x::y::t2) ((hdN x + sizeOf (x::y::t2) (hdN x):Nat):Int) ((x::y::t2).length:Int)=some ((x::y::t2).drop (hdN x + sizeOf (x::y::t2) (hdN x))):=Dx (by omega)
  rw[if_neg (by decide),AC,CW,AC,g1,AC,h1,AC,AQ (by omega),show (hdN x:Int) + (sizeOf (x::y::t2) (hdN x):Int)=((hdN x + sizeOf (x::y::t2) (hdN x):Nat):Int) by omega,hp3,AC,
   Ag (by decide) (by simp only[X13,X18,X17];omega),AC,Ag (by decide) (by simp only[X22];omega),AC,hp4,AC]
  exact hn _ (by simp only[X11,X17,X12,X13];omega) (by simp only[X17,X12];omega)
theorem Rx {b:List UInt8} (hb:b.length<=1000000):Ek b=some (NP b):=by
 unfold Ek
 rw[AG]
 refine (CU (fun s:List UInt8×List JAB=>s.1.length + s.2.length<=1000000) (fun s=>s.1.length) (fun s=>some (match J3 s.1 s.2 with | none=>([],12)|some l=>(l,0))) ?_ fuel (b,[]) (by simpa using hb) (Bo (by simp only;omega))).trans rfl
 rintro next ⟨b,acc⟩ hl hn
 dsimp only at hl ⊢
 match b,hl,hn with
 | [],_,_=>rfl
 | x::t,hl,hn=>
  have h0:geti (x::t) 0=some x:=Fq
  have hN:=Vs x
  have hjoin :∀K:Int->Option (List JAB×Int),AI (τ:=Int) (fun k6=>if (((Dh ((BitVec.ofInt 8 (x.toNat:Int) &&& BitVec.ofInt 8 16).toNat:Int)).toNat:Int) != 0)=true then k6 4 else k6 3) K=K (hdN x:Int):=by
   intro K
   rw[AG]
   unfold hdN
   show (if hd4 x=true then K 4 else K 3)=_
   cases hd4 x<;>rfl
  rw[if_pos (by simp),h0,AC,hjoin,RD]
  simp only[X12] at hl
  by_cases c1:(x::t).length<hdN x
  ·have:stp x t=none:=by unfold stp;rw[if_pos (.inl c1)]
   rw[this,if_pos (by simp only[decide_eq_true_eq];omega)]
  obtain⟨g1,g2⟩:=Tq hN (by omega:hdN x<=(x::t).length)
  obtain⟨y,z,t2,rfl⟩ :∃y z t2,t=y::z::t2:=by
   match t,c1 with
   | [],c1=>simp at c1;omega
   | [y],c1=>simp at c1;omega
   | y::z::t2,_=>exact⟨y,z,t2,rfl⟩
  simp only[X12] at hl
  have h1:geti (x::y::z::t2) 1=some y:=Hg
  have h2:geti (x::y::z::t2) 2=some z:=Bz (l:=x::y::z::t2) (i:=2) (by simp)
  have hsz :∀K:Int->Option (List JAB×Int),AI (τ:=Int) (fun k9=>if ((hdN x:Int)==4)=true then Option.bind (geti (x::y::z::t2) 3) fun v10=>k9 (AK ((BitVec.ofInt 64 (AK ((z.toNat:Int) * (2 ^ (min (Int.toNat 8) 64)))) ||| BitVec.ofInt 64 (v10.toNat:Int)).toNat:Int)) else k9 (z.toNat:Int)) K=K (sizeOf (x::y::z::t2) (hdN x):Int):=by
   intro K
   rw[AG]
   rcases hN with e | e
   ·obtain⟨w,t3,rfl⟩ :∃w t3,t2=w::t3:=by
     cases t2 with
     | nil=>rw[e] at c1;simp at c1
     | cons w t3=>exact⟨w,t3,rfl⟩
    have h3:geti (x::y::z::w::t3) 3=some w:=Bz (l:=x::y::z::w::t3) (i:=3) (by simp)
    have hz:=z.toNat_lt
    have hs:sizeOf (x::y::z::w::t3) 4=z.toNat * 256 + w.toNat:=by simp[sizeOf,val]
    rw[e,if_pos (by decide),h3,AC,SK (by omega) w.toNat_lt,hs]
   have hs:sizeOf (x::y::z::t2) 3=z.toNat:=by simp[sizeOf,val]
   rw[e,if_neg (by decide),hs]
  rw[if_neg (by simp only[decide_eq_true_eq];omega),h2,AC,hsz,AQ (x:=((x::y::z::t2).length:Int) - (hdN x:Int)) (by simp only[X12];omega)]
  by_cases c2:(x::y::z::t2).length - hdN x<sizeOf (x::y::z::t2) (hdN x)
  ·have:stp x (y::z::t2)=none:=by unfold stp;rw[if_pos (.inr c2)]
   rw[this,if_pos (by simp only[decide_eq_true_eq];omega)]
  have hs:stp x (y::z::t2)=some (⟨flagsOf x,(y.toNat:Int),((x::y::z::t2).drop (hdN x)).take (sizeOf (x::y::z::t2) (hdN x))⟩,(x::y::z::t2).drop (hdN x + sizeOf (x::y::z::t2) (hdN x))):=by
   unfold stp
   rw[if_neg (fun q=>q.elim c1 c2)]
   rfl
  have hp3:part (x::y::z::t2) (hdN x:Int) ((hdN x + sizeOf (x::y::z::t2) (hdN x):Nat):Int)=some (((x::y::z::t2).drop (hdN x)).take (sizeOf (x::y::z::t2) (hdN x))):=by
   rw[BM (by omega) (by omega)]
   congr 2
   omega
  have hp4:part (x::y::z::t2) ((hdN x + sizeOf (x::y::z::t2) (hdN x):Nat):Int) ((x::y::z::t2).length:Int)=some ((x::y::z::t2).drop (hdN x + sizeOf (x::y::z::t2) (hdN x))):=Dx (by omega)
  rw[hs,if_neg (by simp only[decide_eq_true_eq];omega),AC,h1,AC,AQ (by omega),show (hdN x:Int) + (sizeOf (x::y::z::t2) (hdN x):Int)=((hdN x + sizeOf (x::y::z::t2) (hdN x):Nat):Int) by omega,hp3,AC,
   Ag (by decide) (by simp only[X13,X18,X17];omega),AC,Ag (by decide) (by simp only[X22];omega),AC,hp4,AC]
  exact hn _ (by simp only[X11,X17,X12,X13];omega) (by simp only[X17,X12];omega)
theorem VI :∀(n:Nat) (b:List UInt8) (acc l:List JAB) (N:Nat),spl n b acc=some l->(∀u ∈ acc,u.Data.length<=N)->b.length<=N->(l.length<=acc.length + b.length/\∀u ∈ l,u.Data.length<=N)
 | n,[],acc,l,N,h,ha,_=>by
  rw[Tf] at h
  obtain rfl:=X25 h
  exact⟨by simp,ha⟩
 | n + 1,x::t,acc,l,N,h,ha,hb=>by
  simp only[spl] at h
  cases hs:stp x t with
  | none=>rw[hs] at h;cases h
  | some p=>
   obtain⟨u,r⟩:=p
   rw[hs] at h
   have h2:=Si hs
   have ih:=VI n r (acc++[u]) l N h (fun w hw=>by
    rcases X23.1 hw with hw | hw
    ·exact ha w hw
    rw[X14] at hw
    subst hw
    omega) (by omega)
   refine⟨?_,ih.2⟩
   have:=ih.1
   simp only[X11,X22] at this
   omega
 | 0,_::_,_,_,_,h,_,_=>by cases h
theorem Pn {b:List UInt8} (hb:b.length<=400000) {l:List JAB} (h:J3 b []=some l):l.length<=400000/\∀u ∈ l,u.Data.length<=400000:=by
 have:=VI _ _ _ _ 400000 h (by simp) hb
 simp only[X13] at this
 exact⟨by omega,this.2⟩
end Go.AX.Q33
end
section
namespace Go.AX.Q33
open Go Go.AX
set_option maxRecDepth 8000
instance (a0:List Int):Tt (IQ a0):=by unfold IQ;exact Tt.auto
instance (a0:Int):Tt (GI a0):=by unfold GI;exact Tt.auto
instance (a0:Int) (a1:Bool):Tt (G3 a0 a1):=by unfold G3;exact Tt.auto
instance (a0:Addr):Tt (Dw a0):=by unfold Dw;exact Tt.auto
instance (a0:Addr):Tt (Dq a0):=by unfold Dq;exact Tt.auto
instance (a0:List UInt8):Tt (Au a0):=by unfold Au;exact Tt.auto
instance (a0:Int):Tt (Dv a0):=by unfold Dv;exact Tt.auto
instance (a0:Int):Tt (BQ a0):=by unfold BQ;exact Tt.auto
instance (a0:JAA):Tt (EG a0):=by unfold EG;exact Tt.auto
instance (a0:JAA) (a1:JAA):Tt (EM a0 a1):=by unfold EM;exact Tt.auto
instance (a0:JAE):Tt (By a0):=by unfold By;exact Tt.auto
instance (a0:JAE) (a1:JAE):Tt (Bm a0 a1):=by unfold Bm;exact Tt.auto
instance (a0:List JAA) (a1:JAA):Tt (F9 a0 a1):=by unfold F9;exact Tt.auto
instance (a0:List JAE) (a1:JAE):Tt (DW a0 a1):=by unfold DW;exact Tt.auto
instance:Tt (Gf):=by unfold Gf;exact Tt.auto
instance (a0:List JAA) (a1:List JAA):Tt (HM a0 a1):=by unfold HM;exact Tt.auto
instance (a0:List JAE) (a1:List JAE):Tt (EQ a0 a1):=by unfold EQ;exact Tt.auto
instance (a0:List JAB) (a1:List JAB):Tt (Em a0 a1):=by unfold Em;exact Tt.auto
instance (a0:List Int) (a1:List Int):Tt (C0 a0 a1):=by unfold C0;exact Tt.auto
instance (a0:JAF) (a1:JAF):Tt (DC a0 a1):=by unfold DC;exact Tt.auto
instance (a0:Addr):Tt (Cc a0):=by unfold Cc;exact Tt.auto
instance (a0:Int):Tt (E1 a0):=by unfold E1;exact Tt.auto
instance (a0:Addr) (a1:Int):Tt (EK a0 a1):=by unfold EK;exact Tt.auto
theorem Vl {a k:Nat} (ha:a<2 ^ 64) (hk:k<=64):(BitVec.ofInt 64 (a:Int) &&& ~~~BitVec.ofInt 64 ((2 ^ k - 1:Nat):Int)).toNat=a / 2 ^ k * 2 ^ k:=by
 apply Nat.eq_of_testBit_eq
 intro i
 rw[BitVec.ofInt_natCast,BitVec.ofInt_natCast,BitVec.testBit_toNat]
 simp only[BitVec.getLsbD_and,BitVec.getLsbD_not,BitVec.getLsbD_ofNat,Nat.testBit_mul_two_pow,Nat.testBit_div_two_pow,Nat.testBit_two_pow_sub_one]
 by_cases hi:i<64
 ·by_cases hki:k<=i
  ·simp[hi,hki,Nat.not_lt.2 hki]
  simp[hi,hki,Nat.lt_of_not_le hki]
 have:a.testBit i=false:=Nat.testBit_lt_two_pow (Nat.lt_of_lt_of_le ha (Nat.pow_le_pow_right (by omega) (by omega)))
 by_cases hki:k<=i
 ·simp[hi,hki,this]
 omega
theorem D7 (n:Nat):Az (n:Int)=UInt64.ofNat n:=by
 unfold Az
 apply UInt64.toNat_inj.1
 simp only[UInt64.toNat_ofNat']
 omega
def Addr.n (a:Addr):Nat:=a.Hi.toNat * 2 ^ 64 + a.Lo.toNat
def Addr.w (a:Addr):Nat:=if a.V6 then 128 else 32
def Addr.ok (a:Addr):Bool:=cond a.V6 true (cond ((a.Hi.toNat:Int)==0) (decide ((a.Lo.toNat:Int)<4294967296)) false)
def mkA (v6:Bool) (n:Nat):Addr:=⟨v6,UInt64.ofNat (n / 2 ^ 64),UInt64.ofNat n⟩
def Addr.cut (a:Addr) (n:Nat):Addr:=mkA a.V6 (a.n / 2 ^ (a.w - n) * 2 ^ (a.w - n))
theorem Y7 (b:Bool) (m:Nat):(mkA b m).V6=b:=by unfold mkA;rfl
theorem cj (h l k:Nat) (hl:l<2 ^ 64) (hk:k<=64):(h * 2 ^ 64 + l) / 2 ^ k * 2 ^ k=h * 2 ^ 64 + l / 2 ^ k * 2 ^ k:=by
 have:(2:Nat) ^ 64=2 ^ (64 - k) * 2 ^ k:=by rw[<- Nat.pow_add];congr 1;omega
 rw[this,<- Nat.mul_assoc,Nat.add_comm,Nat.add_mul_div_right _ _ (Nat.two_pow_pos k),X32,Nat.add_comm]
theorem bT:Az (((0:Nat):Int) - 1)=UInt64.ofNat 18446744073709551615:=by
   unfold Az
   congr 1
theorem af {k:Nat} (hk:k<64):Az (((UInt64.ofNat (2 ^ k)).toNat:Int) - 1)=UInt64.ofNat (2 ^ k - 1):=by
  have h3:(2:Nat) ^ k<2 ^ 64:=Nat.pow_lt_pow_right (by omega) (by omega)
  have h4:0<(2:Nat) ^ k:=Nat.two_pow_pos k
  have h5:(UInt64.ofNat (2 ^ k)).toNat=2 ^ k:=by simp only[UInt64.toNat_ofNat'];omega
  rw[h5]
  have h6:((2 ^ k:Nat):Int) - 1=((2 ^ k - 1:Nat):Int):=by omega
  rw[h6,D7]
theorem ag:Az (((UInt64.ofNat (2 ^ 64)).toNat:Int) - 1)=UInt64.ofNat (2 ^ 64 - 1):=by
  have h5:(UInt64.ofNat (2 ^ 64)).toNat=0:=by simp only[UInt64.toNat_ofNat',Nat.mod_self]
  rw[h5]
  exact bT
theorem bE {k:Nat} (hk:k<=64):Az (1 * (2 ^ (min (Int.toNat ((Az (k:Int)).toNat:Int)) 64)))=UInt64.ofNat (2 ^ k):=by
 rw[D7]
 have h1:(UInt64.ofNat k).toNat=k:=by simp;omega
 rw[h1,Int.toNat_natCast,Nat.min_eq_left hk,Int.one_mul]
 have h2:((2:Int) ^ k)=((2 ^ k:Nat):Int):=by simp
 rw[h2,D7]
theorem Ut {k:Nat} (hk:k<=64):Az (((Az (1 * (2 ^ (min (Int.toNat ((Az (k:Int)).toNat:Int)) 64)))).toNat:Int) - 1)=UInt64.ofNat (2 ^ k - 1):=by
 rw[bE hk]
 rcases Nat.lt_or_eq_of_le hk with h | h
 ·exact af h
 rw[h];exact ag
theorem L9 {x:UInt64} {k:Nat} (hk:k<=64):Az ((BitVec.ofInt 64 (x.toNat:Int) &&& ~~~BitVec.ofInt 64 ((UInt64.ofNat (2 ^ k - 1)).toNat:Int)).toNat:Int)=UInt64.ofNat (x.toNat / 2 ^ k * 2 ^ k):=by
 have h:(UInt64.ofNat (2 ^ k - 1)).toNat=2 ^ k - 1:=by
  have:(2:Nat) ^ k<=2 ^ 64:=Nat.pow_le_pow_right (by omega) hk
  have h4:0<(2:Nat) ^ k:=Nat.two_pow_pos k
  simp only[UInt64.toNat_ofNat'];omega
 rw[h,Vl x.toNat_lt hk,D7]
theorem Og (a:Addr) {n:Nat} (hn:n<=a.w):EK a (n:Int)=some (a.cut n):=by
 have hw:Cc a=some (a.w:Int):=by unfold Cc Addr.w;split<;>rfl
 have hwn:AK ((a.w:Int) - (n:Int))=((a.w - n:Nat):Int):=by
  have:a.w<=128:=by unfold Addr.w;split<;>omega
  rw[AQ (by omega)];omega
 have hlo:=a.Lo.toNat_lt
 have hhi:=a.Hi.toNat_lt
 unfold EK
 rw[hw,AC,hwn]
 have hk128:a.w - n<=128:=by unfold Addr.w;split<;>omega
 generalize hk:a.w - n=k at *
 unfold E1
 by_cases h64:k > 64
 ·rw[if_pos (by simp;omega),AC]
  have e:AK ((k:Int) - 64)=((k - 64:Nat):Int):=by rw[AQ (by omega)];omega
  rw[e,Ut (by omega)]
  simp only[L9 (show k - 64<=64 by omega)]
  have h1:(18446744073709551615:UInt64)=UInt64.ofNat (2 ^ 64 - 1):=rfl
  rw[h1,L9 (Nat.le_refl 64)]
  have h0:a.Lo.toNat / 2 ^ 64=0:=Nat.div_eq_of_lt hlo
  unfold Addr.cut mkA Addr.n
  rw[hk]
  have hsplit:(2:Nat) ^ k=2 ^ 64 * 2 ^ (k - 64):=by rw[<- Nat.pow_add];congr 1;omega
  have hd:(a.Hi.toNat * 2 ^ 64 + a.Lo.toNat) / 2 ^ k=a.Hi.toNat / 2 ^ (k - 64):=by
   rw[hsplit,<- Nat.div_div_eq_div_mul,Nat.add_comm,Nat.add_mul_div_right _ _ (Nat.two_pow_pos 64),h0,Nat.zero_add]
  rw[hd]
  have he:a.Hi.toNat / 2 ^ (k - 64) * 2 ^ k=a.Hi.toNat / 2 ^ (k - 64) * 2 ^ (k - 64) * 2 ^ 64:=by
   rw[hsplit,Nat.mul_comm (2 ^ 64),Nat.mul_assoc]
  rw[he,Nat.mul_div_cancel _ (Nat.two_pow_pos 64),h0]
  have e0:UInt64.ofNat (a.Hi.toNat / 2 ^ (k - 64) * 2 ^ (k - 64) * 2 ^ 64)=UInt64.ofNat 0:=by
   apply UInt64.toNat_inj.1
   simp only[UInt64.toNat_ofNat',Nat.mul_mod_left,Nat.zero_mod]
  rw[e0,Nat.zero_mul]
 rw[if_neg (by simp;omega),AC,Ut (by omega)]
 simp only[L9 (show k<=64 by omega)]
 have h1:(0:UInt64)=UInt64.ofNat (2 ^ 0 - 1):=rfl
 rw[h1,L9 (Nat.zero_le 64)]
 unfold Addr.cut mkA Addr.n
 rw[hk,cj _ _ _ hlo (by omega)]
 have hlt:a.Lo.toNat / 2 ^ k * 2 ^ k<2 ^ 64:=Nat.lt_of_le_of_lt (Nat.div_mul_le_self _ _) hlo
 have e1:UInt64.ofNat (a.Hi.toNat / 2 ^ 0 * 2 ^ 0)=UInt64.ofNat ((a.Hi.toNat * 2 ^ 64 + a.Lo.toNat / 2 ^ k * 2 ^ k) / 2 ^ 64):=by
  congr 1
  omega
 have e2:UInt64.ofNat (a.Lo.toNat / 2 ^ k * 2 ^ k)=UInt64.ofNat (a.Hi.toNat * 2 ^ 64 + a.Lo.toNat / 2 ^ k * 2 ^ k):=by
  apply UInt64.toNat_inj.1
  simp only[UInt64.toNat_ofNat']
  omega
 rw[e1,e2]
theorem Ot (n:Nat):Dh (n:Int)=UInt8.ofNat n:=by
 unfold Dh
 apply UInt8.toNat_inj.1
 simp only[UInt8.toNat_ofNat']
 omega
def Addr.L (a:Addr):Nat:=if a.V6 then 16 else 4
def RZ (a:Addr) (k:Nat):UInt8:=UInt8.ofNat (a.n / 2 ^ (8 * k))
theorem Ec (a:Addr):Dw a=some a.ok:=by
 unfold Dw Addr.ok
 rw[AG]
 generalize ((a.Hi.toNat:Int)==0)=x
 generalize decide ((a.Lo.toNat:Int)<4294967296)=y
 generalize a.V6=z
 cases z<;>cases x<;>rfl
theorem Vr {w:UInt64} {k:Nat} (hk:k<8) :
  Dh ((Az (Int.fdiv (w.toNat:Int) (2 ^ (min (Int.toNat ((Az (8 * ((Az (k:Int)).toNat:Int))).toNat:Int)) 64)))).toNat:Int)=UInt8.ofNat (w.toNat / 2 ^ (8 * k)):=by
 have h1:(Az (k:Int)).toNat=k:=by rw[D7];simp;omega
 have h2:(Az (8 * ((Az (k:Int)).toNat:Int))).toNat=8 * k:=by
  rw[h1]
  have:(8 * (k:Int))=((8 * k:Nat):Int):=by omega
  rw[this,D7];simp;omega
 have h3:Int.fdiv (w.toNat:Int) ((2:Int) ^ (8 * k))=((w.toNat / 2 ^ (8 * k):Nat):Int):=by
  have:((2:Int) ^ (8 * k))=((2 ^ (8 * k):Nat):Int):=by simp
  rw[this,Int.fdiv_eq_ediv_of_nonneg _ (Int.natCast_nonneg _),Int.natCast_ediv]
 rw[h2,Int.toNat_natCast,Nat.min_eq_left (by omega),h3,D7,Ot]
 have:(UInt64.ofNat (w.toNat / 2 ^ (8 * k))).toNat=w.toNat / 2 ^ (8 * k):=by
  have hd:w.toNat / 2 ^ (8 * k)<2 ^ 64:=Nat.lt_of_le_of_lt (Nat.div_le_self _ _) w.toNat_lt
  rw[UInt64.toNat_ofNat',Nat.mod_eq_of_lt hd]
 rw[this]
theorem TP {a b:Nat} (h:a % 256=b % 256):UInt8.ofNat a=UInt8.ofNat b:=by
 apply UInt8.toNat_inj.1
 simp only[UInt8.toNat_ofNat']
 exact h
theorem TF {a:Addr} {k:Nat} (hk:k<16) (hv:a.ok=true) (h4:a.V6=false->k<4) :
  UInt8.ofNat ((if k ≥ 8 then a.Hi else a.Lo).toNat / 2 ^ (8 * (k % 8)))=RZ a k:=by
 unfold RZ Addr.n
 have hlo:=a.Lo.toNat_lt
 by_cases h8:k ≥ 8
 ·rw[if_pos h8]
  have e:8 * k=64 + 8 * (k % 8):=by omega
  rw[e,Nat.pow_add,<- Nat.div_div_eq_div_mul,Nat.add_comm (a.Hi.toNat * 2 ^ 64),Nat.add_mul_div_right _ _ (Nat.two_pow_pos 64),Nat.div_eq_of_lt hlo,Nat.zero_add]
 rw[if_neg h8]
 have e:k % 8=k:=Nat.mod_eq_of_lt (by omega)
 rw[e]
 apply TP
 have e2:(2:Nat) ^ 64=2 ^ (8 * k) * 2 ^ (64 - 8 * k):=by rw[<- Nat.pow_add];congr 1;omega
 have e3:(2:Nat) ^ (64 - 8 * k)=256 * 2 ^ (56 - 8 * k):=by
  have:(256:Nat)=2 ^ 8:=rfl
  rw[this,<- Nat.pow_add];congr 1;omega
 have e4:a.Hi.toNat * 2 ^ 64=a.Hi.toNat * 2 ^ (56 - 8 * k) * 256 * 2 ^ (8 * k):=by
  rw[e2,e3,Nat.mul_assoc,Nat.mul_assoc]
  congr 1
  rw[Nat.mul_comm (2 ^ (56 - 8 * k)),Nat.mul_comm (2 ^ (8 * k))]
  rw[Nat.mul_assoc,Nat.mul_comm (2 ^ (56 - 8 * k)),Nat.mul_assoc]
 rw[e4,Nat.add_comm,Nat.add_mul_div_right _ _ (Nat.two_pow_pos _),Nat.add_mul_mod_self_right]
theorem HC {a:Addr} (hv:a.ok=true):Ok (CG a) fun l=>l.length=a.L/\∀j,j<a.L->l[j]?=some (RZ a (a.L - 1 - j)):=by
 unfold CG
 rw[Ec,AC,hv]
 refine .ite (fun h=>by simp at h) fun _=>?_
 refine .join (fun n:Int=>n=a.L) (fun k hk=>.ite (fun h=>hk _ (by unfold Addr.L;rw[if_pos h];rfl)) fun h=>hk _ (by unfold Addr.L;rw[if_neg h];rfl)) fun n hn=>?_
 have hL:a.L=16\/a.L=4:=by unfold Addr.L;split<;>simp
 subst hn
 refine .join (fun l:List UInt8=>l.length=a.L/\∀j,j<a.L->l[j]?=some (RZ a (a.L - 1 - j))) (fun k hk=>?_) fun l hl=>.ret hl
 refine .whileI (fun s:Int×List UInt8=>-1<=s.1/\s.1=a.L - 1 - s.2.length/\∀j,j<s.2.length->s.2[j]?=some (RZ a (a.L - 1 - j))) (fun s=>(s.1 + 1).toNat) ?_ ?_ ?_
 ·rw[AQ (by omega)];simp;omega
 ·rw[AQ (by omega)];exact Bo (by omega)
 rintro next ⟨p,l⟩ ⟨h1,h2,h3⟩ hn
 simp only at h1 h2 h3
 refine .ite (fun h=>?_) fun h=>hk _ ⟨by simp at h;omega,fun j hj=>h3 j (by simp at h;omega)⟩
 simp only[decide_eq_true_eq] at h
 obtain⟨k,rfl⟩ :∃k:Nat,p=k:=⟨p.toNat,by omega⟩
 refine .join (fun w:UInt64=>w=if k ≥ 8 then a.Hi else a.Lo) (fun k' hk'=>.ite (fun h=>hk' _ (by rw[if_pos (by simp at h;omega)]) ) fun h=>hk' _ (by rw[if_neg (by simp at h;omega)])) fun w hw=>?_
 refine .bind (Ok.apnd (by decide) (by simp;omega)) fun l' hl'=>?_
 have hb:k<16:=by omega
 have ht:Int.tmod (k:Int) 8=((k % 8:Nat):Int):=by rw[Int.tmod_eq_emod_of_nonneg (by omega)];omega
 rw[ht,Vr (Nat.mod_lt _ (by omega)),hw,TF hb hv (fun h4=>by unfold Addr.L at h2;simp[h4] at h2;omega)] at hl'
 subst hl'
 rw[AQ (by omega)]
 refine hn _ ⟨by simp only;omega,by simp;omega,fun j hj=>?_⟩ (by simp only;omega)
 simp only[X11,X22] at hj
 by_cases hj':j<l.length
 ·simp only
  rw[List.getElem?_append_left hj'];exact h3 j hj'
 have:j=l.length:=by omega
 subst this
 simp only[List.getElem?_append_right (Nat.le_refl _),Nat.sub_self,List.getElem?_cons_zero]
 congr 2
 omega
theorem Ws {u v:Nat} (hu:u<2 ^ 64) (hv:v<256):Az ((BitVec.ofInt 64 ((Az ((u:Int) * (2 ^ (min (Int.toNat 8) 64)))).toNat:Int) ||| BitVec.ofInt 64 ((Az (v:Int)).toNat:Int)).toNat:Int)=UInt64.ofNat (u * 256 + v):=by
 have h1:((u:Int) * (2 ^ (min (Int.toNat 8) 64)))=((u * 256:Nat):Int):=by
  have:min (Int.toNat 8) 64=8:=rfl
  rw[this];omega
 rw[h1,D7,D7,D7]
 have h2:(UInt64.ofNat v).toNat=v:=by simp only[UInt64.toNat_ofNat'];omega
 have h3:(UInt64.ofNat (u * 256)).toNat=2 ^ 8 * (u % 2 ^ 56):=by simp only[UInt64.toNat_ofNat'];omega
 rw[h2,h3,BitVec.ofInt_natCast,BitVec.ofInt_natCast,BitVec.toNat_or,BitVec.toNat_ofNat,BitVec.toNat_ofNat,Nat.mod_eq_of_lt (show 2 ^ 8 * (u % 2 ^ 56)<2 ^ 64 by omega),Nat.mod_eq_of_lt (show v<2 ^ 64 by omega),
  ← Nat.two_pow_add_eq_or_of_lt (show v<2 ^ 8 by omega)]
 apply UInt64.toNat_inj.1
 simp only[UInt64.toNat_ofNat']
 omega
theorem G9 {l:List UInt8} (hl:l.length=4\/l.length=16):Ok (Au l) fun r=>r=(mkA (l.length==16) (val l % 2 ^ 128),0):=by
 unfold Au
 refine .join (fun b=>b=false) (fun k hk=>.ite (fun h=>hk _ ?_) fun _=>hk _ rfl) fun b hb=>?_
 ·rcases hl with h' | h'<;>simp[h'] at h ⊢
 subst hb
 refine .ite (fun h=>by simp at h) fun _=>?_
 refine .join (fun a=>a=mkA (l.length==16) (val l % 2 ^ 128)) (fun k hk=>?_) fun a ha=>.ret (by rw[ha])
 refine .forX (fun i s=>s=mkA (l.length==16) (val (l.take i) % 2 ^ 128)) ?_ (fun s hs=>hk _ (by rw[hs,List.take_length])) ?_
 ·have:((l.length:Int)==16)=(l.length==16):=by rw[X28];simp only[beq_iff_eq];omega
  rw[this,List.take_zero]
  have e0:val [] % 2 ^ 128=0:=by simp[val]
  rw[e0]
  unfold mkA
  rfl
 rintro next x i s hx rfl hn
 refine hn _ ?_
 have hlt:=(X16.1 hx).1
 have ht:l.take (i + 1)=l.take i++[x]:=by rw[List.take_add_one,hx];rfl
 rw[ht,MK]
 generalize val (l.take i)=m
 have hx8:=x.toNat_lt
 have hlo:(mkA (l.length==16) (m % 2 ^ 128)).Lo.toNat=m % 2 ^ 64:=by unfold mkA;simp only[UInt64.toNat_ofNat'];omega
 have hhi:(mkA (l.length==16) (m % 2 ^ 128)).Hi.toNat=m / 2 ^ 64 % 2 ^ 64:=by unfold mkA;simp only[UInt64.toNat_ofNat'];omega
 have h1:=Ws (u:=m % 2 ^ 64) (v:=x.toNat) (by omega) hx8
 have h2:=Ws (u:=m / 2 ^ 64 % 2 ^ 64) (v:=m % 2 ^ 64 / 2 ^ 56) (by omega) (by omega)
 have h3:Int.fdiv ((m % 2 ^ 64:Nat):Int) (2 ^ (min (Int.toNat 56) 64))=((m % 2 ^ 64 / 2 ^ 56:Nat):Int):=by
  have:min (Int.toNat 56) 64=56:=rfl
  have e5:((2:Int) ^ 56)=((2 ^ 56:Nat):Int):=by simp
  rw[this,e5,Int.fdiv_eq_ediv_of_nonneg _ (Int.natCast_nonneg _),Int.natCast_ediv]
 rw[hlo,hhi,h3,h1,h2,Y7]
 unfold mkA
 have e1:UInt64.ofNat (m / 2 ^ 64 % 2 ^ 64 * 256 + m % 2 ^ 64 / 2 ^ 56)=UInt64.ofNat ((m * 256 + x.toNat) % 2 ^ 128 / 2 ^ 64):=by
  apply UInt64.toNat_inj.1;simp only[UInt64.toNat_ofNat'];omega
 have e2:UInt64.ofNat (m % 2 ^ 64 * 256 + x.toNat)=UInt64.ofNat ((m * 256 + x.toNat) % 2 ^ 128):=by
  apply UInt64.toNat_inj.1;simp only[UInt64.toNat_ofNat'];omega
 rw[e1,e2]
theorem Uy :∀(l:List UInt8) (q:Nat),(val l).testBit q=if q<8 * l.length then (l.getD (l.length - 1 - q / 8) 0).toNat.testBit (q % 8) else false:=by
 intro l
 induction h:l.length generalizing l with
 | zero=>intro q;have:l=[]:=List.eq_nil_of_length_eq_zero h;subst this;simp[val]
 | succ n ih=>
  intro q
  obtain⟨l',x,rfl⟩ :∃l' x,l=l'++[x]:=by
   rcases List.eq_nil_or_concat l with h' | ⟨l',x,h'⟩
   ·subst h';simp at h
   exact⟨l',x,by simpa using h'⟩
  have hl':l'.length=n:=by simpa using h
  rw[MK,Nat.mul_comm,show (256:Nat)=2 ^ 8 from rfl,Nat.testBit_two_pow_mul_add _ (show x.toNat<2 ^ 8 from x.toNat_lt)]
  by_cases hq:q<8
  ·rw[if_pos hq,if_pos (by omega)]
   have e1:n + 1 - 1 - q / 8=l'.length:=by omega
   rw[e1,Nat.mod_eq_of_lt hq]
   simp[List.getD_eq_getElem?_getD]
  rw[if_neg hq,ih l' hl']
  by_cases h2:q - 8<8 * n
  ·rw[if_pos h2,if_pos (by omega)]
   have e1:n - 1 - (q - 8) / 8=n + 1 - 1 - q / 8:=by omega
   have e2:(q - 8) % 8=q % 8:=by omega
   rw[e1,e2,List.getD_eq_getElem?_getD,List.getD_eq_getElem?_getD,List.getElem?_append_left (by omega)]
  rw[if_neg h2,if_neg (by omega)]
theorem Xh {x:UInt8} {r:Nat} (hr:r<8) {s:Nat} (hs:s<8) :
  (Dh ((BitVec.ofInt 8 (x.toNat:Int) &&& ~~~BitVec.ofInt 8 ((Dh (Int.fdiv 128 (2 ^ (min (Int.toNat ((Az (r:Int)).toNat:Int)) 8)))).toNat:Int)).toNat:Int)).toNat.testBit s=(x.toNat.testBit s&&!decide (7 - r=s)):=by
 have h1:(Az (r:Int)).toNat=r:=by rw[D7];simp;omega
 have h2:Int.fdiv 128 ((2:Int) ^ r)=((2 ^ (7 - r):Nat):Int):=by
  have e1:((2:Int) ^ r)=((2 ^ r:Nat):Int):=by simp
  have e2:(128:Int)=((128:Nat):Int):=rfl
  rw[e1,e2,Int.fdiv_eq_ediv_of_nonneg _ (Int.natCast_nonneg _),<- Int.natCast_ediv]
  congr 1
  have e3:(128:Nat)=2 ^ (7 - r) * 2 ^ r:=by rw[<- Nat.pow_add,show 7 - r + r=7 by omega]
  rw[e3,Nat.mul_div_cancel _ (Nat.two_pow_pos r)]
 rw[h1,Int.toNat_natCast,Nat.min_eq_left (by omega),h2,Ot,Ot,BitVec.ofInt_natCast,BitVec.ofInt_natCast]
 have hp:2 ^ (7 - r)<256:=Nat.lt_of_le_of_lt (Nat.pow_le_pow_right (by omega) (show 7 - r<=7 by omega)) (by decide)
 have h3:(UInt8.ofNat (2 ^ (7 - r))).toNat=2 ^ (7 - r):=by simp only[UInt8.toNat_ofNat'];exact Nat.mod_eq_of_lt hp
 rw[h3,UInt8.toNat_ofNat',Nat.testBit_mod_two_pow,BitVec.testBit_toNat]
 simp only[BitVec.getLsbD_and,BitVec.getLsbD_not,BitVec.getLsbD_ofNat,hs,decide_true,Bool.true_and,Nat.testBit_two_pow]
theorem Addr.cut_bit (a:Addr) {n q:Nat} (hn:n<=a.w):(a.n / 2 ^ (a.w - n) * 2 ^ (a.w - n)).testBit q=(a.n.testBit q&&decide (a.w - n<=q)):=by
 rw[Nat.testBit_mul_two_pow,Nat.testBit_div_two_pow]
 by_cases h:a.w - n<=q
 ·simp[h]
 simp[h]
theorem Yz {b c:Bool} (h:cond b c false=true):b=true/\c=true:=by cases b<;>simp at h ⊢;exact h
theorem Addr.ok4 {a:Addr} (hv:a.ok=true) (h6:a.V6=false):a.Hi.toNat=0/\a.Lo.toNat<2 ^ 32:=by
 unfold Addr.ok at hv
 rw[h6] at hv
 obtain⟨h1,h2⟩:=Yz hv
 have h2:=of_decide_eq_true h2
 have h1:=eq_of_beq h1
 omega
theorem Addr.n_lt {a:Addr} (hv:a.ok=true):a.n<2 ^ a.w:=by
 have h1:=a.Lo.toNat_lt
 have h2:=a.Hi.toNat_lt
 cases hv6:a.V6
 ·obtain⟨g1,g2⟩:=Addr.ok4 hv hv6
  have hw:a.w=32:=by unfold Addr.w;rw[hv6];rfl
  have hn:a.n=a.Lo.toNat:=by unfold Addr.n;rw[g1,Nat.zero_mul,Nat.zero_add]
  rw[hw,hn];exact g2
 have hw:a.w=128:=by unfold Addr.w;rw[hv6];rfl
 rw[hw]
 unfold Addr.n
 omega
theorem Kz {a:Addr} {n:Nat} (hv:a.ok=true) (hn:n<=a.w):Ok (Br a (n:Int)) fun r=>r=(⟨a.cut n,n⟩,0):=by
 have hw:a.w=8 * a.L:=by unfold Addr.w Addr.L;split<;>rfl
 have hL:a.L=16\/a.L=4:=by unfold Addr.L;split<;>simp
 unfold Br
 rw[Ec,AC,hv]
 refine .ite (fun h=>by simp at h) fun _=>?_
 have hwid:Dq a=some (a.w:Int):=by unfold Dq Addr.w;split<;>rfl
 refine .join (fun b=>b=false) (fun k hk=>.ite (fun h=>by simp at h;omega) fun _=>?_) fun b hb=>?_
 ·rw[hwid,AC]
  refine hk _ ?_
  simp only[cond_false,decide_eq_false_iff_not]
  omega
 subst hb
 refine .ite (fun h=>by simp at h) fun _=>?_
 refine .bind (HC hv) fun l hl=>?_
 refine .join (fun l:List UInt8=>l.length=a.L/\val l=a.n / 2 ^ (a.w - n) * 2 ^ (a.w - n)) (fun k hk=>?_) fun l' hl'=>?_
 ·refine .whileI (fun s:Int×List UInt8=>∃P:Nat,s.1=P/\n<=P/\P<=8 * a.L/\s.2.length=a.L/\∀q,q<8 * a.L->(s.2.getD (a.L - 1 - q / 8) 0).toNat.testBit (q % 8)=(a.n.testBit q&&!decide (8 * a.L - P<=q/\q<8 * a.L - n)))
   (fun s=>(8 * a.L - s.1).toNat) ⟨n,rfl,Nat.le_refl _,by omega,hl.1,fun q hq=>?_⟩ (Bo (by simp only;omega)) ?_
  ·have h1:a.L - 1 - q / 8<a.L:=by omega
   have h2:=hl.2 _ h1
   have h3:a.L - 1 - (a.L - 1 - q / 8)=q / 8:=by omega
   have h4:¬ (8 * a.L - n<=q/\q<8 * a.L - n):=by omega
   rw[List.getD_eq_getElem?_getD,h2,h3]
   simp only[Option.getD_some,h4,decide_false,Bool.not_false,Bool.and_true]
   unfold RZ
   rw[UInt8.toNat_ofNat',Nat.testBit_mod_two_pow,Nat.testBit_div_two_pow,Nat.mod_add_div]
   simp[Nat.mod_lt]
  rintro next ⟨p,l⟩ ⟨P,h1,h2,h3,h4,h5⟩ hnx
  simp only at h1 h4 h5
  subst h1
  have e8:AK (8 * (l.length:Int))=((8 * a.L:Nat):Int):=by rw[AQ (by omega)];omega
  refine .ite (fun h=>?_) fun h=>hk _ ?_
  ·rw[e8] at h
   simp only[decide_eq_true_eq] at h
   have ed:AK (Int.tdiv (P:Int) 8)=((P / 8:Nat):Int):=by
    rw[Int.tdiv_eq_ediv_of_nonneg (by omega),AQ (by omega)];omega
   have et:Int.tmod (P:Int) 8=((P % 8:Nat):Int):=by rw[Int.tmod_eq_emod_of_nonneg (by omega)];omega
   have hlt:P / 8<l.length:=by omega
   rw[ed,Bz hlt,AC,AC]
   refine .bind (Ok.seti (by omega)) fun l' hl'=>?_
   rw[Int.toNat_natCast,et] at hl'
   rw[AQ (by omega)]
   refine hnx _ ⟨P + 1,by simp only;omega,by omega,by omega,by simp only;omega,fun q hq=>?_⟩ (by simp only;omega)
   simp only
   rw[hl'.1]
   by_cases hb:a.L - 1 - q / 8=P / 8
   ·have hx:=h5 q hq
    rw[hb,List.getD_eq_getElem?_getD,X15 hlt,Option.getD_some] at hx
    rw[hb,List.getD_eq_getElem?_getD,List.getElem?_set_self (by omega),Option.getD_some,Xh (Nat.mod_lt _ (by omega)) (Nat.mod_lt _ (by omega)),hx,Bool.and_assoc]
    congr 1
    rw[X28]
    simp only[X27,Bool.not_eq_true',decide_eq_false_iff_not]
    omega
   have hx:=h5 q hq
   rw[List.getD_eq_getElem?_getD] at hx
   rw[List.getD_eq_getElem?_getD,List.getElem?_set_ne (by omega),hx]
   congr 2
   rw[decide_eq_decide]
   omega
  rw[e8] at h
  simp only[decide_eq_true_eq] at h
  have hP:P=8 * a.L:=by omega
  subst hP
  refine⟨h4,?_⟩
  apply Nat.eq_of_testBit_eq
  intro q
  rw[Uy,a.cut_bit hn,h4]
  by_cases hq:q<8 * a.L
  ·rw[if_pos hq,h5 q hq]
   congr 1
   rw[X28]
   simp only[Bool.not_eq_true',decide_eq_false_iff_not,decide_eq_true_eq]
   omega
  rw[if_neg hq]
  have:a.n.testBit q=false:=Nat.testBit_lt_two_pow (Nat.lt_of_lt_of_le (Addr.n_lt hv) (Nat.pow_le_pow_right (by omega) (by omega)))
  rw[this,Bool.false_and]
 refine .bind (G9 (by omega)) fun r hr=>?_
 subst hr
 refine .ret ?_
 have e1:(l'.length==16)=a.V6:=by
  rw[hl'.1]
  unfold Addr.L
  cases a.V6<;>rfl
 have e2:val l' % 2 ^ 128=val l':=by
  refine Nat.mod_eq_of_lt ?_
  rw[hl'.2]
  exact Nat.lt_of_le_of_lt (Nat.div_mul_le_self _ _) (Nat.lt_of_lt_of_le (Addr.n_lt hv) (Nat.pow_le_pow_right (by omega) (by rw[hw];omega)))
 rw[e1,e2,hl'.2,Addr.cut]
theorem Pg {a:Addr} {n:Int} (hn:¬ (a.ok=true/\0<=n/\n<=a.w)):Ok (Br a n) fun r=>r.2≠0:=by
 have hwid:Dq a=some (a.w:Int):=by unfold Dq Addr.w;split<;>rfl
 unfold Br
 rw[Ec,AC]
 refine .ite (fun _=>.ret (by decide)) fun hv=>?_
 have hv:a.ok=true:=by simpa using hv
 refine .join (fun b=>b=true) (fun k hk=>.ite (fun _=>hk _ rfl) fun h=>?_) fun b hb=>?_
 ·rw[hwid,AC]
  refine hk _ ?_
  show decide (n > (a.w:Int))=true
  simp at h ⊢
  have:¬ (0<=n/\n<=a.w):=fun q=>hn ⟨hv,q⟩
  omega
 subst hb
 exact .ite (fun _=>.ret (by decide)) fun h=>absurd rfl h
theorem Ku (a:Addr) (n:Int) :∃r e,Br a n=some (r,e)/\((a.ok=true/\0<=n/\n<=a.w)/\e=0/\r=⟨a.cut n.toNat,n⟩\/¬ (a.ok=true/\0<=n/\n<=a.w)/\e≠0):=by
 by_cases h:a.ok=true/\0<=n/\n<=a.w
 ·obtain⟨k,rfl⟩ :∃k:Nat,n=k:=⟨n.toNat,by omega⟩
  obtain⟨r,h1,h2⟩:=Kz h.1 (n:=k) (by omega)
  exact⟨_,_,by rw[h1,h2],.inl ⟨h,rfl,by rw[Int.toNat_natCast]⟩⟩
 obtain⟨r,h1,h2⟩:=Pg h
 exact⟨r.1,r.2,h1,.inr ⟨h,h2⟩⟩
instance (a:Addr) (n:Int):Tt (Br a n):=by
 obtain⟨r,e,h,_⟩:=Ku a n
 exact⟨_,h⟩
instance (p:JAD):Tt (EF p):=by unfold EF;exact Tt.auto
theorem Xc {i n:Nat} (h:i<n) (hn:n<=1000000000) (h0:¬ (((i:Int)==0)=true)):0<=AK ((i:Int) - 1)/\AK ((i:Int) - 1)<(n:Int):=by
 have:i≠0:=by intro e;subst e;simp at h0
 rw[AQ (by omega)]
 omega
theorem HA {i n:Nat} (h:i<n) (hn:n<=1000000000) (h0:(decide ((i:Int) > 0))=true):0<=AK ((i:Int) - 1)/\AK ((i:Int) - 1)<(n:Int):=
 Xc h hn (by simp at h0 ⊢;omega)
theorem O4 {l:List JAC} (h1:l.length<=1000000000) (h2 :∀s ∈ l,s.ASNs.length<=1000000000):Tt (C5 l):=by
 unfold C5
 have g1:=fun i (h:i<l.length)=>HA h h1
 have g2:=fun (s:JAC) (hs:s ∈ l) i (h:i<s.ASNs.length) (h0:(cond true (decide ((i:Int) > 0)) false)=true)=>HA h (h2 s hs) h0
 exact Tt.auto
theorem PG {l:List JAA} (h1:l.length<=1000000000):Tt (Du l):=by
 unfold Du
 have g1:=fun i (h:i<l.length)=>HA h h1
 exact Tt.auto
theorem KN {l:List JAE} (h1:l.length<=1000000000):Tt (BY l):=by
 unfold BY
 have g1:=fun i (h:i<l.length)=>HA h h1
 exact Tt.auto
structure SmA (n:Nat) (a:JAF):Prop where
 p:a.Path.length<=n
 s :∀s ∈ a.Path,s.ASNs.length<=n
 c:a.Communities.length<=n
 l:a.JAE.length<=n
 o:a.Other.length<=n
 d :∀u ∈ a.Other,u.Data.length<=n
theorem JP {n:Nat} {a:JAF} (h:SmA n a) (hn:n<=10000):Tt (FU a):=by
 unfold FU
 have:=O4 (l:=a.Path) (by have:=h.p;omega) fun s hs=>by have:=h.s s hs;omega
 have:=PG (l:=a.Communities) (by have:=h.c;omega)
 have:=KN (l:=a.JAE) (by have:=h.l;omega)
 have g1:=fun i (hi:i<a.Other.length)=>HA hi (by have:=h.o;omega)
 exact Tt.auto
theorem SmA.mono {n m:Nat} {a:JAF} (h:SmA n a) (hnm:n<=m):SmA m a:=
 ⟨Nat.le_trans h.p hnm,fun s hs=>Nat.le_trans (h.s s hs) hnm,Nat.le_trans h.c hnm,Nat.le_trans h.l hnm,Nat.le_trans h.o hnm,fun u hu=>Nat.le_trans (h.d u hu) hnm⟩
theorem SmA.zero (n:Nat) (x:Addr) (a b c d:Int):SmA n ⟨a,[],x,b,c,d,[],[],[]⟩:=⟨Nat.zero_le _,fun _ h=>absurd h (by simp),Nat.zero_le _,Nat.zero_le _,Nat.zero_le _,fun _ h=>absurd h (by simp)⟩
instance (a b:List JAC):Tt (HK a b):=by
 unfold HK
 refine Ok.tt (Q:=fun _=>True) (.ite (fun _=>.ret trivial) fun hl=>.join (fun _=>True) (fun k hk=>?_) fun _ _=>.ret trivial)
 have hl:a.length=b.length:=by simp at hl;omega
 refine .for_ (fun _=>hk _ trivial) fun next x i s hi hx hnx=>.join (fun _=>True) (fun k2 hk2=>?_) fun _ _=>hnx _
 have hib:i<b.length:=by omega
 refine .join (fun c=>c=false->x.ASNs.length=b[i].ASNs.length) (fun k3 hk3=>?_) fun c hc=>.ite (fun _=>.ret trivial) fun hc'=>.join (fun _=>True) (fun k4 hk4=>?_) fun _ _=>hk2 _ trivial
 ·rw[Bz hib,AC]
  refine .ite (fun _=>hk3 _ (by simp)) fun _=>?_
  rw[AC]
  exact hk3 _ fun h=>by simp at h;omega
 have:=hc (by simpa using hc')
 refine .for_ (fun _=>hk4 _ trivial) fun next y j s hj hy hny=>?_
 rw[Bz hib,AC]
 refine .bind (.geti (by omega)) fun _ _=>.ite (fun _=>.ret trivial) fun _=>hny _
instance (a b:JAF):Tt (HD a b):=by unfold HD;exact Tt.auto
theorem CZ {v:Int} {n:Nat} (hn:n<=100):Ok (CX v n) fun l=>l.length=n:=by
 unfold CX
 refine .join (fun l=>l.length=n) (fun k hk=>?_) fun l hl=>.ret hl
 refine .whileI (fun s:Int×List UInt8=>-1<=s.1/\s.1 + s.2.length=n - 1) (fun s=>(s.1 + 1).toNat) ?_ ?_ ?_
 ·rw[AQ (by omega)];simp;omega
 ·rw[AQ (by omega)];exact Bo (by simp only;omega)
 rintro next ⟨p,l⟩ ⟨h1,h2⟩ hnx
 simp only at h1 h2
 refine .ite (fun hc=>?_) fun hc=>hk _ (by simp at hc;omega)
 simp only[decide_eq_true_eq] at hc
 refine .bind (.apnd (by decide) (by simp;omega)) fun w hw=>?_
 rw[AQ (by omega)]
 refine hnx _ ⟨by simp only;omega,?_⟩ (by simp only;omega)
 simp only[hw,X11,X22]
 omega
theorem WE {K V:Type} [BEq K] (hl :∀a b:K,(a==b)=true↔a=b) {l:List (K×V)} {k k':K} {v:V}:Df (F3 l k v) k'=cond (k'==k) (some v) (Df l k'):=by
 induction l with
 | nil=>simp only[F3,Df];cases k'==k<;>rfl
 | cons p l ih=>
  simp only[F3]
  cases h:(k==p.1)
  ·simp only[Bool.false_eq_true,if_false,Df,ih]
   cases h2:(k'==p.1)
   ·simp
   have h3:(k'==k)=false:=by
    cases h4:(k'==k)
    ·rfl
    have e1:=(hl _ _).1 h2;have e2:=(hl _ _).1 h4
    rw[<- e2,e1,(hl _ _).2 rfl] at h
    simp at h
   rw[h3];simp
  simp only[if_true,Df]
  have e:=(hl _ _).1 h
  rw[<- e]
  cases k'==k<;>simp
theorem EA {V:Type} {l:List (Int×V)} {k k':Int} {v:V}:Df (F3 l k v) k'=if k'=k then some v else Df l k':=by
 rw[WE (fun a b=>beq_iff_eq)]
 by_cases h:k'=k
 ·rw[if_pos h,h];simp
 rw[if_neg h,show (k'==k)=false by simpa using h];rfl
def Mb (n:Nat) (ks:List Int) (m:List (Int×List UInt8)):Prop:=(∀k v,Df m k=some v->v.length<=n)/\∀k ∈ ks,Df m k=none
theorem Mb.set {n:Nat} {ks ks':List Int} {m:List (Int×List UInt8)} {k:Int} {v:List UInt8} (h:Mb n ks m) (hv:v.length<=n) (hk :∀q ∈ ks',q ∈ ks/\q≠k):Mb n ks' (F3 m k v):=by
 refine⟨fun q u hq=>?_,fun q hq=>?_⟩
 ·rw[EA] at hq
  split at hq
  ·obtain rfl:=X25 hq;exact hv
  exact h.1 _ _ hq
 rw[EA,if_neg (hk q hq).2]
 exact h.2 q (hk q hq).1
theorem Mb.sub {n:Nat} {ks ks':List Int} {m:List (Int×List UInt8)} (h:Mb n ks m) (hk :∀q ∈ ks',q ∈ ks):Mb n ks' m:=⟨h.1,fun q hq=>h.2 q (hk q hq)⟩
structure SmU (n m:Nat) (q:List JAB):Prop where
 l:q.length<=n
 d :∀u ∈ q,u.Data.length<=m
theorem Pj {a:JAF} (h:SmA 1100 a):Ok (GW a) fun r=>SmU 290000 6000000 r.1:=by
 have hp:=h.p;have hs:=h.s;have hc:=h.c;have hl:=h.l;have ho:=h.o;have hd:=h.d
 unfold GW
 have:=JP h (by omega)
 refine .bind Ok.of fun _ _=>.ite (fun _=>.ret ⟨by simp,by simp⟩) fun _=>?_
 refine .join (Mb 6000000 [2,3,4,5,8,32,35]) (fun k hk=>.ite (fun _=>hk _ ?_) fun _=>hk _ ⟨fun k v h=>by simp[Df] at h,fun k h=>by simp[Df]⟩) fun m0 hm0=>?_
 ·exact Mb.set (ks:=[1,2,3,4,5,8,32,35]) ⟨fun k v h=>by simp[Df] at h,fun k h=>by simp[Df]⟩ (by simp) (by decide)
 refine .join (fun _=>True) (fun k hk=>Ok.q) fun _ _=>?_
 refine .join (Mb 6000000 [3,4,5,8,32,35]) (fun k hk=>.ite (fun _=>?_) fun _=>hk _ (hm0.sub (by decide))) fun m1 hm1=>?_
 ·have h45:4500 * a.Path.length<=6000000:=by omega
  refine .join (fun l=>l.length<=6000000) (fun k2 hk2=>?_) fun l hl'=>hk _ (hm0.set hl' (by decide))
  refine .forI (fun i (l:List UInt8)=>l.length<=4500 * i) (by simp) (fun l hl'=>hk2 _ (Nat.le_trans hl' h45)) fun next s i l hi hsm hl' hnx=>?_
  have hi':4500 * i<=5000000:=by omega
  have hnx :∀w:List UInt8,w.length<=4500 * i + 4500->Ok (next w) fun r=>SmU 290000 6000000 r.1:=fun w hw=>hnx w (by rw[Nat.mul_add];omega)
  generalize 4500 * i=q at *
  have hsl:=hs s hsm
  refine .join (fun w=>w.length<=q + 4500) (fun k3 hk3=>?_) fun w hw=>hnx _ hw
  refine .join (fun _=>True) (fun k4 hk4=>Ok.q) fun c _=>.bind (.apnd (by decide) (by simp;omega)) fun w hw=>?_
  refine .join (fun w=>w.length<=q + 4500) (fun k4 hk4=>?_) fun w hw=>hk3 _ hw
  refine .forI (fun j (w:List UInt8)=>w.length<=q + 2 + 4 * j) (by rw[hw];simp;omega) (fun w hw=>hk4 _ (by omega)) fun next n j w hj hn hw hnx2=>?_
  refine .bind (CZ (n:=4) (by decide)) fun b hb=>.bind (.apnd (by decide) (by omega)) fun w' hw'=>hnx2 _ (by rw[hw',X11];omega)
 refine .join (fun _=>True) (fun k hk=>Ok.q) fun c _=>?_
 refine .join (Mb 6000000 [4,5,8,32,35]) (fun k hk=>.ite (fun _=>?_) fun _=>hk _ (hm1.sub (by decide))) fun m2 hm2=>?_
 ·by_cases hv:a.Next.ok=true
  ·have hL:a.Next.L<=16:=by unfold Addr.L;split<;>omega
   exact .bind (HC hv) fun l hl'=>hk _ (hm1.set (by omega) (by decide))
  have:CG a.Next=some []:=by
   unfold CG
   rw[Ec,AC,if_pos (by simpa using hv)]
  rw[this,AC]
  exact hk _ (hm1.set (by simp) (by decide))
 refine .join (Mb 6000000 [5,8,32,35]) (fun k hk=>.ite (fun _=>.bind (CZ (n:=4) (by decide)) fun b hb=>hk _ (hm2.set (by omega) (by decide))) fun _=>hk _ (hm2.sub (by decide))) fun m3 hm3=>?_
 refine .join (Mb 6000000 [8,32,35]) (fun k hk=>.ite (fun _=>.bind (CZ (n:=4) (by decide)) fun b hb=>hk _ (hm3.set (by omega) (by decide))) fun _=>hk _ (hm3.sub (by decide))) fun m4 hm4=>?_
 refine .join (fun p:List (Int×List UInt8)×List UInt8=>Mb 6000000 [32,35] p.1) (fun k hk=>?_) ?_
 ·refine .bind (.chk (by rw[hm4.2 8 (by simp)];rfl)) fun _ _=>?_
  refine .forI (fun i (p:List (Int×List UInt8)×List UInt8)=>Mb 6000000 [32,35] p.1/\p.2.length<=4 * i) ⟨hm4.sub (by decide),by simp⟩ (fun p hp=>hk _ hp.1) ?_
  rintro next c i ⟨m,w⟩ hi hcm ⟨g1,g2⟩ hnx
  simp only at g1 g2
  refine .bind (CZ (n:=2) (by decide)) fun b1 hb1=>.bind (.apnd (by decide) (by omega)) fun w1 hw1=>.bind (CZ (n:=2) (by decide)) fun b2 hb2=>.bind (.apnd (by decide) (by rw[hw1,X11];omega)) fun w2 hw2=>?_
  have:w2.length<=4 * (i + 1):=by rw[hw2,hw1,X11,X11];omega
  exact hnx _ ⟨g1.set (by omega) (by decide),this⟩
 rintro⟨m5,w5⟩ hm5
 simp only at hm5
 refine .join (fun p:List (Int×List UInt8)×List UInt8=>Mb 6000000 [35] p.1) (fun k hk=>?_) ?_
 ·refine .bind (.chk (by rw[hm5.2 32 (by simp)];rfl)) fun _ _=>?_
  refine .forI (fun i (p:List (Int×List UInt8)×List UInt8)=>Mb 6000000 [35] p.1/\p.2.length<=12 * i) ⟨hm5.sub (by decide),by simp⟩ (fun p hp=>hk _ hp.1) ?_
  rintro next c i ⟨m,w⟩ hi hcm ⟨g1,g2⟩ hnx
  simp only at g1 g2
  refine .bind (CZ (n:=4) (by decide)) fun b1 hb1=>.bind (.apnd (by decide) (by omega)) fun w1 hw1=>.bind (CZ (n:=4) (by decide)) fun b2 hb2=>.bind (.apnd (by decide) (by rw[hw1,X11];omega)) fun w2 hw2=>?_
  refine .bind (CZ (n:=4) (by decide)) fun b3 hb3=>.bind (.apnd (by decide) (by rw[hw2,hw1,X11,X11];omega)) fun w3 hw3=>?_
  have:w3.length<=12 * (i + 1):=by rw[hw3,hw2,hw1,X11,X11,X11];omega
  exact hnx _ ⟨g1.set (by omega) (by decide),this⟩
 rintro⟨m6,w6⟩ hm6
 simp only at hm6
 refine .join (Mb 6000000 []) (fun k hk=>.ite (fun _=>.bind (CZ (n:=4) (by decide)) fun b hb=>hk _ (hm6.set (by omega) (by decide))) fun _=>hk _ (hm6.sub (by decide))) fun m7 hm7=>?_
 refine .join (fun l=>SmU 290000 6000000 l) (fun k hk=>?_) fun l hl'=>.ret hl'
 refine .whileI (fun s:Int×List JAB=>0<=s.1/\s.1<=256/\SmU (1101 * s.1.toNat) 6000000 s.2) (fun s=>(256 - s.1).toNat) ⟨by simp,by simp,⟨by simp,by simp⟩⟩ (Bo (by decide)) ?_
 rintro next ⟨p,l⟩ ⟨h1,h2,h3⟩ hnx
 simp only at h1 h2 h3
 refine .ite (fun hcc=>?_) fun _=>hk _ ⟨by have:=h3.l;omega,h3.d⟩
 simp only[decide_eq_true_eq] at hcc
 refine .join (fun l=>SmU (1101 * p.toNat + 1101) 6000000 l) (fun k2 hk2=>?_) fun l hl'=>?_
 ·rw[AC,AC]
  have hval:((Df m7 p).getD []).length<=6000000:=by
   cases hq:Df m7 p with
   | none=>simp
   | some v=>exact hm7.1 _ _ hq
  have hl1:=h3.l
  refine .join (fun l=>SmU (1101 * p.toNat + 1) 6000000 l) (fun k3 hk3=>.ite (fun _=>?_) fun _=>hk3 _ ⟨by omega,h3.d⟩) fun l2 hl2=>?_
  ·refine .bind Ok.of fun f _=>.bind (.apnd (by decide) (by simp;omega)) fun _ _=>.bind (.apnd (by decide) (by simp;omega)) fun w hw=>hk3 _ ?_
   subst hw
   refine⟨by simp;omega,fun u hu=>?_⟩
   simp only[X23,X14] at hu
   rcases hu with hu | rfl
   ·exact h3.d u hu
   exact hval
  refine .join (fun l=>SmU (1101 * p.toNat + 1101) 6000000 l) (fun k3 hk3=>?_) fun l hl'=>hk2 _ hl'
  refine .forI (fun j l=>SmU (1101 * p.toNat + 1 + j) 6000000 l) hl2 (fun l hl'=>hk3 _ ⟨by have:=hl'.l;omega,hl'.d⟩) fun next2 u j l hj hu hl' hnx2=>?_
  have hl3:=hl'.l
  refine .join (fun l=>SmU (1101 * p.toNat + 1 + (j + 1)) 6000000 l) (fun k4 hk4=>.ite (fun _=>?_) fun _=>hk4 _ ⟨by omega,hl'.d⟩) fun l hl'=>hnx2 _ hl'
  have:=hd u hu
  refine .bind (.apnd (by decide) (by simp;omega)) fun _ _=>.bind (.apnd (by decide) (by simp;omega)) fun w hw=>hk4 _ ?_
  subst hw
  refine⟨by simp;omega,fun u' hu'=>?_⟩
  simp only[X23,X14] at hu'
  rcases hu' with hu' | rfl
  ·exact hl'.d u' hu'
  simp only;omega
 rw[AQ (by omega)]
 refine hnx _ ⟨by simp only;omega,by simp only;omega,⟨?_,hl'.d⟩⟩ (by simp only;omega)
 have:=hl'.l
 simp only
 omega
def J2 (p:JAD):Prop:=p.Addr.ok=true/\0<=p.Len/\p.Len<=p.Addr.w/\p.Addr.cut p.Len.toNat=p.Addr
theorem Addr.eqd_iff (a b:Addr):Addr.eqd a b=true↔a=b:=by
 unfold Addr.eqd
 simp only[X27,beq_iff_eq,Bool.and_true,Int.natCast_inj,UInt64.toNat_inj]
 constructor
 ·rintro⟨h1,h2,h3⟩;cases a;cases b;simp_all
 rintro rfl;exact⟨rfl,rfl,rfl⟩
theorem JAD.eqd_iff (a b:JAD):JAD.eqd a b=true↔a=b:=by
 have h:=Addr.eqd_iff a.Addr b.Addr
 unfold Addr.eqd at h
 unfold JAD.eqd
 rw[X27,h]
 simp only[Bool.and_true,beq_iff_eq]
 constructor
 ·rintro⟨h1,h2⟩;cases a;cases b;simp_all
 rintro rfl;exact⟨rfl,rfl⟩
theorem Ou (p:JAD):Ok (EF p) fun b=>b=true↔J2 p:=by
 obtain⟨r,e,h1,h2⟩:=Ku p.Addr p.Len
 unfold EF
 rw[h1,AC]
 dsimp only
 unfold J2
 rcases h2 with ⟨h3,rfl,rfl⟩|⟨h3,h4⟩
 ·refine .join (fun b=>b=true↔p.Addr.cut p.Len.toNat=p.Addr) (fun k hk=>.ite (fun _=>hk _ ?_) fun h=>absurd rfl h) fun b hb=>.ret (by rw[hb];exact⟨fun h=>⟨h3.1,h3.2.1,h3.2.2,h⟩,fun h=>h.2.2.2⟩)
  show JAD.eqd p _=true↔_
  rw[JAD.eqd_iff]
  exact⟨fun h=>(congrArg JAD.Addr h).symm,fun h=>by rw[h]⟩
 refine .join (fun b=>b=false) (fun k hk=>.ite (fun h=>absurd (by simpa using h) h4) fun _=>hk _ rfl) fun b hb=>.ret ⟨fun h=>by rw[hb] at h;simp at h,fun h=>absurd ⟨h.1,h.2.1,h.2.2.1⟩ h3⟩
theorem JO (a:Addr):Ok (CG a) fun l=>l.length<=16/\(a.ok=true->l.length=a.L):=by
 by_cases hv:a.ok=true
 ·have hL:a.L<=16:=by unfold Addr.L;split<;>omega
  exact (HC hv).imp fun l hl=>⟨by omega,fun _=>hl.1⟩
 unfold CG
 rw[Ec,AC,if_pos (by simpa using hv)]
 exact .ret ⟨by simp,fun h=>absurd h hv⟩
theorem Qw {l:List JAB} (h:l.length<=300000):Ok (HU l) fun r=>r.2=0->r.1.length<=2048:=by
 unfold HU
 refine .join (fun _=>∀u ∈ l,u.Data.length<=65535) (fun k hk=>?_) fun _ hu=>?_
 ·refine .forX (fun i _=>∀u ∈ l.take i,u.Data.length<=65535) (by simp) (fun _ hu=>hk _ (by simpa using hu)) fun next x i _ hx hu hnx=>?_
  refine .join (fun b=>b=false->x.Data.length<=65535) (fun k2 hk2=>.ite (fun _=>hk2 _ (by simp)) fun _=>.ite (fun _=>hk2 _ (by simp)) fun _=>.ite (fun _=>hk2 _ (by simp)) fun _=>.ite (fun _=>hk2 _ (by simp)) fun _=>hk2 _ fun h=>?_) fun b hb=>.ite (fun _=>.ret (by simp)) fun hb'=>hnx _ ?_
  ·simp at h;omega
  intro u hu'
  rw[List.take_add_one,hx] at hu'
  simp only[X23,Option.toList_some,X14] at hu'
  rcases hu' with hu' | rfl
  ·exact hu u hu'
  exact hb (by simpa using hb')
 refine .join (fun _=>True) (fun k hk=>?_) fun w _=>.ite (fun _=>.ret (by simp)) fun hc=>.ret fun _=>by simp at hc ⊢;omega
 refine .forI (fun i (w:List UInt8)=>w.length<=65539 * i) (by simp) (fun w hw=>hk _ trivial) fun next x i w hi hx hw hnx=>?_
 have hd:=hu x hx
 refine .join (fun w'=>w'.length<=65539 * i + 4) (fun k2 hk2=>.ite (fun _=>.bind (.apndB (by decide) (by simp;omega)) fun w' hw'=>hk2 _ ?_) fun _=>.bind (.apndB (by decide) (by simp;omega)) fun w' hw'=>hk2 _ ?_) fun w' hw'=>?_
 ·rw[hw'];simp;omega
 ·rw[hw'];simp;omega
 refine .bind (.apndB (by decide) (by omega)) fun w2 hw2=>hnx _ (by rw[hw2,X11];omega)
theorem Fe {l:List JAD} {b:Bool} (h:l.length<=10000) (hg :∀p ∈ l,J2 p):Ok (EE l b) fun r=>r.length<=17 * l.length:=by
 unfold EE
 refine .join (fun r=>r.length<=17 * l.length) (fun k hk=>?_) fun r hr=>.ret hr
 refine .forI (fun i (r:List UInt8)=>r.length<=17 * i) (by simp) (fun r hr=>hk _ hr) fun next p i r hi hp hr hnx=>?_
 obtain⟨g1,g2,g3,_⟩:=hg p hp
 refine .join (fun r'=>r'.length<=17 * i + 17) (fun k2 hk2=>.ite (fun _=>?_) fun _=>hk2 _ (by omega)) fun r' hr'=>hnx _ (by omega)
 refine .bind (.apnd (by decide) (by simp;omega)) fun w hw=>.bind (JO p.Addr) fun bs hbs=>?_
 have hL:=hbs.2 g1
 have hwL:p.Addr.w=8 * p.Addr.L:=by unfold Addr.w Addr.L;split<;>rfl
 have hw16:p.Addr.w<=128:=by unfold Addr.w;split<;>omega
 have e1:AK (p.Len + 7)=p.Len + 7:=AQ (by omega)
 have e2:AK (Int.tdiv (AK (p.Len + 7)) 8)=(p.Len + 7) / 8:=by rw[e1,Int.tdiv_eq_ediv_of_nonneg (by omega),AQ (by omega)]
 rw[e2]
 refine .bind (.chk ⟨by omega,by omega,by omega⟩) fun _ _=>.bind (.apnd (by decide) ?_) fun w2 hw2=>hk2 _ ?_
 ·rw[hw];simp;omega
 rw[hw2,hw];simp;omega
theorem MG {l:List JAB} {u:JAB} (h:l.length<=1000000):Ok (G5 l u) fun r=>r.length=l.length + 1:=by
 unfold G5
 refine .pos (n:=l.length) (by omega) (fun k v h1 h2 hk=>Ok.q) fun v h1 h2=>?_
 refine .bind (.part ⟨by omega,by omega,by omega⟩) fun p hp=>.bind (.apnd (by decide) (by simp;omega)) fun _ _=>.bind (.apnd (by decide) (by simp;omega)) fun q hq=>.bind (.part ⟨by omega,by omega,by omega⟩) fun p2 hp2=>.bind (.apnd (by decide) (by rw[hq];simp;omega)) fun w hw=>.ret ?_
 rw[hw,hq]
 simp
 omega
structure SmV (u:JAH):Prop where
 a:SmA 1000 u.JAF
 w:u.Withdraw.length<=1000
 n:u.Announce.length<=1000
theorem QJ {u:JAH} (h:SmV u) (g1 :∀p ∈ u.Withdraw,J2 p) (g2 :∀p ∈ u.Announce,J2 p):Tt (Ep u):=by
 have hw:=h.w;have hn:=h.n
 unfold Ep
 refine Ok.tt (Q:=fun _=>True) ?_
 refine .join (fun l:List JAB=>l.length<=290000) (fun k hk=>.ite (fun _=>?_) fun _=>hk _ (by simp)) fun l hl=>?_
 ·refine .bind (Pj (h.a.mono (by omega))) ?_
  rintro⟨l,e⟩ hl
  exact .ite (fun _=>.ret trivial) fun _=>hk _ hl.l
 refine .bind (Fe (by omega) g2) fun c1 hc1=>?_
 refine .join (fun l:List JAB=>l.length<=290001) (fun k hk=>.ite (fun _=>?_) fun _=>hk _ (by omega)) fun l hl=>?_
 ·refine .bind (JO _) fun b hb=>.bind (.apnd (by decide) (by simp;omega)) fun x1 h1=>.bind (.apnd (by decide) (by rw[h1];simp;omega)) fun x2 h2=>.bind (.apnd (by decide) (by rw[h2,h1];simp;omega)) fun x3 h3=>.bind (MG (by omega)) fun x4 h4=>hk _ (by omega)
 refine .bind (Fe (by omega) g1) fun c2 hc2=>?_
 refine .join (fun l:List JAB=>l.length<=290002) (fun k hk=>.ite (fun _=>?_) fun _=>hk _ (by omega)) fun l hl=>?_
 ·exact .bind (.apnd (by decide) (by simp;omega)) fun x1 h1=>.bind (MG (by omega)) fun x4 h4=>hk _ (by omega)
 refine .bind (Qw (by omega)) ?_
 rintro⟨j,e⟩ hj
 refine .ite (fun _=>.ret trivial) fun he=>?_
 have hj:=hj (by simpa using he)
 simp only at hj
 refine .bind (Fe (by omega) g1) fun c3 hc3=>.bind (.apnd (by decide) (by simp;omega)) fun x1 h1=>.bind (.apnd (by decide) (by rw[h1];simp;omega)) fun x2 h2=>.bind (.apnd (by decide) (by rw[h2,h1];simp;omega)) fun x3 h3=>?_
 exact .bind (Fe (by omega) g2) fun c4 hc4=>.bind (.apnd (by decide) (by rw[h3,h2,h1];simp;omega)) fun x4 h4=>.ret trivial
theorem QM {u:JAH} (h:SmV u):Ok (Eo u) fun b=>b=true->(∀p ∈ u.Withdraw,J2 p)/\(∀p ∈ u.Announce,J2 p)/\u.Announce.length<=256:=by
 have hw:=h.w;have hn:=h.n
 have:=JP h.a (by omega)
 unfold Eo
 refine .join (fun b=>b=false->u.Announce.length<=256) (fun k hk=>.ite (fun _=>hk _ (by simp)) fun _=>hk _ fun h=>by simp at h;omega) fun b hb=>.ite (fun _=>.ret (by simp)) fun hb'=>?_
 have h256:=hb (by simpa using hb')
 refine .bind (.apnd (by decide) (by simp;omega)) fun _ _=>.bind (.apnd (by decide) (by omega)) fun v hv=>?_
 refine .join (fun _=>∀p ∈ v,J2 p) (fun k hk=>?_) fun _ hg=>?_
 ·refine .forX (fun i _=>∀p ∈ v.take i,J2 p) (by simp) (fun _ hg=>hk _ (by simpa using hg)) fun next x i _ hx hg hnx=>?_
  refine .bind (Ou x) fun c hc=>.ite (fun _=>.ret (by simp)) fun hcc=>hnx _ fun p hp=>?_
  rw[List.take_add_one,hx] at hp
  simp only[X23,Option.toList_some,X14] at hp
  rcases hp with hp | rfl
  ·exact hg p hp
  exact hc.1 (by simpa using hcc)
 have g1 :∀p ∈ u.Withdraw,J2 p:=fun p hp=>hg p (by rw[hv];simp[hp])
 have g2 :∀p ∈ u.Announce,J2 p:=fun p hp=>hg p (by rw[hv];simp[hp])
 have:=QJ h g1 g2
 refine .join (fun _=>True) (fun k hk=>Ok.q) fun _ _=>.ite (fun _=>.ret (by simp)) fun _=>?_
 refine .join (fun _=>True) (fun k hk=>?_) fun _ _=>?_
 ·refine .for_ (fun _=>hk _ trivial) fun next x i _ hi hx hnx=>.join (fun _=>True) (fun k2 hk2=>Ok.q) fun _ _=>.ite (fun _=>.ret (by simp)) fun _=>hnx _
 refine .bind Ok.of ?_
 rintro⟨a,b⟩ _
 exact .join (fun _=>True) (fun k hk=>Ok.q) fun c _=>.ret fun _=>⟨g1,g2,h256⟩
def Dk (d:JAI):Prop:=0<=d.At/\d.L.length<=9223372036854775807
theorem U3 {v n:Int} (hn:1<=n/\n<=1000000000):Ok (FC v n) fun r=>0<=r/\r<n:=by
 unfold FC
 have h1:=Int.tmod_lt_of_pos v (show 0<n by omega)
 have h2:-n<Int.tmod v n:=by
  have:=Int.lt_tmod_of_pos v (show 0<n by omega)
  exact this
 refine .bind (.chk (by omega)) fun _ _=>.join (fun r=>0<=r/\r<n) (fun k hk=>.ite (fun hc=>hk _ ?_) fun hc=>hk _ ?_) fun r hr=>.ret hr
 ·simp only[decide_eq_true_eq] at hc
  rw[AQ (by omega)]
  omega
 simp only[decide_eq_true_eq] at hc
 omega
theorem Aw {d:JAI} {n:Int} (hd:Dk d) (hn:1<=n/\n<=1000000000):Ok (AO d n) fun r=>0<=r.1/\r.1<n/\Dk r.2:=by
 obtain⟨h1,h2⟩:=hd
 unfold AO
 refine .ite (fun _=>.ret ⟨by simp only;omega,by simp only;omega,h1,h2⟩) fun hc=>?_
 simp only[decide_eq_true_eq] at hc
 have e1:AK (d.At + 1)=d.At + 1:=AQ (by omega)
 have e2:AK (d.At + 1 - 1)=d.At:=by rw[AQ (by omega)];omega
 rw[e1,e2]
 exact .bind (.geti (by omega)) fun v _=>.bind (U3 hn) fun r hr=>.ret ⟨hr.1,hr.2,by simp only;omega,h2⟩
def Blk (p:JAD):Prop:=EF p=some true/\(p.Len=16/\p.Addr.V6=false\/p.Len=48/\p.Addr.V6=true)
theorem Qs {k:Int} (h:0<=k/\k<8):Ok (GI k) Blk:=by
 have:k=0\/k=1\/k=2\/k=3\/k=4\/k=5\/k=6\/k=7:=by omega
 rcases this with rfl | rfl | rfl | rfl | rfl | rfl | rfl | rfl
 ·exact⟨_,rfl,by kernel_rfl,.inl ⟨rfl,rfl⟩⟩
 ·exact⟨_,rfl,by kernel_rfl,.inl ⟨rfl,rfl⟩⟩
 ·exact⟨_,rfl,by kernel_rfl,.inl ⟨rfl,rfl⟩⟩
 ·exact⟨_,rfl,by kernel_rfl,.inl ⟨rfl,rfl⟩⟩
 ·exact⟨_,rfl,by kernel_rfl,.inl ⟨rfl,rfl⟩⟩
 ·exact⟨_,rfl,by kernel_rfl,.inl ⟨rfl,rfl⟩⟩
 ·exact⟨_,rfl,by kernel_rfl,.inr ⟨rfl,rfl⟩⟩
 exact⟨_,rfl,by kernel_rfl,.inr ⟨rfl,rfl⟩⟩
theorem P0 {d:JAI} (hd:Dk d):Ok (CM d) fun r=>r.1.length<=8/\Dk r.2:=by
 unfold CM
 refine .bind (Aw hd (by omega)) ?_
 rintro⟨a,d⟩ ⟨_,_,hd⟩
 dsimp only at hd ⊢
 refine .join (fun x:JAI×List JAA=>Dk x.1/\x.2.length<=8) (fun k hk=>?_) (fun ⟨d,l⟩ ⟨hd,hl⟩=>.ret ⟨hl,hd⟩)
 refine .forI (fun i (x:JAI×List JAA)=>Dk x.1/\x.2.length<=i) ⟨hd,by simp⟩ (fun x hx=>hk _ ⟨hx.1,by simpa using hx.2⟩) ?_
 rintro next x i ⟨d,l⟩ hi _ ⟨hd,hl⟩ hnx
 have hi':i<8:=by simpa using hi
 dsimp only at hd hl ⊢
 refine .join (fun x:Bool×JAI=>Dk x.2) (fun k2 hk2=>.ite (fun _=>.ite (fun _=>hk2 _ hd) fun _=>.bind (Aw hd (by omega)) ?_) fun _=>hk2 _ hd) ?_
 ·rintro⟨b,d⟩ ⟨_,_,hd⟩
  exact hk2 _ hd
 rintro⟨c,d⟩ hd
 dsimp only at hd ⊢
 refine .join (fun l:List JAA=>l.length<=i + 1) (fun k3 hk3=>.ite (fun _=>.bind (.apnd (by decide) (by simp;omega)) fun w hw=>hk3 _ (by rw[hw];simp;omega)) fun _=>hk3 _ (by omega)) fun l hl=>hnx _ ⟨hd,hl⟩
theorem X7 {d:JAI} (hd:Dk d):Ok (EU d) fun r=>r.1.length<=8/\Dk r.2:=by
 unfold EU
 refine .bind (Aw hd (by omega)) ?_
 rintro⟨a,d⟩ ⟨_,_,hd⟩
 dsimp only at hd ⊢
 refine .join (fun x:List JAE=>x.length<=8) (fun k hk=>?_) (fun l hl=>.ret ⟨hl,hd⟩)
 refine .forI (fun i (x:List JAE)=>x.length<=i) (by simp) (fun x hx=>hk _ (by simp at hx;omega)) ?_
 intro next x i l hi _ hl hnx
 have hi':i<7:=by simpa using hi
 refine .join (fun l:List JAE=>l.length<=i + 1) (fun k3 hk3=>.ite (fun _=>.bind (.apnd (by decide) (by simp;omega)) fun w hw=>hk3 _ (by rw[hw];simp;omega)) fun _=>hk3 _ (by omega)) fun l hl=>hnx _ hl
theorem HV {d:JAI} (hd:Dk d):Ok (CQ d) fun r=>Dk r.2:=by
 unfold CQ
 refine .bind (Aw hd (by omega)) ?_
 rintro⟨a,d⟩ ⟨a1,a2,hd⟩
 dsimp only at a1 a2 hd ⊢
 refine .bind (Qs ⟨a1,a2⟩) fun p hp=>.bind (Aw hd (by omega)) ?_
 rintro⟨b,d⟩ ⟨b1,b2,hd⟩
 dsimp only at b1 b2 hd ⊢
 refine .join (fun x:JAI×JAD=>Dk x.1) (fun k hk=>.ite (fun _=>.join (fun _=>True) (fun k2 hk2=>.ite (fun _=>hk2 _ trivial) fun _=>hk2 _ trivial) fun _ _=>hk _ hd) fun _=>?_) fun ⟨d,p⟩ hd=>.ret hd
 refine .join (fun x:JAI×JAD=>Dk x.1) (fun k2 hk2=>.ite (fun _=>.join (fun _=>True) (fun k3 hk3=>.ite (fun _=>hk3 _ trivial) fun _=>hk3 _ trivial) fun _ _=>.bind (Aw hd (by omega)) ?_) fun _=>hk2 _ hd) fun ⟨d,p⟩ hd=>hk _ hd
 rintro⟨c,d⟩ ⟨_,_,hd⟩
 exact hk2 _ hd
def Sh (p:List JAC) (o:List JAB):Prop:=(p.length<=4/\∀s ∈ p,s.ASNs.length<=20)/\o.length<=4/\∀u ∈ o,u.Data.length<=4
theorem Sh.a {p:List JAC} {o:List JAB} (h:Sh p o) {a b c d:Int} {x:Addr} {e:List JAA} {f:List JAE} (he:e.length<=8) (hf:f.length<=8):SmA 1000 ⟨a,p,x,b,c,d,e,f,o⟩:=
 ⟨by have:=h.1.1;simp only;omega,fun s hs=>by have:=h.1.2 s hs;omega,by simp only;omega,by simp only;omega,by have:=h.2.1;simp only;omega,fun u hu=>by have:=h.2.2 u hu;omega⟩
theorem sh1 {b:Bool} {l:List Int} (h:l.length<=20):Sh [⟨b,l⟩] []:=⟨⟨by simp,by simpa using h⟩,by simp,by simp⟩
theorem YC {d:JAI} {n:Int} {b:Bool} (hd:Dk d):Ok (ET d n b) fun r=>SmA 1000 r.1/\Dk r.2:=by
 unfold ET
 rw[AG]
 dsimp only
 refine .bind (Aw hd (by omega)) ?_
 rintro⟨_,d⟩ ⟨_,_,hd⟩
 dsimp only at hd ⊢
 refine .bind (Aw hd (by omega)) ?_
 rintro⟨m,d⟩ ⟨m1,m2,hd⟩
 dsimp only at m1 m2 hd ⊢
 refine .join (fun x:JAI×List Int=>Dk x.1/\1<=x.2.length/\x.2.length<=10) (fun k hk=>?_) ?_
 ·refine .whileI (fun s:Int×JAI×List Int=>0<=s.1/\s.1<=3/\Dk s.2.1/\1<=s.2.2.length/\s.2.2.length + s.1.toNat<=10) (fun s=>s.1.toNat) ⟨m1,by dsimp only;omega,hd,by simp,by simp;omega⟩ (Bo (by dsimp only;omega)) ?_
  rintro next ⟨i,d,l⟩ ⟨i1,i2,hd,l1,l2⟩ hnx
  dsimp only at i1 i2 hd l1 l2 ⊢
  refine .ite (fun hc=>.bind (Aw hd (by omega)) ?_) fun _=>hk _ ⟨hd,l1,by dsimp only;omega⟩
  rintro⟨c,d⟩ ⟨c1,c2,hd⟩
  simp only[decide_eq_true_eq] at hc
  dsimp only at c1 c2 hd ⊢
  refine .bind (.geti (by simp;omega)) fun v _=>.bind (.apnd (by decide) (by simp;omega)) fun w hw=>?_
  rw[AQ (by omega)]
  exact hnx _ ⟨by dsimp only;omega,by dsimp only;omega,hd,by rw[hw];simp,by rw[hw];simp;omega⟩ (by dsimp only;omega)
 rintro⟨d,l⟩ ⟨hd,l1,l2⟩
 dsimp only at hd l1 l2 ⊢
 refine .bind Ok.of fun po _=>.bind (Aw hd (by omega)) ?_
 rintro⟨c,d⟩ ⟨_,_,hd⟩
 dsimp only at hd ⊢
 refine .join (fun x:JAI×Int=>Dk x.1) (fun k hk=>.ite (fun _=>.bind (Aw hd (by omega)) fun ⟨_,d⟩ ⟨_,_,hd⟩=>hk _ hd) fun _=>hk _ hd) ?_
 rintro⟨d,med⟩ hd
 dsimp only at hd ⊢
 refine .bind (Aw hd (by omega)) ?_
 rintro⟨c,d⟩ ⟨_,_,hd⟩
 dsimp only at hd ⊢
 refine .join (fun x:JAI×Int=>Dk x.1) (fun k hk=>.ite (fun _=>.bind (Aw hd (by omega)) fun ⟨_,d⟩ ⟨_,_,hd⟩=>hk _ hd) fun _=>hk _ hd) ?_
 rintro⟨d,pref⟩ hd
 dsimp only at hd ⊢
 refine .bind (P0 hd) ?_
 rintro⟨co,d⟩ ⟨hco,hd⟩
 dsimp only at hco hd ⊢
 refine .bind (X7 hd) ?_
 rintro⟨la,d⟩ ⟨hla,hd⟩
 dsimp only at hla hd ⊢
 refine .bind (Aw hd (by omega)) ?_
 rintro⟨q,d⟩ ⟨_,_,hd⟩
 dsimp only at hd ⊢
 have hl:Sh [⟨false,l⟩] []:=sh1 (by omega)
 refine .join (fun x:JAI×List JAC×Bool×UInt64×UInt64×Int×List JAB=>Dk x.1/\Sh x.2.1 x.2.2.2.2.2.2) (fun k hk=>.ite (fun _=>.bind (Aw hd (by omega)) fun ⟨_,d⟩ ⟨_,_,hd⟩=>hk _ ⟨hd,hl⟩) fun _=>?_) fun ⟨d,p,_,_,_,_,o⟩ ⟨hd,h⟩=>.ret ⟨h.a hco hla,hd⟩
 refine .join (fun x:JAI×List JAC×Bool×UInt64×UInt64×List JAB=>Dk x.1/\Sh x.2.1 x.2.2.2.2.2) (fun k2 hk2=>.ite (fun _=>.bind (.geti (by omega)) fun _ _=>.bind (.seti (by omega)) fun w hw=>hk2 _ ⟨hd,sh1 (by omega)⟩) fun _=>?_) fun ⟨d,p,_,_,_,o⟩ ⟨hd,h⟩=>hk _ ⟨hd,h⟩
 refine .join (fun x:JAI×List JAC×Bool×UInt64×UInt64×List JAB=>Dk x.1/\Sh x.2.1 x.2.2.2.2.2) (fun k3 hk3=>.ite (fun _=>hk3 _ ⟨hd,⟨⟨by simp,?_⟩,by simp,by simp⟩⟩) fun _=>?_) fun ⟨d,p,_,_,_,o⟩ ⟨hd,h⟩=>hk2 _ ⟨hd,h⟩
 ·intro s hs
  simp only[List.mem_cons,List.not_mem_nil,or_false] at hs
  rcases hs with rfl | rfl
  ·dsimp only;omega
  decide
 refine .join (fun x:JAI×List JAC×Bool×UInt64×UInt64×List JAB=>Dk x.1/\Sh x.2.1 x.2.2.2.2.2) (fun k4 hk4=>.ite (fun _=>.bind (.apnd (by decide) (by simp;omega)) fun w hw=>hk4 _ ⟨hd,sh1 (by rw[hw];simp;omega)⟩) fun _=>?_) fun ⟨d,p,_,_,_,o⟩ ⟨hd,h⟩=>hk3 _ ⟨hd,h⟩
 refine .join (fun x:JAI×List JAC×Bool×UInt64×UInt64×List JAB=>Dk x.1/\Sh x.2.1 x.2.2.2.2.2) (fun k5 hk5=>.ite (fun _=>.bind Ok.of fun _ _=>hk5 _ ⟨hd,hl⟩) fun _=>?_) fun ⟨d,p,_,_,_,o⟩ ⟨hd,h⟩=>hk4 _ ⟨hd,h⟩
 refine .join (fun x:JAI×List JAC×List JAB=>Dk x.1/\Sh x.2.1 x.2.2) (fun k6 hk6=>.ite (fun _=>.bind (.apnd (by decide) (by simp;omega)) fun w hw=>hk6 _ ⟨hd,sh1 (by rw[hw];simp;omega)⟩) fun _=>?_) fun ⟨d,p,o⟩ ⟨hd,h⟩=>hk5 _ ⟨hd,h⟩
 refine .join (fun x:JAI×List JAC×List JAB=>Dk x.1/\Sh x.2.1 x.2.2) (fun k7 hk7=>.ite (fun _=>hk7 _ ⟨hd,⟨⟨by simp,by simp⟩,by simp,by simp⟩⟩) fun _=>?_) fun ⟨d,p,o⟩ ⟨hd,h⟩=>hk6 _ ⟨hd,h⟩
 refine .join (fun x:JAI×List JAB=>Dk x.1/\x.2.length<=4/\∀u ∈ x.2,u.Data.length<=4) (fun k8 hk8=>.ite (fun _=>.bind (Aw hd (by omega)) fun ⟨_,d⟩ ⟨_,_,hd⟩=>hk8 _ ⟨hd,by simp,by simp⟩) fun _=>hk8 _ ⟨hd,by simp,by simp⟩) fun ⟨d,o⟩ ⟨hd,h⟩=>hk7 _ ⟨hd,hl.1,h⟩
theorem YE {d:JAI} {n:Int} (hd:Dk d):Ok (EP d n) fun r=>SmA 1000 r.1.JAF/\Dk r.2:=by
 unfold EP
 refine .bind (HV hd) ?_
 rintro⟨p,d⟩ hd
 dsimp only at hd ⊢
 refine .bind (YC hd) ?_
 rintro⟨a,d⟩ ⟨h,hd⟩
 exact .ret ⟨h,hd⟩
theorem Xp {d:JAI} {n:Int} (hd:Dk d):Ok (D8 d n) fun r=>SmV r.1/\Dk r.2:=by
 unfold D8
 rw[AG]
 dsimp only
 refine .bind (Aw hd (by omega)) ?_
 rintro⟨m,d⟩ ⟨m1,m2,hd⟩
 dsimp only at m1 m2 hd ⊢
 refine .join (fun x:JAI×List JAD=>Dk x.1/\x.2.length<=10) (fun k hk=>?_) ?_
 ·refine .whileI (fun s:Int×JAI×List JAD=>0<=s.1/\s.1<=3/\Dk s.2.1/\s.2.2.length + s.1.toNat<=10) (fun s=>s.1.toNat) ⟨m1,by dsimp only;omega,hd,by simp;omega⟩ (Bo (by dsimp only;omega)) ?_
  rintro next ⟨i,d,l⟩ ⟨i1,i2,hd,l2⟩ hnx
  dsimp only at i1 i2 hd l2 ⊢
  refine .join (fun x:Bool×JAI=>Dk x.2/\(x.1=true->0<i)) (fun k2 hk2=>.ite (fun hc=>.bind (Aw hd (by omega)) fun ⟨_,d⟩ ⟨_,_,hd⟩=>hk2 _ ⟨hd,fun _=>by simpa using hc⟩) fun _=>hk2 _ ⟨hd,by simp⟩) ?_
  rintro⟨c,d⟩ ⟨hd,hc⟩
  dsimp only at hd hc ⊢
  refine .ite (fun h=>.bind (HV hd) ?_) fun _=>hk _ ⟨hd,by dsimp only;omega⟩
  have:=hc h
  rintro⟨p,d⟩ hd
  dsimp only at hd ⊢
  refine .bind (.apnd (by decide) (by simp;omega)) fun w hw=>?_
  rw[AQ (by omega)]
  exact hnx _ ⟨by dsimp only;omega,by dsimp only;omega,hd,by rw[hw];simp;omega⟩ (by dsimp only;omega)
 rintro⟨d,ws⟩ ⟨hd,hws⟩
 dsimp only at hd hws ⊢
 refine .bind (Aw hd (by omega)) ?_
 rintro⟨c,d⟩ ⟨_,_,hd⟩
 dsimp only at hd ⊢
 refine .join (fun x:JAI×Int×List JAC×Bool×UInt64×UInt64×Int×Int×Int×List JAA×List JAE×List JAB×List JAD=>Dk x.1/\(∀(a b c d:Int) (y:Addr),SmA 1000 ⟨a,x.2.2.1,y,b,c,d,x.2.2.2.2.2.2.2.2.2.1,x.2.2.2.2.2.2.2.2.2.2.1,x.2.2.2.2.2.2.2.2.2.2.2.1⟩)/\x.2.2.2.2.2.2.2.2.2.2.2.2.length<=10) (fun k hk=>.ite (fun _=>.bind (YE hd) ?_) fun _=>hk _ ⟨hd,fun a b c d y=>SmA.zero _ _ _ _ _ _,by simp⟩) ?_
 ·rintro⟨r,d⟩ ⟨hr,hd⟩
  dsimp only at hr hd ⊢
  refine .bind (Aw hd (by omega)) ?_
  rintro⟨m,d⟩ ⟨m1,m2,hd⟩
  dsimp only at m1 m2 hd ⊢
  refine .join (fun x:JAI×List JAD=>Dk x.1/\x.2.length<=10) (fun k2 hk2=>?_) ?_
  ·refine .whileI (fun s:Int×JAI×List JAD=>0<=s.1/\s.1<=3/\Dk s.2.1/\s.2.2.length + s.1.toNat<=10) (fun s=>s.1.toNat) ⟨m1,by dsimp only;omega,hd,by simp;omega⟩ (Bo (by dsimp only;omega)) ?_
   rintro next ⟨i,d,l⟩ ⟨i1,i2,hd,l2⟩ hnx
   dsimp only at i1 i2 hd l2 ⊢
   refine .ite (fun hc=>.bind (HV hd) ?_) fun _=>hk2 _ ⟨hd,by dsimp only;omega⟩
   simp only[decide_eq_true_eq] at hc
   rintro⟨p,d⟩ hd
   dsimp only at hd ⊢
   refine .join (fun w:List JAD=>w.length<=l.length + 1) (fun k3 hk3=>.ite (fun _=>.bind (.apnd (by decide) (by simp;omega)) fun w hw=>hk3 _ (by rw[hw];simp)) fun _=>hk3 _ (by omega)) fun w hw=>?_
   rw[AQ (by omega)]
   exact hnx _ ⟨by dsimp only;omega,by dsimp only;omega,hd,by dsimp only;omega⟩ (by dsimp only;omega)
  rintro⟨d,ps⟩ ⟨hd,hps⟩
  exact hk _ ⟨hd,fun a b c d y=>⟨hr.p,hr.s,hr.c,hr.l,hr.o,hr.d⟩,hps⟩
 rintro⟨d,a,p,_,_,_,_,_,_,co,la,ot,ps⟩ ⟨hd,h,hps⟩
 dsimp only at hd h hps ⊢
 exact .ret ⟨⟨h _ _ _ _ _,by dsimp only;omega,by dsimp only;omega⟩,hd⟩
end Go.AX.Q33
end
section
namespace Go.AX.Q33
open Go Go.AX
set_option maxRecDepth 8000
def pw (six:Bool):Nat:=if six=true then 16 else 4
def pk (n:UInt8):Nat:=(n.toNat + 7) / 8
def Ub (six:Bool) (n:UInt8) (t:List UInt8):List UInt8:=t.take (pk n)++List.replicate (pw six - pk n) 0
def cB (six:Bool) (n:UInt8) (t:List UInt8):JAD:=⟨(addrOf (Ub six n t)).cut n.toNat,n.toNat⟩
def Lh (six:Bool) (n:UInt8) (t:List UInt8):Option (JAD×List UInt8):=if 8 * pw six<n.toNat\/t.length<pk n then none else some (cB six n t,t.drop (pk n))
def pfx (six:Bool):Nat->List UInt8->List JAD->Option (List JAD)
 | _,[],acc=>some acc
 | f + 1,n::t,acc=>match Lh six n t with
  | none=>none
  | some (p,r)=>pfx six f r (acc++[p])
 | 0,_::_,_=>none
theorem Nr {six:Bool} {n:UInt8} {t:List UInt8} {p:JAD} {r:List UInt8} (h:Lh six n t=some (p,r)):r.length<=t.length:=by
 unfold Lh at h
 split at h
 ·cases h
 simp only[X24,X26] at h
 obtain⟨_,rfl⟩:=h
 simp
theorem Ta (six:Bool) (n:Nat) (acc:List JAD):pfx six n [] acc=some acc:=by cases n<;>rfl
theorem VV (six:Bool) :∀(n m:Nat) (b:List UInt8) (acc:List JAD),b.length<=n->b.length<=m->pfx six n b acc=pfx six m b acc
 | n,m,[],acc,_,_=>by rw[Ta,Ta]
 | n + 1,m + 1,x::t,acc,h1,h2=>by
  simp only[pfx]
  cases h:Lh six x t with
  | none=>rfl
  | some p=>
   obtain⟨u,r⟩:=p
   have:=Nr h
   simp only[X12] at h1 h2
   exact VV six n m r _ (by omega) (by omega)
 | 0,_,_::_,_,h,_=>by simp at h
 | _,0,_::_,_,_,h=>by simp at h
def Ea (six:Bool) (b:List UInt8) (acc:List JAD):Option (List JAD):=pfx six b.length b acc
theorem Tj (six:Bool) (acc:List JAD):Ea six [] acc=some acc:=rfl
theorem SB (six:Bool) (x:UInt8) (t:List UInt8) (acc:List JAD):Ea six (x::t) acc=match Lh six x t with | none=>none | some (u,r)=>Ea six r (acc++[u]):=by
 unfold Ea
 rw[X12]
 simp only[pfx]
 cases h:Lh six x t with
 | none=>rfl
 | some p=>
  obtain⟨u,r⟩:=p
  have:=Nr h
  exact VV six _ _ r _ (by omega) (by omega)
def KJ (six:Bool) (b:List UInt8):List JAD×Bool:=match Ea six b [] with
 | none=>([],false)
 | some l=>(l,true)
theorem S9 (six:Bool) :∀(f:Nat) (b:List UInt8) (acc l:List JAD),pfx six f b acc=some l->l.length<=acc.length + b.length
 | f,[],acc,l,h=>by
  rw[Ta] at h
  obtain rfl:=X25 h
  simp
 | f + 1,x::t,acc,l,h=>by
  simp only[pfx] at h
  cases hs:Lh six x t with
  | none=>rw[hs] at h;cases h
  | some p=>
   obtain⟨u,r⟩:=p
   rw[hs] at h
   have h1:=Nr hs
   have ih:=S9 six f r _ l h
   simp only[X11,X12,X13] at ih ⊢
   omega
 | 0,_::_,_,_,h=>by cases h
theorem UE (six:Bool) (b:List UInt8):(KJ six b).1.length<=b.length:=by
 unfold KJ
 cases h:Ea six b [] with
 | none=>simp
 | some l=>
  have:=S9 six _ _ _ _ h
  simpa using this
theorem Yq {six:Bool} {n:UInt8} (h:¬ 8 * pw six<n.toNat):pk n<=pw six:=by
 unfold pk
 omega
theorem Rw {six:Bool} {n:UInt8} {t:List UInt8} (h1:¬ 8 * pw six<n.toNat) (h2:¬ t.length<pk n):(Ub six n t).length=pw six:=by
 have:=Yq h1
 unfold Ub
 simp only[X11,X18,X20]
 omega
theorem Xt {l:List UInt8} (h:l.length=4\/l.length=16):A7 l=some (addrOf l,0)/\addrOf l=mkA (l.length==16) (val l % 2 ^ 128):=by
 obtain⟨r,h1,h2⟩:=G9 h
 rw[G1] at h1
 have e:addrOf l=mkA (l.length==16) (val l % 2 ^ 128):=by
  unfold addrOf
  rw[h1,h2];rfl
 refine⟨?_,e⟩
 rw[h1,h2,e]
theorem Hu {six:Bool} {l:List UInt8} (h:l.length=pw six):A7 l=some (addrOf l,0)/\(addrOf l).V6=six/\(addrOf l).ok=true/\(addrOf l).w=8 * pw six:=by
 have h4:l.length=4\/l.length=16:=by
  rw[h];unfold pw;cases six<;>simp
 obtain⟨g1,g2⟩:=Xt h4
 have hv:(addrOf l).V6=six:=by
  rw[g2,Y7,h]
  unfold pw;cases six<;>rfl
 refine⟨g1,hv,?_,?_⟩
 ·unfold Addr.ok
  rw[hv]
  cases six with
  | true=>rfl
  | false=>
   have hl:l.length=4:=h
   have hval:=NN l
   rw[hl] at hval
   have hval:val l<4294967296:=hval
   have e1:(addrOf l).Hi.toNat=0:=by
    rw[g2];unfold mkA
    simp only[UInt64.toNat_ofNat']
    omega
   have e2:(addrOf l).Lo.toNat<4294967296:=by
    rw[g2];unfold mkA
    simp only[UInt64.toNat_ofNat']
    omega
   have e3:((((addrOf l).Hi.toNat:Nat):Int)==0)=true:=by rw[e1];rfl
   rw[e3,cond_false,cond_true]
   exact decide_eq_true (by omega)
 unfold Addr.w pw
 rw[hv]
 cases six<;>rfl
def GY (b:List UInt8):Option (List UInt8×List UInt8):=match b with
 | x::y::t=>if t.length<x.toNat * 256 + y.toNat then none else some (t.take (x.toNat * 256 + y.toNat),t.drop (x.toNat * 256 + y.toNat))
 | _=>none
theorem FY {b p r:List UInt8} (h:GY b=some (p,r)):p.length + r.length + 2=b.length:=by
 unfold GY at h
 split at h
 ·split at h
  ·cases h
  simp only[X24,X26] at h
  obtain⟨rfl,rfl⟩:=h
  simp only[X18,X17,X12]
  omega
 cases h
def BF (l:List JAB) (k:Int):List JAB:=l.filter fun x=>x.Type_==k
def isP (d:List UInt8):Bool:=d.take 3==[0,2,1]
def Db (d:List UInt8):Option (Addr×List JAD):=
 if isP d=true/\21<=d.length/\d.getD 3 0=16/\d.getD 20 0=0 then (Ea true (d.drop 21) []).map fun l=>(addrOf ((d.drop 4).take 16),l) else none
def DX (d:List UInt8):Option (List JAD):=if isP d=true then Ea true (d.drop 3) [] else none
def zAd:Addr:=⟨false,(0:UInt64),(0:UInt64)⟩
def Da (l:List JAB):Option (Addr×List JAD):=match BF l 14 with
 | []=>some (zAd,[])
 | [x]=>Db x.Data
 | _=>none
def Bj (l:List JAB):Option (List JAD):=match BF l 15 with
 | []=>some []
 | [x]=>DX x.Data
 | _=>none
structure Pt where
 l:List JAB
 next:Addr
 old:List JAD
 gone:List JAD
 four:List JAD
 six:List JAD
def okN (old gone four six:List JAD):Bool:=!(decide (0<four.length)&&decide (0<six.length))&&(decide (old.length + gone.length<=256)&&decide (four.length + six.length<=256))
def Wa (l:List JAB):Option (Addr×List JAD)->Option (List JAD)->Option (List JAD)->Option (List JAD)->Option Pt
 | some (n,six),some gone,some old,some four=>if okN old gone four six=true/\(rdS l).2≠12 then some ⟨l,n,old,gone,four,six⟩ else none
 | _,_,_,_=>none
def Y3 (w rest:List UInt8):Option (List JAB)->Option Pt
 | none=>none
 | some l=>Wa l (Da l) (Bj l) (Ea false w []) (Ea false rest [])
theorem Ip {w rest:List UInt8} {l:List JAB}:Y3 w rest (some l)=Wa l (Da l) (Bj l) (Ea false w []) (Ea false rest []):=rfl
def HI (b:List UInt8):Option Pt:=match GY b with
 | none=>none
 | some (w,b1)=>match GY b1 with
  | none=>none
  | some (a,rest)=>Y3 w rest (J3 a [])
theorem Iz {l:List JAB} {n:Addr} {six gone old four:List JAD}:Wa l (some (n,six)) (some gone) (some old) (some four)=if okN old gone four six=true/\(rdS l).2≠12 then some ⟨l,n,old,gone,four,six⟩ else none:=rfl
theorem C9 {l:List JAB} {R:Option (Addr×List JAD)} {U O F:Option (List JAD)} (h:R=none\/U=none\/O=none\/F=none):Wa l R U O F=none:=by
 rcases h with rfl | rfl | rfl | rfl
 ·rfl
 ·cases R<;>rfl
 ·cases R<;>cases U<;>rfl
 cases R<;>cases U<;>cases O<;>rfl
def flg (x:JAB):Bool:=(x.Type_==14 || x.Type_==15)&&(bt x.Flags 192 != 128)
def VF (P:Pt):Bool:=decide ((rdS P.l).2≠0) || (P.l.any flg || (!(B5 P.l 1) || (!(B5 P.l 2) || (decide (0<P.four.length)&&Addr.eqd (rdS P.l).1.Next zAd))))
def Yi:JAH:=⟨[],zA,[]⟩
def Ob (b:List UInt8):JAH×Int:=match HI b with
 | none=>(Yi,12)
 | some P=>if P.four++P.six=[] then (⟨P.old++P.gone,eA,[]⟩,0) else
  if VF P=true then (⟨P.old++P.gone++(P.four++P.six),eA,[]⟩,13) else
   (⟨P.old++P.gone,if 0<P.six.length then { (rdS P.l).1 with Next:=P.next } else (rdS P.l).1,P.four++P.six⟩,0)
end Go.AX.Q33
end
section
namespace Go.AX.Q33
open Go Go.AX
set_option maxRecDepth 8000
def HB (b:List UInt8):List UInt8×List UInt8×Bool:=match GY b with
 | none=>([],[],false)
 | some (p,r)=>(p,r,true)
theorem TA (x y:UInt8) (t:List UInt8):Ei (x::y::t)=some ((x.toNat * 256 + y.toNat:Nat):Int):=by
 unfold Ei
 have hx:=x.toNat_lt
 rw[Fq,AC,Hg,AC,SK (by omega) y.toNat_lt]
theorem QD {b:List UInt8} (hb:b.length<=1000000):EN b=some (HB b):=by
 match b,hb with
 | [],_=>rfl
 | [x],_=>rfl
 | x::y::t,hb=>
  have hx:=x.toNat_lt
  have hy:=y.toNat_lt
  simp only[X12] at hb
  unfold EN HB GY
  rw[if_neg (by simp only[X12,decide_eq_true_eq];omega),Fq,AC,Hg,AC,SK (by omega) hy]
  dsimp only
  rw[AQ (x:=((x::y::t).length:Int) - 2) (by simp only[X12];omega)]
  by_cases c:t.length<x.toNat * 256 + y.toNat
  ·rw[if_pos c,if_pos (by simp only[X12,decide_eq_true_eq];omega)]
  have e:AK (2 + ((x.toNat * 256 + y.toNat:Nat):Int))=((2 + (x.toNat * 256 + y.toNat):Nat):Int):=by rw[AQ (by omega)];omega
  rw[if_neg c,if_neg (by simp only[X12,decide_eq_true_eq];omega),e,show (2:Int)=((2:Nat):Int) by rfl,BM (by omega) (by simp only[X12];omega),AC,Dx (by simp only[X12];omega),AC]
  have e1:2 + (x.toNat * 256 + y.toNat) - 2=x.toNat * 256 + y.toNat:=by omega
  have e2:2 + (x.toNat * 256 + y.toNat)=(x.toNat * 256 + y.toNat) + 2:=by omega
  rw[e1,e2]
  rfl
theorem UT {b:List UInt8} (hb:b.length<=1000000):F7 b=some (HB b):=by
 match b,hb with
 | [],_=>rfl
 | [x],_=>rfl
 | x::y::t,hb=>
  have hx:=x.toNat_lt
  have hy:=y.toNat_lt
  simp only[X12] at hb
  unfold F7 HB GY
  rw[AG,if_neg (by simp only[X12,decide_eq_true_eq];omega),TA,AC,AQ (x:=((x::y::t).length:Int) - 2) (by simp only[X12];omega)]
  dsimp only
  by_cases c:t.length<x.toNat * 256 + y.toNat
  ·rw[if_pos c,if_pos (by simp only[cond_false,decide_eq_true_eq,X12];omega)]
  have e:AK (2 + ((x.toNat * 256 + y.toNat:Nat):Int))=((2 + (x.toNat * 256 + y.toNat):Nat):Int):=by rw[AQ (by omega)];omega
  rw[if_neg c,if_neg (by simp only[cond_false,decide_eq_true_eq,X12];omega),AC,e,show (2:Int)=((2:Nat):Int) by rfl,BM (by omega) (by simp only[X12];omega),AC,Dx (by simp only[X12];omega),AC]
  have e1:2 + (x.toNat * 256 + y.toNat) - 2=x.toNat * 256 + y.toNat:=by omega
  have e2:2 + (x.toNat * 256 + y.toNat)=(x.toNat * 256 + y.toNat) + 2:=by omega
  rw[e1,e2]
  rfl
theorem Qf (a:Addr):Ha a=some a.ok:=by
 unfold Ha Addr.ok
 rw[AG]
 generalize ((a.Hi.toNat:Int)==0)=x
 generalize decide ((a.Lo.toNat:Int)<4294967296)=y
 generalize a.V6=z
 cases z<;>cases x<;>rfl
theorem Oc (a:Addr):Cc a=some (a.w:Int):=by unfold Cc Addr.w;split<;>rfl
theorem XP {a:Addr} {n:Nat} (hv:a.ok=true) (hn:n<=a.w):Gm a (n:Int)=some (⟨a.cut n,n⟩,0):=by
 unfold Gm
 rw[Qf,AC,hv,if_neg (by decide),AG,if_neg (by simp only[decide_eq_true_eq];omega),Oc,AC]
 dsimp only
 rw[if_neg (by simp only[cond_false,decide_eq_true_eq];omega),Og a hn,AC]
theorem Y0 {a:Addr} {n:Nat} (hv:a.ok=true) (hn:n<=a.w):Br a (n:Int)=some (⟨a.cut n,n⟩,0):=by
 obtain⟨r,h1,h2⟩:=Kz hv hn
 rw[h1,h2]
theorem Y4 (x:UInt8):AK (1 + AK (Int.tdiv (AK ((x.toNat:Int) + 7)) 8))=((1 + pk x:Nat):Int)/\AK (Int.tdiv (AK ((x.toNat:Int) + 7)) 8)=(pk x:Int):=by
 have hx:=x.toNat_lt
 have e:AK (Int.tdiv (AK ((x.toNat:Int) + 7)) 8)=(pk x:Int):=by
  unfold pk
  rw[AQ (x:=(x.toNat:Int) + 7) (by omega),Int.tdiv_eq_ediv_of_nonneg (by omega),AQ (by omega)]
  omega
 refine⟨?_,e⟩
 rw[e]
 have:pk x<=40:=by unfold pk;omega
 rw[AQ (by omega)]
 omega
theorem M3 {ρ:Type} (W:Int) (six:Bool) (hW:W=(pw six:Int)) {b:List UInt8} (hb:b.length<=1000000) (K:Bool×List JAD->Option ρ) :
  AI (τ:=Bool×(List JAD)) (fun k10=>
   AI (τ:=(List JAD)) (fun k11=>
    Av (σ:=(List UInt8)×(List JAD)) (fun next12 (v13,v14)=>
     if (decide ((v13.length:Int) > 0)) then
      Option.bind (geti v13 0) fun v15=>
      AI (τ:=Bool) (fun k16=>
       if (decide ((v15.toNat:Int) > (AK (8 * W)))) then
        k16 true
       else
        k16 (cond false true (decide ((v13.length:Int)<(AK (1 + (AK (Int.tdiv (AK ((v15.toNat:Int) + 7)) 8)))))))
      ) fun v17=>
      if v17 then
       k10 (false,[])
      else
       Option.bind (part v13 1 (AK (1 + (AK (Int.tdiv (AK ((v15.toNat:Int) + 7)) 8))))) fun v18=>
       Option.bind (apnd (α:=UInt8) 1 [] v18) fun _=>
       Option.bind (chk (0<=(AK (W - (AK (Int.tdiv (AK ((v15.toNat:Int) + 7)) 8))))/\(AK (W - (AK (Int.tdiv (AK ((v15.toNat:Int) + 7)) 8))))<=1048576)) fun _=>
       Option.bind (apnd (α:=UInt8) 1 v18 (List.replicate (Int.toNat (AK (W - (AK (Int.tdiv (AK ((v15.toNat:Int) + 7)) 8))))) (0:UInt8))) fun v19=>
       Option.bind (Au v19) fun (v20,v21)=>
       Option.bind (Br v20 (v15.toNat:Int)) fun (v22,v23)=>
       Option.bind (apnd (α:=JAD) 32 v14 ([v22]:List JAD)) fun v24=>
       Option.bind (part v13 (AK (1 + (AK (Int.tdiv (AK ((v15.toNat:Int) + 7)) 8)))) (v13.length:Int)) fun v25=>
       next12 (v25,v24)
     else
      k11 v14
    ) fuel (b,[])
   ) fun v26=>
   k10 (true,v26)
  ) K=K ((KJ six b).2,(KJ six b).1):=by
 rw[AG,AG]
 refine (CU (fun s:List UInt8×List JAD=>s.1.length + s.2.length<=1000000) (fun s=>s.1.length) (fun s=>match Ea six s.1 s.2 with | none=>K (false,[])|some l=>K (true,l)) ?_ fuel (b,[]) (by simpa using hb) (Bo (by simp only;omega))).trans ?_
 ·rintro next ⟨v,acc⟩ hl hn
  dsimp only at hl ⊢
  match v,hl,hn with
  | [],_,_=>rfl
  | x::t,hl,hn=>
   have hx:=x.toNat_lt
   obtain⟨p1,p2⟩:=Y4 x
   have hw:pw six=4\/pw six=16:=by unfold pw;cases six<;>simp
   simp only[X12] at hl
   rw[if_pos (by simp),Fq,AC,SB,AG,p1,p2,hW,AQ (x:=8 * (pw six:Int)) (by omega)]
   unfold Lh
   by_cases c1:8 * pw six<x.toNat
   ·rw[if_pos (by simp only[decide_eq_true_eq];omega),if_pos (.inl c1)]
    rfl
   rw[if_neg (by simp only[decide_eq_true_eq];omega)]
   dsimp only
   by_cases c2:t.length<pk x
   ·rw[if_pos (by simp only[cond_false,decide_eq_true_eq,X12];omega),if_pos (.inr c2)]
   have hk:=Yq c1
   have e3:AK ((pw six:Int) - (pk x:Int))=((pw six - pk x:Nat):Int):=by rw[AQ (by omega)];omega
   rw[if_neg (by simp only[cond_false,decide_eq_true_eq,X12];omega),if_neg (fun q=>q.elim c1 c2),show (1:Int)=((1:Nat):Int) by rfl,BM (l:=x::t) (a:=1) (b:=1 + pk x) (by omega) (by simp only[X12];omega),AC,e3]
   have e4:((x::t).drop 1).take (1 + pk x - 1)=t.take (pk x):=by
    have:1 + pk x - 1=pk x:=by omega
    rw[this];rfl
   have hfl:=Rw (six:=six) (n:=x) (t:=t) c1 c2
   obtain⟨a1,a2,a3,a4⟩:=Hu hfl
   have e5:apnd (α:=UInt8) 1 (t.take (pk x)) (List.replicate (Int.toNat ((pw six - pk x:Nat):Int)) (0:UInt8))=some (Ub six x t):=by
    rw[Int.toNat_natCast,Ag (by decide) (by simp only[X18,X20];omega)]
    rfl
   have e6:(x::t).drop (1 + pk x)=t.drop (pk x):=by rw[Nat.add_comm];rfl
   have e7:chk (0<=((pw six - pk x:Nat):Int)/\((pw six - pk x:Nat):Int)<=1048576)=some ():=if_pos (by omega)
   rw[e4,Ag (b:=1) (l:=[]) (by decide) (by simp only[X13,X18];omega),AC,e7,AC,e5,AC,G1,a1,AC]
   dsimp only
   rw[Y0 a3 (by omega),AC]
   dsimp only
   rw[Ag (by decide) (by simp only[X22];omega),AC,Dx (by simp only[X12];omega),AC,e6]
   exact hn _ (by simp only[X11,X17,X12,X13];omega) (by simp only[X17,X12];omega)
 unfold KJ
 cases Ea six b []<;>rfl
theorem Yo {w:Nat} {ys:List UInt8} (h:ys.length<=w):cpy (List.replicate w (0:UInt8)) 0 (List.replicate w (0:UInt8)).length ys=ys++List.replicate (w - ys.length) 0:=by
 unfold cpy
 rw[List.take_zero,List.nil_append,X20,List.take_of_length_le h,List.drop_replicate]
 congr 2
 omega
theorem GM {b:List UInt8} (hb:b.length<=1000000) (six:Bool):Bn b six=some (KJ six b):=by
 unfold Bn
 have hw:pw six=4\/pw six=16:=by unfold pw;cases six<;>simp
 have hW :∀(K:Int->Option (List JAD×Bool)),AI (τ:=Int) (fun k1=>if six then k1 128 else k1 32) K=K ((8 * pw six:Nat):Int):=by
  intro K
  rw[AG]
  cases six<;>rfl
 rw[hW,AG]
 have e8:AK (Int.tdiv ((8 * pw six:Nat):Int) 8)=(pw six:Int):=by rw[Int.tdiv_eq_ediv_of_nonneg (by omega),AQ (by omega)];omega
 rw[e8]
 refine (CU (fun s:List UInt8×List JAD=>s.1.length + s.2.length<=1000000) (fun s=>s.1.length) (fun s=>match Ea six s.1 s.2 with | none=>some ([],false)|some l=>some (l,true)) ?_ fuel (b,[]) (by simpa using hb) (Bo (by simp only;omega))).trans ?_
 ·rintro next ⟨v,acc⟩ hl hn
  dsimp only at hl ⊢
  match v,hl,hn with
  | [],_,_=>rfl
  | x::t,hl,hn=>
   have hx:=x.toNat_lt
   obtain⟨p1,p2⟩:=Y4 x
   simp only[X12] at hl
   rw[if_pos (by simp),Fq,AC,SB,AG,p1]
   unfold Lh
   by_cases c1:8 * pw six<x.toNat
   ·rw[if_pos (by simp only[decide_eq_true_eq];omega),if_pos (.inl c1)]
    rfl
   rw[if_neg (by simp only[decide_eq_true_eq];omega)]
   dsimp only
   by_cases c2:t.length<pk x
   ·rw[if_pos (by simp only[cond_false,decide_eq_true_eq,X12];omega),if_pos (.inr c2)]
   have hk:=Yq c1
   rw[if_neg (by simp only[cond_false,decide_eq_true_eq,X12];omega),if_neg (fun q=>q.elim c1 c2),show (1:Int)=((1:Nat):Int) by rfl,BM (l:=x::t) (a:=1) (b:=1 + pk x) (by omega) (by simp only[X12];omega)]
   have e4:((x::t).drop 1).take (1 + pk x - 1)=t.take (pk x):=by
    have:1 + pk x - 1=pk x:=by omega
    rw[this];rfl
   have hfl:=Rw (six:=six) (n:=x) (t:=t) c1 c2
   obtain⟨a1,a2,a3,a4⟩:=Hu hfl
   have e5:cpy (List.replicate (Int.toNat (pw six:Int)) (0:UInt8)) 0 (List.replicate (Int.toNat (pw six:Int)) (0:UInt8)).length (t.take (pk x))=Ub six x t:=by
    have hlen:(t.take (pk x)).length=pk x:=by simp only[X18];omega
    rw[Int.toNat_natCast,Yo (by omega),hlen]
    rfl
   have e6:(x::t).drop (1 + pk x)=t.drop (pk x):=by rw[Nat.add_comm];rfl
   have e7:chk (0<=(pw six:Int)/\(pw six:Int)<=(pw six:Int)/\(pw six:Int)<=1048576)=some ():=if_pos (by omega)
   rw[e7,AC,AC,e4,e5,a1,AC]
   dsimp only
   rw[XP a3 (by omega),AC]
   dsimp only
   rw[Ag (by decide) (by simp only[X22];omega),AC,Dx (by simp only[X12];omega),AC,e6]
   exact hn _ (by simp only[X11,X17,X12,X13];omega) (by simp only[X17,X12];omega)
 unfold KJ
 cases Ea six b []<;>rfl
end Go.AX.Q33
end
section
namespace Go.AX.Q33
open Go Go.AX
set_option maxRecDepth 8000
def zU:JAB:=⟨0,0,[]⟩
theorem Nc (x:JAB) (t:List JAB) (k:Int):BF (x::t) k=if (x.Type_==k)=true then x::BF t k else BF t k:=by
 unfold BF
 rw[List.filter_cons]
theorem YT (l:List JAB) (k:Int):(BF l k).length<=l.length:=List.length_filter_le _ _
theorem QL {l:List JAB} (hl:l.length<=1000000) (k:Int):FI l k=some ((BF l k).headD zU,((BF l k).length:Int)):=by
 unfold FI
 rw[AG]
 refine (Wh (fun (t:List JAB) _ (s:Int×JAB)=>0<=s.1/\s.1 + t.length<=1000000) (fun t _ s=>some (if s.1=0 then (BF t k).headD s.2 else s.2,s.1 + ((BF t k).length:Int))) ?_ ?_ l 0 (0,zU) (by simp only;omega)).trans ?_
 ·rintro i ⟨c,u⟩ hP
  show some (u,c)=some (if c=0 then u else u,c + 0)
  rw[ite_self,Int.add_zero]
 ·rintro next x t i ⟨c,u⟩ ⟨h1,h2⟩ hn
  simp only[X12] at h1 h2
  have hle:=YT t k
  dsimp only
  rw[AG,Nc]
  by_cases hx:(x.Type_==k)=true
  ·have e1:AK (c + 1)=c + 1:=AQ (by omega)
   rw[if_pos hx,if_pos hx,e1,AG]
   by_cases hc:c=0
   ·subst hc
    rw[if_pos (by decide),if_pos rfl]
    dsimp only
    rw[hn _ (by simp only;omega)]
    dsimp only
    rw[if_neg (by omega)]
    simp only[List.headD_cons,X12,X24,X26,true_and]
    omega
   rw[if_neg (by simp only[beq_iff_eq];omega),if_neg hc]
   dsimp only
   rw[hn _ (by simp only;omega)]
   dsimp only
   rw[if_neg (by omega)]
   simp only[X12,X24,X26,true_and]
   omega
  rw[if_neg hx,if_neg hx]
  dsimp only
  rw[hn _ (by simp only;omega)]
 dsimp only
 rw[if_pos rfl,Int.zero_add]
theorem Ht (x y z:UInt8) (t:List UInt8):isP (x::y::z::t)=true↔x=0/\y=2/\z=1:=by
 unfold isP
 simp
theorem JE (x:UInt8) (n:Nat) (h:n<256):((x.toNat:Int) != (n:Int))=!decide (x=UInt8.ofNat n):=by
 have:(x=UInt8.ofNat n)↔x.toNat=n:=by
  rw[<- UInt8.toNat_inj,UInt8.toNat_ofNat',Nat.mod_eq_of_lt h]
 rw[X28]
 simp only[bne_iff_ne,ne_eq,Int.natCast_inj,Bool.not_eq_true',decide_eq_false_iff_not,this]
theorem IN {l:List UInt8} {i:Nat} (h:i<l.length):geti l (i:Int)=some l[i]:=Bz h
theorem Xi {l:List JAB} (hd :∀x ∈ l,x.Data.length<=1000000):match Da l with
  | some (a,p)=>C2 ((BF l 14).headD zU) ((BF l 14).length:Int)=some (a,p,true)
  | none=>∃a,C2 ((BF l 14).headD zU) ((BF l 14).length:Int)=some (a,[],false):=by
 unfold Da
 have hm :∀x ∈ BF l 14,x.Data.length<=1000000:=fun x hx=>hd x ((List.mem_filter.1 hx).1)
 match BF l 14,hm with
 | [],_=>rfl
 | x::y::t,_=>
  refine⟨zAd,?_⟩
  show C2 x ((t.length + 1 + 1:Nat):Int)=_
  unfold C2
  rw[if_neg (by simp only[beq_iff_eq];omega),AG,if_pos (by simp only[decide_eq_true_eq];omega)]
  rfl
 | [x],hm=>
  have hx:=hm x (by simp)
  generalize hdd:x.Data=d at hx
  show match Db x.Data with
   | some (a,p)=>C2 x 1=some (a,p,true)
   | none=>∃a,C2 x 1=some (a,[],false)
  unfold C2
  rw[if_neg (by decide),AG,if_neg (by decide),hdd]
  by_cases h21:d.length<21
  ·have hr:Db d=none:=if_neg (by omega)
   rw[hr,if_pos (by simp only[cond_false,decide_eq_true_eq];omega)]
   exact⟨zAd,rfl⟩
  rw[if_neg (by simp only[cond_false,decide_eq_true_eq];omega)]
  match d,h21,hx with
  | [],h,_=>exact absurd (by simp) h
  | [_],h,_=>exact absurd (by simp) h
  | [_,_],h,_=>exact absurd (by simp) h
  | [_,_,_],h,_=>exact absurd (by simp) h
  | x0::x1::x2::x3::t,h21,hx=>
   have g2:geti (x0::x1::x2::x3::t) 2=some x2:=IN (l:=x0::x1::x2::x3::t) (i:=2) (by simp)
   have g3:geti (x0::x1::x2::x3::t) 3=some x3:=IN (l:=x0::x1::x2::x3::t) (i:=3) (by simp)
   simp only[X12] at h21 hx
   have h16:16<t.length:=by omega
   have g20:geti (x0::x1::x2::x3::t) 20=some (t[16]'h16):=IN (l:=x0::x1::x2::x3::t) (i:=20) (by simp only[X12];omega)
   have d20:(x0::x1::x2::x3::t).getD 20 0=t[16]'h16:=by simp[h16]
   have d3:(x0::x1::x2::x3::t).getD 3 0=x3:=rfl
   rw[Fq,AC,Hg,AC,g2,AC,g3,AC,g20,AC]
   have n0:=JE x0 0 (by omega)
   have n1:=JE x1 2 (by omega)
   have n2:=JE x2 1 (by omega)
   have n3:=JE x3 16 (by omega)
   have n20:=JE (t[16]'h16) 0 (by omega)
   have c0:((x0.toNat:Int) != 0)=!decide (x0=0):=n0
   have c1:((x1.toNat:Int) != 2)=!decide (x1=2):=n1
   have c2:((x2.toNat:Int) != 1)=!decide (x2=1):=n2
   have c3:((x3.toNat:Int) != 16)=!decide (x3=16):=n3
   have c20:(((t[16]'h16).toNat:Int) != 0)=!decide (t[16]'h16=0):=n20
   rw[c0,c1,c2,c3,c20]
   by_cases k0:x0=0
   case neg=>rw[show Db _=none from if_neg (fun q=>k0 ((Ht _ _ _ _).1 q.1).1),if_pos (by simp[k0])];exact⟨zAd,rfl⟩
   by_cases k1:x1=2
   case neg=>rw[show Db _=none from if_neg (fun q=>k1 ((Ht _ _ _ _).1 q.1).2.1),if_neg (by simp[k0]),if_pos (by simp[k1])];exact⟨zAd,rfl⟩
   by_cases k2:x2=1
   case neg=>rw[show Db _=none from if_neg (fun q=>k2 ((Ht _ _ _ _).1 q.1).2.2),if_neg (by simp[k0]),if_neg (by simp[k1]),if_pos (by simp[k2])];exact⟨zAd,rfl⟩
   by_cases k3:x3=16
   case neg=>rw[show Db _=none from if_neg (fun q=>k3 (d3 ▸ q.2.2.1)),if_neg (by simp[k0]),if_neg (by simp[k1]),if_neg (by simp[k2]),if_pos (by simp[k3])];exact⟨zAd,rfl⟩
   by_cases k20:t[16]'h16=0
   case neg=>
    rw[show Db _=none from if_neg (fun q=>k20 (d20 ▸ q.2.2.2)),if_neg (by simp[k0]),if_neg (by simp[k1]),if_neg (by simp[k2]),if_neg (by simp[k3])]
    have e:cond false true (!decide (t[16]'h16=0))=true:=by simp[k20]
    rw[e]
    exact⟨zAd,rfl⟩
   have e:cond false true (!decide (t[16]'h16=0))=false:=by simp[k20]
   rw[show Db (x0::x1::x2::x3::t)=_ from if_pos ⟨(Ht _ _ _ _).2 ⟨k0,k1,k2⟩,by simp only[X12];omega,d3.trans k3,d20.trans k20⟩,if_neg (by simp[k0]),if_neg (by simp[k1]),if_neg (by simp[k2]),if_neg (by simp[k3]),e]
   dsimp only
   have p1:part (x0::x1::x2::x3::t) 4 20=some (((x0::x1::x2::x3::t).drop 4).take 16):=BM (l:=x0::x1::x2::x3::t) (a:=4) (b:=20) (by omega) (by simp only[X12];omega)
   have p2:part (x0::x1::x2::x3::t) 21 ((x0::x1::x2::x3::t).length:Int)=some ((x0::x1::x2::x3::t).drop 21):=Dx (n:=21) (by simp only[X12];omega)
   have hl16:(((x0::x1::x2::x3::t).drop 4).take 16).length=pw true:=by
    show _=16
    simp only[X18,X17,X12]
    omega
   rw[if_neg (by decide),p1,AC,G1,(Hu hl16).1,AC]
   dsimp only
   rw[p2,AC,M3 16 true rfl (by simp only[X17,X12];omega)]
   unfold KJ
   cases Ea true ((x0::x1::x2::x3::t).drop 21) [] with
   | none=>exact⟨_,rfl⟩
   | some p=>rfl
theorem To {l:List JAB} (hd :∀x ∈ l,x.Data.length<=1000000):CY ((BF l 15).headD zU) ((BF l 15).length:Int)=some (match Bj l with | some p=>(p,true)|none=>([],false)):=by
 unfold Bj
 have hm :∀x ∈ BF l 15,x.Data.length<=1000000:=fun x hx=>hd x ((List.mem_filter.1 hx).1)
 match BF l 15,hm with
 | [],_=>rfl
 | x::y::t,_=>
  show CY x ((t.length + 1 + 1:Nat):Int)=_
  unfold CY
  rw[if_neg (by simp only[beq_iff_eq];omega),AG,if_pos (by simp only[decide_eq_true_eq];omega)]
  rfl
 | [x],hm=>
  have hx:=hm x (by simp)
  generalize hdd:x.Data=d at hx
  show CY x 1=some (match DX x.Data with | some p=>(p,true)|none=>([],false))
  unfold CY
  rw[if_neg (by decide),AG,if_neg (by decide),hdd]
  by_cases h3:d.length<3
  ·have:isP d=false:=by
    unfold isP
    match d,h3 with
    | [],_=>rfl
    | [_],_=>simp
    | [_,_],_=>simp
   rw[show DX d=none from if_neg (by rw[this];decide),if_pos (by simp only[cond_false,decide_eq_true_eq];omega)]
   rfl
  rw[if_neg (by simp only[cond_false,decide_eq_true_eq];omega)]
  match d,h3,hx with
  | [],h,_=>exact absurd (by simp) h
  | [_],h,_=>exact absurd (by simp) h
  | [_,_],h,_=>exact absurd (by simp) h
  | x0::x1::x2::t,h3,hx=>
   have g2:geti (x0::x1::x2::t) 2=some x2:=IN (l:=x0::x1::x2::t) (i:=2) (by simp)
   simp only[X12] at hx
   rw[Fq,AC,Hg,AC,g2,AC]
   have c0:((x0.toNat:Int) != 0)=!decide (x0=0):=JE x0 0 (by omega)
   have c1:((x1.toNat:Int) != 2)=!decide (x1=2):=JE x1 2 (by omega)
   have c2:((x2.toNat:Int) != 1)=!decide (x2=1):=JE x2 1 (by omega)
   rw[c0,c1,c2]
   by_cases k0:x0=0
   case neg=>rw[show DX _=none from if_neg (fun q=>k0 ((Ht _ _ _ _).1 q).1),if_pos (by simp[k0])];rfl
   by_cases k1:x1=2
   case neg=>rw[show DX _=none from if_neg (fun q=>k1 ((Ht _ _ _ _).1 q).2.1),if_neg (by simp[k0]),if_pos (by simp[k1])];rfl
   by_cases k2:x2=1
   case neg=>
    have e:cond false true (!decide (x2=1))=true:=by simp[k2]
    rw[show DX _=none from if_neg (fun q=>k2 ((Ht _ _ _ _).1 q).2.2),if_neg (by simp[k0]),if_neg (by simp[k1]),e];rfl
   have e:cond false true (!decide (x2=1))=false:=by simp[k2]
   have p2:part (x0::x1::x2::t) 3 ((x0::x1::x2::t).length:Int)=some ((x0::x1::x2::t).drop 3):=Dx (n:=3) (by simp only[X12];omega)
   rw[show DX (x0::x1::x2::t)=_ from if_pos ((Ht _ _ _ _).2 ⟨k0,k1,k2⟩),if_neg (by simp[k0]),if_neg (by simp[k1]),e]
   dsimp only
   rw[if_neg (by decide),p2,AC,M3 16 true rfl (by simp only[X17,X12];omega)]
   unfold KJ
   cases Ea true ((x0::x1::x2::t).drop 3) []<;>rfl
end Go.AX.Q33
end
section
namespace Go.AX.Q33
open Go Go.AX
set_option maxRecDepth 8000
theorem UA (a b:List UInt8):bytes_Equal a b=some (a==b):=by
 unfold bytes_Equal
 rw[NV,NV]
theorem TD (d:List UInt8):bytes_CutPrefix d [0,2,1]=some (if isP d=true then (d.drop 3,true) else (d,false)):=by
 have hp:bytes_HasPrefix d [0,2,1]=some (isP d):=by
  unfold bytes_HasPrefix
  rw[AG]
  by_cases h3:d.length<3
  ·have:isP d=false:=by
    unfold isP
    match d,h3 with
    | [],_=>rfl
    | [_],_=>simp
    | [_,_],_=>simp
   rw[this,if_neg (by simp only[X12,X13,decide_eq_true_eq];omega)]
  rw[if_pos (by simp only[X12,X13,decide_eq_true_eq];omega)]
  have p:part d 0 (([0,2,1]:List UInt8).length:Int)=some (d.take 3):=Oy (n:=3) (by omega)
  rw[p,AC,UA,AC]
  rfl
 unfold bytes_CutPrefix
 rw[hp,AC]
 by_cases h:isP d=true
 ·have h3:3<=d.length:=by
   unfold isP at h
   rcases Nat.lt_or_ge d.length 3 with q | q
   ·match d,q with
    | [],_=>simp at h
    | [_],_=>simp at h
    | [_,_],_=>simp at h
   exact q
  have p:part d (([0,2,1]:List UInt8).length:Int) (d.length:Int)=some (d.drop 3):=Dx (n:=3) h3
  rw[if_pos h,if_neg (by rw[h];decide),p,AC]
 rw[if_neg h,if_pos (by simpa using h)]
def spF:List JAB->JAG×Nat×Nat->Option (JAG×Nat×Nat)
 | [],s=>some s
 | x::t,(p,c,e)=>if x.Type_=14 then (match Db x.Data with
   | none=>none
   | some (a,l)=>spF t ({ p with next:=a,new6:=l },c + 1,e)) else
  if x.Type_=15 then (match DX x.Data with
   | none=>none
   | some l=>spF t ({ p with gone6:=l },c,e + 1)) else spF t (p,c,e)
theorem Cd {x:JAB} {t:List JAB} {k:Int} (h:x.Type_≠k):BF (x::t) k=BF t k:=by rw[Nc,if_neg (by simpa using h)]
theorem GL {x:JAB} {t:List JAB} {k:Int} (h:x.Type_=k):BF (x::t) k=x::BF t k:=by rw[Nc,if_pos (by simpa using h)]
theorem Ll :∀{l:List JAB} {s:JAG×Nat×Nat},spF l s=none->(∃x ∈ BF l 14,Db x.Data=none)\/(∃x ∈ BF l 15,DX x.Data=none)
 | [],s,h=>by cases h
 | x::t,(p,c,e),h=>by
  unfold spF at h
  split at h
  ·rename_i h14
   have h15:x.Type_≠15:=by omega
   rw[GL h14,Cd h15]
   split at h
   ·rename_i hr
    exact .inl ⟨x,by simp,hr⟩
   rcases Ll h with ⟨y,hy,q⟩|q
   ·exact .inl ⟨y,X19 _ hy,q⟩
   exact .inr q
  rename_i h14
  split at h
  ·rename_i h15
   rw[Cd h14,GL h15]
   split at h
   ·rename_i hr
    exact .inr ⟨x,by simp,hr⟩
   rcases Ll h with q | ⟨y,hy,q⟩
   ·exact .inl q
   exact .inr ⟨y,X19 _ hy,q⟩
  rename_i h15
  rw[Cd h14,Cd h15]
  exact Ll h
structure SpR (l:List JAB) (p q:JAG) (c c' e e':Nat):Prop where
 c:c'=c + (BF l 14).length
 e:e'=e + (BF l 15).length
 a0:BF l 14=[]->q.next=p.next/\q.new6=p.new6
 a1 :∀x,BF l 14=[x]->Db x.Data=some (q.next,q.new6)
 b0:BF l 15=[]->q.gone6=p.gone6
 b1 :∀x,BF l 15=[x]->DX x.Data=some q.gone6
 k:q.attrs=p.attrs/\q.gone4=p.gone4/\q.new4=p.new4
theorem Lu :∀{l:List JAB} {p q:JAG} {c c' e e':Nat},spF l (p,c,e)=some (q,c',e')->SpR l p q c c' e e'
 | [],p,q,c,c',e,e',h=>by
  simp only[spF,X24,X26] at h
  obtain⟨rfl,rfl,rfl⟩:=h
  exact⟨rfl,rfl,fun _=>⟨rfl,rfl⟩,fun x hx=>(by cases hx),fun _=>rfl,fun x hx=>(by cases hx),rfl,rfl,rfl⟩
 | x::t,p,q,c,c',e,e',h=>by
  unfold spF at h
  split at h
  ·rename_i h14
   have h15:x.Type_≠15:=by omega
   split at h
   ·cases h
   rename_i a l hr
   have ih:=Lu h
   refine⟨?_,?_,fun z=>?_,fun y z=>?_,fun z=>?_,fun y z=>?_,ih.k⟩
   ·rw[GL h14,X12];have:=ih.c;omega
   ·rw[Cd h15];exact ih.e
   ·rw[GL h14] at z;cases z
   ·rw[GL h14] at z
    obtain⟨rfl,z2⟩:=List.cons.inj z
    obtain⟨i1,i2⟩:=ih.a0 z2
    rw[hr,i1,i2]
   ·rw[Cd h15] at z;exact ih.b0 z
   rw[Cd h15] at z;exact ih.b1 y z
  rename_i h14
  split at h
  ·rename_i h15
   split at h
   ·cases h
   rename_i l hr
   have ih:=Lu h
   refine⟨?_,?_,fun z=>?_,fun y z=>?_,fun z=>?_,fun y z=>?_,ih.k⟩
   ·rw[Cd h14];exact ih.c
   ·rw[GL h15,X12];have:=ih.e;omega
   ·rw[Cd h14] at z;exact ih.a0 z
   ·rw[Cd h14] at z;exact ih.a1 y z
   ·rw[GL h15] at z;cases z
   rw[GL h15] at z
   obtain⟨rfl,z2⟩:=List.cons.inj z
   have i1:=ih.b0 z2
   rw[hr,i1]
  rename_i h15
  have ih:=Lu h
  refine⟨?_,?_,fun z=>?_,fun y z=>?_,fun z=>?_,fun y z=>?_,ih.k⟩
  ·rw[Cd h14];exact ih.c
  ·rw[Cd h15];exact ih.e
  ·rw[Cd h14] at z;exact ih.a0 z
  ·rw[Cd h14] at z;exact ih.a1 y z
  ·rw[Cd h15] at z;exact ih.b0 z
  rw[Cd h15] at z;exact ih.b1 y z
theorem Ve {d:List UInt8} (hd:d.length<=1000000) {v8:List UInt8} {v9:Bool} (hv:(if isP d=true then (d.drop 3,true) else (d,false))=(v8,v9)) {ρ:Type} {B:Option ρ} {G:Addr->List JAD×Bool->Option ρ}{L:Option ρ}
  (hL:L=(AI (τ:=Bool) (fun k11=>
      if (!v9) then
       k11 true
      else
       if (cond false true (decide ((v8.length:Int)<18))) then
        k11 true
       else
        Option.bind (geti v8 0) fun v12=>
        if (cond false true ((v12.toNat:Int) != 16)) then
         k11 true
        else
         Option.bind (geti v8 17) fun v13=>
         k11 (cond false true ((v13.toNat:Int) != 0))
     ) fun v14=>
     if v14 then
      B
     else
      Option.bind (part v8 1 17) fun v15=>
      Option.bind (A7 v15) fun (v16,v17)=>
      Option.bind (part v8 18 (v8.length:Int)) fun v18=>
      Option.bind (Bn v18 true) fun v=>G v16 v)):match Db d with
   | none=>L=B \/∃a l,L=G a (l,false)
   | some (a,l)=>L=G a (l,true):=by
 rw[AG] at hL
 by_cases hp:isP d=true
 case neg=>
  rw[if_neg hp] at hv
  obtain⟨rfl,rfl⟩:=Prod.mk.inj hv
  rw[show Db d=none from if_neg (fun q=>hp q.1)]
  exact .inl hL
 rw[if_pos hp] at hv
 obtain⟨rfl,rfl⟩:=Prod.mk.inj hv
 rw[if_neg (by decide)] at hL
 by_cases hl:d.length<21
 ·rw[if_pos (by simp only[cond_false,decide_eq_true_eq,X17];omega)] at hL
  rw[show Db d=none from if_neg (fun q=>by omega)]
  exact .inl hL
 rw[if_neg (by simp only[cond_false,decide_eq_true_eq,X17];omega)] at hL
 have g0:geti (d.drop 3) 0=some (d.getD 3 0):=by
  have:=IN (l:=d.drop 3) (i:=0) (by simp only[X17];omega)
  have e:(d.drop 3)[0]'(by simp only[X17];omega)=d.getD 3 0:=by
   rw[List.getElem_drop,List.getD_eq_getElem?_getD,X15 (by omega),Option.getD_some]
  rw[<- e];exact this
 have g17:geti (d.drop 3) 17=some (d.getD 20 0):=by
  have:=IN (l:=d.drop 3) (i:=17) (by simp only[X17];omega)
  have e:(d.drop 3)[17]'(by simp only[X17];omega)=d.getD 20 0:=by
   rw[List.getElem_drop,List.getD_eq_getElem?_getD,X15 (by omega),Option.getD_some]
  rw[<- e];exact this
 have c3:(((d.getD 3 0).toNat:Int) != 16)=!decide (d.getD 3 0=16):=JE _ 16 (by omega)
 have c20:(((d.getD 20 0).toNat:Int) != 0)=!decide (d.getD 20 0=0):=JE _ 0 (by omega)
 rw[g0,AC,g17,AC,c3,c20] at hL
 by_cases k3:d.getD 3 0=16
 case neg=>
  rw[if_pos (by simp only[k3,decide_false,Bool.not_false,cond_false])] at hL
  rw[show Db d=none from if_neg (fun q=>k3 q.2.2.1)]
  exact .inl hL
 rw[if_neg (by simp only[k3,decide_true,Bool.not_true,cond_false];decide)] at hL
 by_cases k20:d.getD 20 0=0
 case neg=>
  rw[decide_eq_false k20] at hL
  rw[show Db d=none from if_neg (fun q=>k20 q.2.2.2)]
  exact .inl hL
 have p1:part (d.drop 3) 1 17=some ((d.drop 4).take 16):=by
  have:=BM (l:=d.drop 3) (a:=1) (b:=17) (by omega) (by simp only[X17];omega)
  rw[List.drop_drop] at this
  exact this
 have p2:part (d.drop 3) 18 ((d.drop 3).length:Int)=some (d.drop 21):=by
  have:=Dx (l:=d.drop 3) (n:=18) (by simp only[X17];omega)
  rw[List.drop_drop] at this
  exact this
 have hl16:((d.drop 4).take 16).length=pw true:=by
  show _=16
  simp only[X18,X17]
  omega
 rw[decide_eq_true k20] at hL
 dsimp only at hL
 rw[if_neg (by decide),p1,AC,(Hu hl16).1,AC] at hL
 dsimp only at hL
 rw[p2,AC,GM (by simp only[X17];omega),AC] at hL
 unfold KJ at hL
 rw[show Db d=_ from if_pos ⟨hp,by omega,k3,k20⟩]
 cases hx:Ea true (d.drop 21) [] with
 | none=>rw[hx] at hL;exact .inr ⟨_,_,hL⟩
 | some l=>rw[hx] at hL;exact hL
theorem TN {p:JAG} (hl:p.attrs.length<=1000000) (hd :∀x ∈ p.attrs,x.Data.length<=1000000) :∃r,Cf p=some r/\(match spF p.attrs (p,0,0) with
  | none=>r.1=false
  | some (q,c,e)=>r=(decide (c<2)&&decide (e<2),q)):=by
 unfold Cf
 rw[AG]
 generalize hR:spF p.attrs (p,0,0)=R
 refine WS (fun (t:List JAB) _ (s:JAG×List (Int×Int))=>(∃c e:Nat,(Df s.2 14).getD 0=(c:Int)/\(Df s.2 15).getD 0=(e:Int)/\c + e + t.length<=1000000/\spF t (s.1,c,e)=R)/\∀x ∈ t,x.Data.length<=1000000) _ ?_ ?_ p.attrs 0 (p,[]) ⟨⟨0,0,rfl,rfl,by omega,hR⟩,hd⟩
 ·rintro i ⟨v2,v3⟩ ⟨⟨c,e,h1,h2,h3,h4⟩,_⟩
  have h4:some (v2,c,e)=R:=h4
  subst h4
  refine⟨(decide (c<2)&&decide (e<2),v2),?_,rfl⟩
  dsimp only at h1 h2 ⊢
  rw[AG,AC,h1,AC,h2]
  by_cases hc:c<2
  ·rw[if_pos (by simp only[decide_eq_true_eq];omega),decide_eq_true hc]
   have:decide ((e:Int)<2)=decide (e<2):=by rw[decide_eq_decide];omega
   rw[this]
   rfl
  rw[if_neg (by simp only[decide_eq_true_eq];omega),decide_eq_false hc]
  rfl
 rintro next x t i ⟨v2,v3⟩ ⟨⟨c,e,h1,h2,h3,h4⟩,hdx⟩ hn
 have hdd:=hdx x (by simp)
 have hdt :∀y ∈ t,y.Data.length<=1000000:=fun y hy=>hdx y (X19 _ hy)
 simp only[X12] at h1 h2 h3 h4
 dsimp only
 obtain⟨v8,v9,hv⟩ :∃v8 v9,(if isP x.Data=true then (x.Data.drop 3,true) else (x.Data,false))=(v8,v9):=⟨_,_,rfl⟩
 rw[AC,TD,hv,AC]
 dsimp only
 rw[AG]
 by_cases h14:x.Type_=14
 ·rw[if_pos (by rw[h14];rfl)]
  have hz:=Ve hdd hv (B:=some (false,v2)) (G:=fun a q=>if (!q.2) then some (false,{ v2 with next:=a,new6:=q.1 }) else next ({ v2 with next:=a,new6:=q.1 },F3 v3 x.Type_ (AK ((Df v3 x.Type_).getD 0 + 1)))) rfl
  unfold spF at h4
  rw[if_pos h14] at h4
  cases hr:Db x.Data with
  | none=>
   rw[hr] at hz h4
   have h4:none=R:=h4
   subst h4
   rcases hz with hz | ⟨a,l,hz⟩
   ·exact⟨_,hz,rfl⟩
   exact⟨_,hz,rfl⟩
  | some q=>
   obtain⟨a,l⟩:=q
   rw[hr] at hz h4
   dsimp only at hz h4
   rw[if_neg (by decide)] at hz
   obtain⟨r,g1,g2⟩:=hn ({ v2 with next:=a,new6:=l },F3 v3 x.Type_ (AK ((Df v3 x.Type_).getD 0 + 1))) ⟨⟨c + 1,e,by
    rw[EA,if_pos h14.symm,h14,h1,Option.getD_some,AQ (by omega)];omega,by
    rw[EA,if_neg (by omega)];exact h2,by omega,h4⟩,hdt⟩
   exact⟨r,Eq.trans hz g1,g2⟩
 rw[if_neg (by simpa using h14),AG]
 unfold spF at h4
 rw[if_neg h14] at h4
 by_cases h15:x.Type_=15
 ·rw[if_pos (by rw[h15];rfl),AG]
  rw[if_pos h15] at h4
  by_cases hp:isP x.Data=true
  ·rw[if_pos hp] at hv
   obtain⟨rfl,rfl⟩:=Prod.mk.inj hv
   rw[if_pos rfl,GM (by simp only[X17];omega),AC]
   rw[show DX x.Data=_ from if_pos hp] at h4
   unfold KJ
   cases hx:Ea true (x.Data.drop 3) [] with
   | none=>
    rw[hx] at h4
    have h4:none=R:=h4
    subst h4
    exact⟨_,rfl,rfl⟩
   | some l=>
    rw[hx] at h4
    dsimp only at h4 ⊢
    rw[if_neg (by decide)]
    exact hn _ ⟨⟨c,e + 1,by
     rw[EA,if_neg (by omega)];exact h1,by
     rw[EA,if_pos h15.symm,h15,h2,Option.getD_some,AQ (by omega)];omega,by omega,h4⟩,hdt⟩
  rw[if_neg hp] at hv
  obtain⟨rfl,rfl⟩:=Prod.mk.inj hv
  rw[show DX x.Data=none from if_neg hp] at h4
  have h4:none=R:=h4
  subst h4
  exact⟨_,rfl,rfl⟩
 rw[if_neg (by simpa using h15)]
 rw[if_neg h15] at h4
 dsimp only
 rw[if_neg (by decide)]
 refine hn _ ⟨⟨c,e,?_,?_,by omega,h4⟩,hdt⟩
 ·dsimp only
  rw[EA,if_neg (by omega)];exact h1
 dsimp only
 rw[EA,if_neg (by omega)];exact h2
end Go.AX.Q33
end
section
namespace Go.AX.Q33
open Go Go.AX
set_option maxRecDepth 8000
theorem UQ {l:List JAB} (h :∃x ∈ BF l 14,Db x.Data=none):Da l=none:=by
 obtain⟨x,hx,hr⟩:=h
 unfold Da
 match BF l 14,hx with
 | [y],hx=>
  rw[X14] at hx
  subst hx;exact hr
 | _::_::_,_=>rfl
theorem Qd {l:List JAB} (h :∃x ∈ BF l 15,DX x.Data=none):Bj l=none:=by
 obtain⟨x,hx,hr⟩:=h
 unfold Bj
 match BF l 15,hx with
 | [y],hx=>
  rw[X14] at hx
  subst hx;exact hr
 | _::_::_,_=>rfl
theorem N6 {l:List JAB} (h:2<=(BF l 14).length):Da l=none:=by
 unfold Da
 match BF l 14,h with
 | [],h=>simp at h
 | [_],h=>simp at h
 | _::_::_,_=>rfl
theorem Kq {l:List JAB} (h:2<=(BF l 15).length):Bj l=none:=by
 unfold Bj
 match BF l 15,h with
 | [],h=>simp at h
 | [_],h=>simp at h
 | _::_::_,_=>rfl
theorem SpR.reach {l:List JAB} {p q:JAG} {c c' e e':Nat} (h:SpR l p q c c' e e') (hp:p.next=zAd/\p.new6=[]) (hn:(BF l 14).length<2):Da l=some (q.next,q.new6):=by
 have h0:=h.a0
 have h1:=h.a1
 unfold Da
 match BF l 14,h0,h1,hn with
 | [],h0,_,_=>
  obtain⟨e1,e2⟩:=h0 rfl
  rw[e1,e2,hp.1,hp.2]
 | [x],_,h1,_=>exact h1 x rfl
 | _::_::t,_,_,hn=>exact absurd hn (by simp only[X12];omega)
theorem SpR.unreach {l:List JAB} {p q:JAG} {c c' e e':Nat} (h:SpR l p q c c' e e') (hp:p.gone6=[]) (hn:(BF l 15).length<2):Bj l=some q.gone6:=by
 have h0:=h.b0
 have h1:=h.b1
 unfold Bj
 match BF l 15,h0,h1,hn with
 | [],h0,_,_=>
  have e1:=h0 rfl
  rw[e1,hp]
 | [x],_,h1,_=>exact h1 x rfl
 | _::_::t,_,_,hn=>exact absurd hn (by simp only[X12];omega)
theorem XO {ρ:Type} (x y A B C D:Bool) (K:Bool->Option ρ):AI (τ:=Bool) (fun k18=>
     if (!x)=true then
      k18 true
     else
      if (cond false true (!y))=true then
       k18 true
      else
       if A=true then
        if (cond false true (cond true B false))=true then
         k18 true
        else
         if (cond false true C)=true then
          k18 true
         else
          k18 (cond false true D)
       else
        if (cond false true C)=true then
         k18 true
        else
         k18 (cond false true D)) K=K (!x || (!y || ((A&&B) || (C || D)))):=by
 rw[AG]
 cases x<;>cases y<;>cases A<;>cases B<;>cases C<;>cases D<;>rfl
theorem Yc (old gone four six:List JAD):(decide ((four.length:Int) > 0)&&decide ((six.length:Int) > 0) || (decide ((old.length:Int) + gone.length > 256) || decide ((four.length:Int) + six.length > 256)))=!okN old gone four six:=by
 have e1:decide ((four.length:Int) > 0)=decide (0<four.length):=by rw[decide_eq_decide];omega
 have e2:decide ((six.length:Int) > 0)=decide (0<six.length):=by rw[decide_eq_decide];omega
 have e3:decide ((old.length:Int) + gone.length > 256)=!decide (old.length + gone.length<=256):=by rw[<- decide_not,decide_eq_decide];omega
 have e4:decide ((four.length:Int) + six.length > 256)=!decide (four.length + six.length<=256):=by rw[<- decide_not,decide_eq_decide];omega
 rw[e1,e2,e3,e4]
 unfold okN
 cases decide (0 < four.length)<;>cases decide (0 < six.length)<;>cases decide (old.length + gone.length<=256)<;>cases decide (four.length + six.length<=256)<;>rfl
theorem M6 {six:Bool} {b:List UInt8} {l:List JAD} (h:Ea six b []=some l):l.length<=b.length:=by
 have:=S9 six _ _ _ _ h
 simpa using this
theorem MU {l:List JAB} {N:Nat} (hd :∀x ∈ l,x.Data.length<=N) {p:List JAD} (h:Bj l=some p):p.length<=N:=by
 unfold Bj at h
 have hm :∀x ∈ BF l 15,x.Data.length<=N:=fun x hx=>hd x (List.mem_filter.1 hx).1
 match BF l 15,hm,h with
 | [],_,h=>obtain rfl:=X25 h;simp
 | [x],hm,h=>
  have h:DX x.Data=some p:=h
  unfold DX at h
  split at h
  ·have:=M6 h
   have:=hm x (by simp)
   simp only[X17] at *
   omega
  cases h
theorem QO {l:List JAB} {N:Nat} (hd :∀x ∈ l,x.Data.length<=N) {a:Addr} {p:List JAD} (h:Da l=some (a,p)):p.length<=N:=by
 unfold Da at h
 have hm :∀x ∈ BF l 14,x.Data.length<=N:=fun x hx=>hd x (List.mem_filter.1 hx).1
 match BF l 14,hm,h with
 | [],_,h=>
  simp only[X24,X26] at h
  obtain⟨_,rfl⟩:=h;simp
 | [x],hm,h=>
  have h:Db x.Data=some (a,p):=h
  unfold Db at h
  split at h
  ·obtain⟨q,hq,he⟩:=Option.map_eq_some_iff.1 h
   simp only[X26] at he
   obtain⟨_,rfl⟩:=he
   have:=M6 hq
   have:=hm x (by simp)
   simp only[X17] at *
   omega
  cases h
def p00:JAG:=⟨[],(⟨false,(0:UInt64),(0:UInt64)⟩:Addr),[],[],[],[]⟩
theorem RA {b:List UInt8} (hb:b.length<=400000) :∃r,BZ p00 b=some r/\(match HI b with
  | none=>r.1=false
  | some P=>r=(true,⟨P.l,P.next,P.old,P.gone,P.four,P.six⟩)):=by
 unfold BZ HI
 rw[UT (by omega),AC]
 unfold HB
 cases h1:GY b with
 | none=>exact⟨_,rfl,rfl⟩
 | some q=>
  obtain⟨w,b1⟩:=q
  have l1:=FY h1
  dsimp only
  rw[if_neg (by decide),UT (by omega),AC]
  unfold HB
  cases h2:GY b1 with
  | none=>exact⟨_,rfl,rfl⟩
  | some q=>
   obtain⟨a,rest⟩:=q
   have l2:=FY h2
   dsimp only
   rw[if_neg (by decide),Vp (by omega),AC]
   unfold NP
   cases h3:J3 a [] with
   | none=>exact⟨_,rfl,rfl⟩
   | some l=>
    obtain⟨s1,s2⟩:=Pn (by omega) h3
    dsimp only
    rw[Ip,AG,if_neg (by decide)]
    obtain⟨r,hr,hq⟩:=TN (p:={ p00 with attrs:=l }) (by show l.length<=_;omega) (fun x hx=>by have:=s2 x hx;omega)
    rw[hr,AC]
    have hq':(match spF l ({ p00 with attrs:=l },0,0) with
     | none=>r.1=false
     | some (q,c,e)=>r=(decide (c<2)&&decide (e<2),q)):=hq
    cases hs:spF l ({ p00 with attrs:=l },0,0) with
    | none=>
     rw[hs] at hq'
     rw[C9 ((Ll hs).imp UQ fun z=>.inl (Qd z))]
     obtain⟨r1,r2⟩:=r
     have hq':r1=false:=hq'
     subst hq'
     exact⟨_,rfl,rfl⟩
    | some z=>
     obtain⟨q,c,e⟩:=z
     rw[hs] at hq'
     have hq':r=(decide (c<2)&&decide (e<2),q):=hq'
     subst hq'
     have sp:=Lu hs
     have c0:=sp.c
     have e0:=sp.e
     rw[Nat.zero_add] at c0 e0
     by_cases hc:(decide (c<2)&&decide (e<2))=true
     case neg=>
      have:Da l=none\/Bj l=none:=by
       rcases Nat.lt_or_ge c 2 with q1 | q1
       ·rcases Nat.lt_or_ge e 2 with q2 | q2
        ·exact absurd (by rw[decide_eq_true q1,decide_eq_true q2];rfl) hc
        exact .inr (Kq (by omega))
       exact .inl (N6 (by omega))
      rw[C9 (this.imp id .inl),Bool.not_eq_true _ |>.mp hc]
      exact⟨_,rfl,rfl⟩
     rw[hc]
     rw[X27,decide_eq_true_eq,decide_eq_true_eq] at hc
     have hR:=sp.reach ⟨rfl,rfl⟩ (by omega)
     have hU:=sp.unreach rfl (by omega)
     obtain⟨ka,k4,kn⟩:=sp.k
     have ka:q.attrs=l:=ka
     rw[hR,hU]
     have n6:=QO (N:=400000) (fun x hx=>s2 x hx) hR
     have g6:=MU (N:=400000) (fun x hx=>s2 x hx) hU
     dsimp only
     rw[if_neg (by decide),GM (by omega),AC,GM (by omega)]
     unfold KJ
     cases hO:Ea false w [] with
     | none=>rw[C9 (.inr (.inr (.inl rfl)))];exact⟨_,rfl,rfl⟩
     | some old=>
      have lo:=M6 hO
      cases hF:Ea false rest [] with
      | none=>rw[C9 (.inr (.inr (.inr rfl)))];exact⟨_,rfl,rfl⟩
      | some four=>
       have lf:=M6 hF
       dsimp only
       rw[AC]
       dsimp only
       rw[XO,AQ (x:=(old.length:Int) + (q.gone6.length:Int)) (by omega),AQ (x:=(four.length:Int) + (q.new6.length:Int)) (by omega),Yc,ka,UM ⟨by omega,fun x hx=>by have:=s2 x hx;omega⟩,AC]
       rw[Iz]
       cases hk:okN old q.gone6 four q.new6 with
       | false=>
        rw[if_neg (show ¬ (false=true/\(rdS l).2≠12) by simp)]
        exact⟨_,rfl,rfl⟩
       | true=>
        rw[if_neg (by decide)]
        by_cases h12:(rdS l).2=12
        ·rw[if_neg (fun z=>z.2 h12)]
         refine⟨_,rfl,?_⟩
         show ((rdS l).2 != 12)=false
         rw[h12];rfl
        rw[if_pos ⟨rfl,h12⟩]
        refine⟨_,rfl,?_⟩
        have:((rdS l).2 != 12)=true:=by simpa using h12
        dsimp only
        rw[this,<- ka]
end Go.AX.Q33
end
section
namespace Go.AX.Q33
open Go Go.AX
set_option maxRecDepth 8000
theorem G2 {α σ ρ:Type} {K:σ->Option ρ} {b:(σ->Option ρ)->α->Nat->σ->Option ρ} {x:α} {t:List α} {i:Nat} {s:σ}:An K b (x::t) i s=b (fun s=>An K b t (i + 1) s) x i s:=rfl
theorem VH {α σ ρ:Type} {K:σ->Option ρ} {b:(σ->Option ρ)->α->Nat->σ->Option ρ} {i:Nat} {s:σ}:An K b [] i s=K s:=rfl
theorem Rl {x y:List JAD} (hx:x.length<=100000) (hy:y.length<=100000):Ao [x,y]=some (x++y):=by
 unfold Ao
 rw[AG,G2]
 have e1:AK (0 + (x.length:Int))=(x.length:Int):=by rw[AQ (by omega)];omega
 have e2:AK ((x.length:Int) + (y.length:Int))=((x.length + y.length:Nat):Int):=by rw[AQ (by omega)];omega
 rw[e1,if_neg (by simp only[decide_eq_true_eq];omega)]
 dsimp only
 rw[G2,e2,if_neg (by simp only[decide_eq_true_eq];omega)]
 dsimp only
 rw[VH]
 have e3:AK (((x.length + y.length:Nat):Int) - AK (0 - 0))=((x.length + y.length:Nat):Int):=by
  have:AK (0 - 0)=0:=AQ (by omega)
  rw[this,AQ (by omega)];omega
 have hk :∀(K:List JAD->Option (List JAD)),AI (τ:=(List JAD)) (fun k8=>
    if (decide ((AK (((x.length + y.length:Nat):Int) - (AK (0 - 0)))) > 0)) then
     Option.bind (chk (0<(AK (((x.length + y.length:Nat):Int) - (AK (0 - 0))))/\(AK (((x.length + y.length:Nat):Int) - (AK (0 - 0))))<=1048576)) fun _=>
     Option.bind (part (List.replicate (Int.toNat (AK (((x.length + y.length:Nat):Int) - (AK (0 - 0))))) (⟨(⟨false,(0:UInt64),(0:UInt64)⟩:Addr),0⟩:JAD)) 0 0) fun v9=>
     k8 v9
    else
     k8 []) K=K []:=by
  intro K
  rw[AG,e3]
  by_cases hz:x.length + y.length=0
  ·rw[if_neg (by simp only[decide_eq_true_eq];omega)]
  have p:part (List.replicate (Int.toNat ((x.length + y.length:Nat):Int)) (⟨(⟨false,(0:UInt64),(0:UInt64)⟩:Addr),0⟩:JAD)) 0 0=some []:=by
   have:=BM (l:=List.replicate (Int.toNat ((x.length + y.length:Nat):Int)) (⟨(⟨false,(0:UInt64),(0:UInt64)⟩:Addr),0⟩:JAD)) (a:=0) (b:=0) (by omega) (by omega)
   rw[Nat.sub_self,List.take_zero] at this
   exact this
  rw[if_pos (by simp only[decide_eq_true_eq];omega),show chk _=some () from if_pos (by omega),AC,p,AC]
 rw[AG,if_neg (by simp only[decide_eq_true_eq];omega),hk]
 dsimp only
 rw[AG,G2,Ag (by decide) (by simp only[X13];omega),AC]
 dsimp only
 rw[G2,Ag (by decide) (by simp only[List.nil_append];omega),AC]
 dsimp only
 rw[VH,List.nil_append]
theorem PV (q:JAG) (t:Int):Bq q t=some (B5 q.attrs t,q):=by
 have main :∀(l:List JAB) (i:Nat),∃n:Int,An (σ:=Int) (fun v2=>some (-1,v2)) (fun next3 (x4:JAB) i5 v2=>Option.bind (Cm x4 v2) fun (v6,v7)=>if v6 then some ((i5:Int),v7) else next3 v7) l i t=some (n,t)/\decide (n ≥ 0)=B5 l t:=by
  intro l
  induction l with
  | nil=>intro i;exact⟨-1,rfl,rfl⟩
  | cons x l ih=>
   intro i
   rw[G2]
   unfold Cm
   rw[AC]
   dsimp only
   have hc:B5 (x::l) t=((x.Type_==t) || B5 l t):=by
    unfold B5
    rw[List.any_cons]
    congr 1
    exact X28.2 ⟨fun h=>by rw[beq_iff_eq] at h ⊢;exact h.symm,fun h=>by rw[beq_iff_eq] at h ⊢;exact h.symm⟩
   rw[hc]
   by_cases hx:(x.Type_==t)=true
   ·rw[if_pos hx,hx]
    exact⟨_,rfl,by simp⟩
   rw[if_neg hx,Bool.not_eq_true _ |>.mp hx]
   exact ih (i + 1)
 obtain⟨n,h1,h2⟩:=main q.attrs 0
 unfold Bq Aa Ac
 rw[AG]
 show Option.bind (Option.bind (An (σ:=Int) (fun v2=>some (-1,v2)) _ q.attrs 0 t) _) _=_
 rw[h1,AC,AC]
 dsimp only
 rw[h2]
theorem Vd (x:JAB):Bf x=some (flg x):=by
 unfold Bf flg
 rw[AG]
 show (if (x.Type_==14)=true then some (cond true (bt x.Flags 192 != 128) false) else if (cond false true (x.Type_==15))=true then some (cond true (bt x.Flags 192 != 128) false) else some false)=_
 cases (x.Type_==14)<;>cases (x.Type_==15)<;>cases (bt x.Flags 192 != 128)<;>rfl
theorem Vn (l:List JAB):AZ l=some (l.any flg):=aO (f:=Bf) (q:=flg) fun x _=>Vd x
theorem XM (P:Pt):DD ⟨P.l,P.next,P.old,P.gone,P.four,P.six⟩ (rdS P.l).1 (rdS P.l).2=some (VF P,⟨P.l,P.next,P.old,P.gone,P.four,P.six⟩):=by
 unfold DD VF
 rw[AG]
 by_cases he:(rdS P.l).2=0
 ·rw[if_neg (by rw[he];decide),Vn,AC,PV,AC,decide_eq_false (fun h=>h he)]
  dsimp only
  rw[PV,AC]
  dsimp only
  have e1:decide ((P.four.length:Int) > 0)=decide (0<P.four.length):=by rw[decide_eq_decide];omega
  rw[e1]
  show (if (cond false true (P.l.any flg))=true then _ else _)=_
  have ez:Addr.eqd (rdS P.l).1.Next (⟨false,(0:UInt64),(0:UInt64)⟩:Addr)=Addr.eqd (rdS P.l).1.Next zAd:=rfl
  rw[ez]
  cases P.l.any flg<;>cases B5 P.l 1<;>cases B5 P.l 2<;>cases decide (0 < P.four.length)<;>cases Addr.eqd (rdS P.l).1.Next zAd<;>rfl
 rw[if_pos (by simpa using he),decide_eq_true (p:=(rdS P.l).2≠0) he]
 rfl
structure PtOK (b:List UInt8) (P:Pt):Prop where
 ok:okN P.old P.gone P.four P.six=true
 ne:(rdS P.l).2≠12
 l:P.l.length<=400000
 d :∀x ∈ P.l,x.Data.length<=400000
 h :∃w b1 a rest,GY b=some (w,b1)/\GY b1=some (a,rest)/\J3 a []=some P.l/\Da P.l=some (P.next,P.six)/\Bj P.l=some P.gone/\Ea false w []=some P.old/\Ea false rest []=some P.four
theorem M7 {b:List UInt8} (hb:b.length<=400000) {P:Pt} (h:HI b=some P):PtOK b P:=by
 unfold HI at h
 split at h
 ·cases h
 rename_i w b1 h1
 have l1:=FY h1
 split at h
 ·cases h
 rename_i a rest h2
 have l2:=FY h2
 cases h3:J3 a [] with
 | none=>rw[h3] at h;cases h
 | some l=>
  rw[h3,Ip] at h
  obtain⟨s1,s2⟩:=Pn (by omega) h3
  cases hR:Da l with
  | none=>rw[C9 (.inl hR)] at h;cases h
  | some q=>
   obtain⟨n,six⟩:=q
   cases hU:Bj l with
   | none=>rw[C9 (.inr (.inl hU))] at h;cases h
   | some gone=>
    cases hO:Ea false w [] with
    | none=>rw[C9 (.inr (.inr (.inl hO)))] at h;cases h
    | some old=>
     cases hF:Ea false rest [] with
     | none=>rw[C9 (.inr (.inr (.inr hF)))] at h;cases h
     | some four=>
      rw[hR,hU,hO,hF,Iz] at h
      split at h
      ·rename_i hc
       obtain rfl:=X25 h
       exact⟨hc.1,hc.2,s1,s2,w,b1,a,rest,h1,h2,h3,hR,hU,hO,hF⟩
      cases h
theorem W3 {old gone four six:List JAD} (h:okN old gone four six=true):old.length + gone.length<=256/\four.length + six.length<=256/\¬ (0<four.length/\0<six.length):=by
 unfold okN at h
 simp only[X27,Bool.not_eq_true',decide_eq_true_eq,Bool.and_eq_false_iff,decide_eq_false_iff_not] at h
 omega
theorem ZE {α:Type} (l:List α):((l.length:Int)==0)=true↔l=[]:=by
 rw[beq_iff_eq,Int.natCast_eq_zero,List.length_eq_zero_iff]
theorem U6 {b:List UInt8} (hb:b.length<=400000):FA b=some (Ob b):=by
 unfold FA Ob
 obtain⟨r,hr,hq⟩:=RA hb
 show Option.bind (BZ p00 b) _=_
 rw[hr,AC]
 cases hP:HI b with
 | none=>
  rw[hP] at hq
  obtain⟨r1,r2⟩:=r
  have hq:r1=false:=hq
  subst hq
  rfl
 | some P=>
  rw[hP] at hq
  have hq:r=(true,⟨P.l,P.next,P.old,P.gone,P.four,P.six⟩):=hq
  subst hq
  obtain⟨p1,p2,p3,p4,_⟩:=M7 hb hP
  obtain⟨n1,n2,_⟩:=W3 p1
  dsimp only
  rw[if_neg (by decide),Rl (by omega) (by omega),AC,show FD=some eA from rfl,AC,Rl (by omega) (by omega),AC]
  by_cases h0:P.four++P.six=[]
  ·rw[if_pos ((ZE _).2 h0),if_pos h0]
  rw[if_neg (fun h=>h0 ((ZE _).1 h)),if_neg h0,UM ⟨by omega,fun x hx=>by have:=p4 x hx;omega⟩,AC]
  rw[XM,AC]
  dsimp only
  by_cases hf:VF P=true
  ·rw[if_pos hf,if_pos hf,Ag (by decide) (by simp only[X11];omega),AC]
  rw[if_neg hf,if_neg hf,AG]
  by_cases h6:0<P.six.length
  ·rw[if_pos (by simp only[decide_eq_true_eq];omega),if_pos h6]
  rw[if_neg (by simp only[decide_eq_true_eq];omega),if_neg h6]
end Go.AX.Q33
end
section
namespace Go.AX.Q33
open Go Go.AX
set_option maxRecDepth 8000
theorem XW {ρ:Type} (e:Int) (x1 x2 x3 x4 A B C D:Bool) (K:Bool->Option ρ):AI (τ:=Bool) (fun k61=>
   if (!x1)=true then
    k61 true
   else
    if (cond false true (e != 0))=true then
     k61 true
    else
     if (cond false true (!x2))=true then
      k61 true
     else
      if (cond false true (!x3))=true then
       k61 true
      else
       if (cond false true (!x4))=true then
        k61 true
       else
        if A=true then
         if (cond false true (cond true B false))=true then
          k61 true
         else
          if (cond false true C)=true then
           k61 true
          else
           k61 (cond false true D)
        else
         if (cond false true C)=true then
          k61 true
         else
          k61 (cond false true D)) K=K (!x1 || ((e != 0) || (!x2 || (!x3 || (!x4 || ((A&&B) || (C || D))))))):=by
 rw[AG]
 cases (e != 0)<;>cases x1<;>cases x2<;>cases x3<;>cases x4<;>cases A<;>cases B<;>cases C<;>cases D<;>rfl
def wr (x:JAB) (n:Int):Bool:=decide (n > 0)&&(bt x.Flags 192 != 128)
theorem UU (x:JAB) (n:Int):ED x n=some (wr x n):=by
 unfold ED wr
 rw[AG]
 show (if decide (n > 0)=true then some (cond true (bt x.Flags 192 != 128) false) else some false)=_
 cases decide (n > 0)<;>rfl
theorem Xj {ρ:Type} (e:Int) (x y:JAB) (n m o c:Int) (A B:Bool) (K:Bool->Option ρ):AI (τ:=Bool) (fun k67=>
      if (e != 0)=true then
       k67 true
      else
       Option.bind (ED x n) fun v68=>
       if (cond false true v68)=true then
        k67 true
       else
        Option.bind (ED y m) fun v69=>
        if (cond false true v69)=true then
         k67 true
        else
         if (cond false true (o==(-1)))=true then
          k67 true
         else
          if (cond false true (c==0))=true then
           k67 true
          else
           if A=true then
            k67 (cond false true (cond true B false))
           else
            k67 false) K=K ((e != 0) || (wr x n || (wr y m || ((o==-1) || ((c==0) || (A&&B)))))):=by
 rw[AG,UU,AC,UU,AC]
 cases (e != 0)<;>cases wr x n<;>cases wr y m<;>cases (o==-1)<;>cases (c==0)<;>cases A<;>cases B<;>rfl
theorem Wi :∀(l:List JAB),l.any flg=((BF l 14).any (fun x=>bt x.Flags 192 != 128) || (BF l 15).any fun x=>bt x.Flags 192 != 128)
 | []=>rfl
 | x::t=>by
  rw[List.any_cons,Wi t]
  unfold flg
  by_cases h14:x.Type_=14
  ·rw[GL h14,Cd (by omega:x.Type_≠15),List.any_cons,h14]
   show ((true || _)&&_ || _)=_
   rw[Bool.true_or,Bool.true_and,Bool.or_assoc]
  by_cases h15:x.Type_=15
  ·rw[Cd h14,GL h15,List.any_cons,h15]
   show ((false || true)&&_ || _)=_
   rw[Bool.false_or,Bool.true_and]
   generalize (BF t 14).any _=a
   generalize (BF t 15).any _=b
   generalize (bt x.Flags 192 != 128)=c
   cases a<;>cases b<;>cases c<;>rfl
  rw[Cd h14,Cd h15]
  have e1:(x.Type_==14)=false:=by simpa using h14
  have e2:(x.Type_==15)=false:=by simpa using h15
  rw[e1,e2];rfl
theorem Xy {l:List JAB} {k:Int} (h:(BF l k).length<2):wr ((BF l k).headD zU) ((BF l k).length:Int)=(BF l k).any fun x=>bt x.Flags 192 != 128:=by
 unfold wr
 match BF l k,h with
 | [],_=>rfl
 | [x],_=>
  show (decide ((1:Int) > 0)&&_)=(_ || false)
  rw[Bool.or_false];rfl
 | _::_::t,h=>exact absurd h (by simp only[X12];omega)
theorem ZM (l:List JAB) (k:Int):(((BF l k).length:Int)==0)=!B5 l k:=by
 have:B5 l k=false↔BF l k=[]:=by
  unfold B5 BF
  rw[List.any_eq_false,List.filter_eq_nil_iff]
  exact⟨fun h x hx q=>h x hx (by rw[beq_iff_eq] at q ⊢;exact q.symm),fun h x hx q=>h x hx (by rw[beq_iff_eq] at q ⊢;exact q.symm)⟩
 rw[X28,ZE,<- this]
 cases B5 l k<;>simp
theorem Vh {l:List JAB} (h:Da l≠none):(BF l 14).length<2:=by
 rcases Nat.lt_or_ge (BF l 14).length 2 with q | q
 ·exact q
 exact absurd (N6 q) h
theorem TB {l:List JAB} (h:Bj l≠none):(BF l 15).length<2:=by
 rcases Nat.lt_or_ge (BF l 15).length 2 with q | q
 ·exact q
 exact absurd (Kq q) h
theorem ae {P:Pt} (h1:Da P.l≠none) (h2:Bj P.l≠none) :
  (((rdS P.l).2 != 0) || (wr ((BF P.l 14).headD zU) ((BF P.l 14).length:Int) || (wr ((BF P.l 15).headD zU) ((BF P.l 15).length:Int) || (((rdS P.l).1.Origin==-1) || ((((BF P.l 2).length:Int)==0) || (decide ((P.four.length:Int) > 0)&&Addr.eqd (rdS P.l).1.Next zAd))))))=VF P:=by
 rw[Xy (Vh h1),Xy (TB h2),ZM]
 unfold VF
 rw[Wi]
 have e1:decide ((P.four.length:Int) > 0)=decide (0<P.four.length):=by rw[decide_eq_decide];omega
 rw[e1]
 by_cases he:(rdS P.l).2=0
 ·have ho:((rdS P.l).1.Origin==-1)=!B5 P.l 1:=by
   rw[X28,beq_iff_eq,VX he]
   cases B5 P.l 1<;>simp
  have e0:decide ((rdS P.l).2≠0)=false:=decide_eq_false (fun h=>h he)
  have e0':((rdS P.l).2 != 0)=false:=by rw[he];rfl
  rw[e0,e0',ho]
  generalize (BF P.l 14).any _=a
  generalize (BF P.l 15).any _=b
  generalize (decide (0<P.four.length)&&Addr.eqd (rdS P.l).1.Next zAd)=c
  cases a<;>cases b<;>rfl
 have:((rdS P.l).2 != 0)=true:=by simpa using he
 rw[this,decide_eq_true (p:=(rdS P.l).2≠0) he]
 rfl
theorem O5 {b:List UInt8} (hb:b.length<=400000):Eu b=some (Ob b):=by
 unfold Eu Ob HI
 rw[QD (by omega),AC]
 unfold HB
 cases h1:GY b with
 | none=>
  dsimp only
  rw[show EN []=some ([],[],false) from rfl,AC]
  dsimp only
  rw[AG,if_pos (by decide)]
  dsimp only
  rw[if_pos rfl]
  rfl
 | some q=>
  obtain⟨w,b1⟩:=q
  have l1:=FY h1
  dsimp only
  rw[QD (by omega),AC]
  unfold HB
  cases h2:GY b1 with
  | none=>
   dsimp only
   rw[AG,if_neg (by decide)]
   dsimp only
   rw[if_pos (by decide)]
   rfl
  | some q=>
   obtain⟨a,rest⟩:=q
   have l2:=FY h2
   dsimp only
   rw[AG,if_neg (by decide)]
   dsimp only
   rw[if_neg (by decide),AG]
   dsimp only
   rw[M3 4 false rfl (by omega)]
   dsimp only
   rw[Rx (by omega),AC]
   obtain⟨l,e,hs,hc,s1,s2⟩ :∃l e,NP a=(l,e)/\((e=0/\J3 a []=some l)\/(e≠0/\J3 a []=none))/\l.length<=400000/\∀x ∈ l,x.Data.length<=400000:=by
    unfold NP
    cases h3:J3 a [] with
    | none=>exact⟨_,_,rfl,.inr ⟨by decide,rfl⟩,by simp,fun x hx=>by simp at hx⟩
    | some l=>
     obtain⟨s1,s2⟩:=Pn (by omega) h3
     exact⟨_,_,rfl,.inl ⟨rfl,rfl⟩,s1,s2⟩
   rw[hs]
   dsimp only
   rw[QL (by omega),AC]
   dsimp only
   rw[QL (by omega),AC]
   dsimp only
   obtain⟨nx,six,g,hg,hg2,g6⟩ :∃nx six g,C2 ((BF l 14).headD zU) ((BF l 14).length:Int)=some (nx,six,g)/\((g=true/\Da l=some (nx,six))\/(g=false/\Da l=none))/\six.length<=400000:=by
    have:=Xi (l:=l) fun x hx=>by have:=s2 x hx;omega
    cases hR:Da l with
    | none=>
     rw[hR] at this
     obtain⟨a,ha⟩:=this
     exact⟨_,_,_,ha,.inr ⟨rfl,rfl⟩,by simp⟩
    | some q=>
     obtain⟨nx,six⟩:=q
     rw[hR] at this
     exact⟨_,_,_,this,.inl ⟨rfl,rfl⟩,QO s2 hR⟩
   obtain⟨gone,r,hr,hr2,r6⟩ :∃gone r,CY ((BF l 15).headD zU) ((BF l 15).length:Int)=some (gone,r)/\((r=true/\Bj l=some gone)\/(r=false/\Bj l=none))/\gone.length<=400000:=by
    have:=To (l:=l) fun x hx=>by have:=s2 x hx;omega
    cases hR:Bj l with
    | none=>
     rw[hR] at this
     exact⟨_,_,this,.inr ⟨rfl,rfl⟩,by simp⟩
    | some q=>
     rw[hR] at this
     exact⟨_,_,this,.inl ⟨rfl,rfl⟩,MU s2 hR⟩
   rw[hg,AC]
   dsimp only
   rw[hr,AC]
   dsimp only
   rw[M3 4 false rfl (by omega)]
   obtain⟨old,fine,ho,ho2,lo⟩ :∃old fine,KJ false w=(old,fine)/\((fine=true/\Ea false w []=some old)\/(fine=false/\Ea false w []=none))/\old.length<=400000:=by
    have hl:=UE false w
    unfold KJ at hl ⊢
    cases hO:Ea false w [] with
    | none=>exact⟨_,_,rfl,.inr ⟨rfl,rfl⟩,by simp⟩
    | some q=>rw[hO] at hl;dsimp only at hl;exact⟨_,_,rfl,.inl ⟨rfl,rfl⟩,by omega⟩
   obtain⟨four,well,hf,hf2,lf⟩ :∃four well,KJ false rest=(four,well)/\((well=true/\Ea false rest []=some four)\/(well=false/\Ea false rest []=none))/\four.length<=400000:=by
    have hl:=UE false rest
    unfold KJ at hl ⊢
    cases hO:Ea false rest [] with
    | none=>exact⟨_,_,rfl,.inr ⟨rfl,rfl⟩,by simp⟩
    | some q=>rw[hO] at hl;dsimp only at hl;exact⟨_,_,rfl,.inl ⟨rfl,rfl⟩,by omega⟩
   rw[ho,hf]
   dsimp only
   rw[Ag (by decide) (by omega),AC,Ag (by decide) (by omega),AC,XW]
   have hlim:(decide ((four.length:Int) > 0)&&decide ((six.length:Int) > 0) || (decide (((old++gone).length:Int) > 256) || decide (((four++six).length:Int) > 256)))=!okN old gone four six:=by
    rw[<- Yc,X11,X11]
    have e1:((old.length + gone.length:Nat):Int)=(old.length:Int) + gone.length:=by omega
    have e2:((four.length + six.length:Nat):Int)=(four.length:Int) + six.length:=by omega
    rw[e1,e2]
   rw[hlim]
   have hbad:fine=true/\e=0/\g=true/\r=true/\well=true/\okN old gone four six=true\/(!fine || ((e != 0) || (!g || (!r || (!well || !okN old gone four six)))))=true/\Y3 w rest (J3 a [])=none:=by
    rcases hc with ⟨rfl,hc⟩|⟨hc,hc2⟩
    case inr=>exact .inr ⟨by rw[show (e != 0)=true by simpa using hc];simp,by rw[hc2];rfl⟩
    rw[hc,Ip]
    rcases hg2 with ⟨rfl,hg2⟩|⟨rfl,hg2⟩
    case inr=>exact .inr ⟨by simp,C9 (.inl hg2)⟩
    rcases hr2 with ⟨rfl,hr2⟩|⟨rfl,hr2⟩
    case inr=>exact .inr ⟨by simp,C9 (.inr (.inl hr2))⟩
    rcases ho2 with ⟨rfl,ho2⟩|⟨rfl,ho2⟩
    case inr=>exact .inr ⟨by simp,C9 (.inr (.inr (.inl ho2)))⟩
    rcases hf2 with ⟨rfl,hf2⟩|⟨rfl,hf2⟩
    case inr=>exact .inr ⟨by simp,C9 (.inr (.inr (.inr hf2)))⟩
    cases hk:okN old gone four six with
    | true=>exact .inl ⟨rfl,rfl,rfl,rfl,rfl,rfl⟩
    | false=>exact .inr ⟨by simp,by rw[hg2,hr2,ho2,hf2,Iz,hk,if_neg (fun q=>by cases q.1)]⟩
   rcases hbad with ⟨rfl,rfl,rfl,rfl,rfl,hk⟩|⟨hz,hn⟩
   case inr=>rw[if_pos hz,hn];rfl
   have hR:Da l=some (nx,six):=hg2.elim (fun h=>h.2) (fun h=>nomatch h.1)
   have hU:Bj l=some gone:=hr2.elim (fun h=>h.2) (fun h=>nomatch h.1)
   have hO:Ea false w []=some old:=ho2.elim (fun h=>h.2) (fun h=>nomatch h.1)
   have hF:Ea false rest []=some four:=hf2.elim (fun h=>h.2) (fun h=>nomatch h.1)
   have hS:J3 a []=some l:=hc.elim (fun h=>h.2) (fun h=>absurd rfl h.1)
   obtain⟨n1,n2,_⟩:=W3 hk
   rw[hk,if_neg (by decide),YQ ⟨by omega,fun x hx=>by have:=s2 x hx;omega⟩,AC,hS,Ip,hR,hU,hO,hF,Iz]
   by_cases h12:(rdS l).2=12
   ·rw[if_pos (by rw[h12];rfl),if_neg (fun q=>q.2 h12),h12]
    rfl
   rw[if_neg (by simpa using h12),if_pos (show okN old gone four six=true/\(rdS l).2≠12 from ⟨hk,h12⟩)]
   dsimp only
   by_cases h0:four++six=[]
   ·rw[if_pos ((ZE _).2 h0),if_pos h0,h0]
    rfl
   rw[if_neg (fun h=>h0 ((ZE _).1 h)),if_neg h0,QL (by omega),AC]
   dsimp only
   rw[Xj]
   have hfl:=ae (P:=⟨l,nx,old,gone,four,six⟩) (by rw[hR];simp) (by rw[hU];simp)
   dsimp only at hfl
   rw[show Addr.eqd (rdS l).1.Next (⟨false,(0:UInt64),(0:UInt64)⟩:Addr)=Addr.eqd (rdS l).1.Next zAd from rfl,hfl]
   cases VF ⟨l,nx,old,gone,four,six⟩ with
   | true=>
    rw[if_pos rfl,if_pos rfl,Ag (by decide) (by simp only[X13,X11];omega),AC,Ag (by decide) (by simp only[X11];omega),AC]
    rfl
   | false=>
    rw[if_neg (by decide),if_neg (by decide),AG]
    by_cases h6:0<six.length
    ·rw[if_pos (by simp only[decide_eq_true_eq];omega),if_pos h6]
    rw[if_neg (by simp only[decide_eq_true_eq];omega),if_neg h6]
end Go.AX.Q33
end
