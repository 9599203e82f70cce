/-
  Texts of one proof, packed.
-/
import Derived.Test.YtppcmaidcgimpaaGreatDoorS15
import Derived.Test.YtppcmaidcgimpaaGreatDoorS21
import Derived.Sort.Walk0
set_option linter.all false
set_option maxRecDepth 100000
set_option maxHeartbeats 4000000
open List renaming length_map→X6,length_append→X10,length_cons→X11,length_nil→X12,mem_singleton→X13,getElem?_eq_getElem→X14,getElem?_eq_some_iff→X15,length_drop→X16,length_take→X17,mem_cons_of_mem→X18,length_replicate→X19,length_set→X20,mem_append→X22
open Option.some renaming injEq→X23
open Bool renaming and_eq_true→X26,eq_iff_iff→X27
open Option renaming bind→Xg,getD→Xbk
open List renaming drop→Xbh
open Go renaming maxLen→Xb6
open Nat renaming ble→Xdl
open ByteArray renaming empty→Xa4
section
namespace Go.AX.Q25
open Go Go.AX
def XX {α:Type}{b:Nat}{l:I α}{x:α}[Decidable (x∈l)]{p:α->C}{n:Nat}(J:Xdl b 65536=true)(Z:l.length+1<=1000000000)(U:n=(l.takeWhile p).length)(c:C)(Q:c=decide (x∈l)) : (if c=true then some l else Xg (part l 0 (n:Int)) λF=>Xg (gH (α:=α) b [] F) λ_=>Xg (gH (α:=α) b F ([x]:I α)) λK=>Xg (part l (n:Int) (l.length:Int)) λM=>Xg (gH (α:=α) b K M) λP=>some P) =
   some (if x∈l then l else l.takeWhile p++x::l.dropWhile p):=by
 have ht:=Ce p l;obtain⟨V,Y⟩:=r9 p l;by_cases H:x∈l
 ·rw[Q,Xl (by simpa using H),Xl H]
 rw[Q,Xk (by simpa using H),Xk H,XL (by omega),AA,AI J (by simp;omega),AA,AI J (by simp;omega),AA,RL (by omega),AA,AI J (by simp;omega),AA,U,V,Y];simp
def OZ {α:Type}{lt:α->α->C}(P :∀a b c,lt a b=true->lt b c=true->lt a c=true)(H :∀a,lt a a=false){l:I α}{x:α}(Q:l.Pairwise λa b=>lt a b=true) : x∈l↔l[(l.takeWhile (lt · x)).length]?=some x:=by
 constructor
 ·intro F;rw[<- Xbl (p:=(lt · x)) (l:=l),X22] at F;rcases F with F|F
  ·have:=Iy (lt · x) F;rw[H] at this;simp at this
  have U:=(r9 (lt · x) l).2;cases J:l.dropWhile (lt · x) with
  | nil=>rw[J] at F;simp at F
  | cons y t=>
   have V:lt y x=false:=by have:=List.head?_dropWhile_not (lt · x) l;rw[J] at this;simpa using this
   have hp:(y::t).Pairwise λa b=>lt a b=true:=by rw[<- J];exact Q.sublist (List.dropWhile_sublist _)
   rw[J] at F;have K:x=y:=by
    rcases Xp.1 F with e|e
    ·exact e
    have:=(Xac.1 hp).1 x e;rw[V] at this;simp at this
   have M:(l.drop (l.takeWhile (lt · x)).length)[0]?=some x:=by rw[U,J,K];rfl
   rw[List.getElem?_drop] at M;simpa using M
 intro h;exact Xbu h
def QJ {l:I Int}{n:Int}(K:l.Pairwise λa b=>sk a b=true)(M:l.length+1<=1000000000):EB l n=some (if n∈l then l else NK sk l n):=by
 have H:=Ce (sk · n) l;unfold EB;rw[j0 (p:=(sk · n)) (λx P=>P (cond true (decide (x<n)) false)) (by omega) (λx _ k=>rfl),AC];have J:=OZ fO ZT (x:=n) K;have F:=XX (b:=8) (l:=l) (x:=n) (p:=(sk · n)) (by decide) M rfl;by_cases hk:(l.takeWhile (sk · n)).length<l.length
 ·rw[Xl (by simpa using hk),BS hk,AA];refine F _ ?_;rw[X27,Xh,J,X14 hk];simp
 rw[Xk (by simpa using hk)];refine F _ ?_;rw[X27,Xh,J,List.getElem?_eq_none (by omega)];simp
def sR (a b:T):C:=Op.bytesLess a.toList b.toList
def QV (a b:T):sR a b=true↔a.toList<b.toList:=by unfold sR;rw[Go.Proofs.bytesLess_eq];simp
def lH {a b:T}(h:a.toList=b.toList):a=b:=by have:=lY a b;rw[h] at this;simpa using this.symm
def gA (a b c:T)(F:sR a b=true)(H:sR b c=true):sR a c=true:=by rw[QV] at *;exact List.lt_trans F H
def jf (a:T):sR a a=false:=by
 cases h:sR a a
 ·rfl
 rw[QV] at h;exact absurd h (List.lt_irrefl _)
def j8 (a b:T)(h:sR a b=false):a=b\/sR b a=true:=by
 have H:¬ a.toList<b.toList:=λq=>by rw[<- QV] at q;rw[h] at q;simp at q
 rw[QV];have J:b.toList<=a.toList:=List.not_lt.1 H;rcases List.le_iff_lt_or_eq.1 J with F|F
 ·exact .inr F
 exact .inl (lH F.symm)
def L6 {l:I T}{n:T}(K:l.Pairwise λa b=>sR a b=true)(M:l.length+1<=1000000000):B7 l n=some (if n∈l then l else NK sR l n):=by
 have H:=Ce (sR · n) l;unfold B7;rw[j0 (p:=(sR · n)) (λx P=>P (cond true (Op.bytesLess x.toList n.toList) false)) (by omega) (λx _ k=>rfl),AC];have J:=OZ gA jf (x:=n) K;have F:=XX (b:=16) (l:=l) (x:=n) (p:=(sR · n)) (by decide) M rfl;by_cases hk:(l.takeWhile (sR · n)).length<l.length
 ·rw[Xl (by simpa using hk),BS hk,AA];refine F _ ?_;rw[X27,Xh,J,X14 hk];simp only[Xcm,lY,Xh,X23]
 rw[Xk (by simpa using hk)];refine F _ ?_;rw[X27,Xh,J,List.getElem?_eq_none (by omega)];simp
def Fh (L:I Set)(n:T):O Set:=L.find? λs=>decide (s.Name=n)
def Tm:Set:=⟨Xa4,[],[]⟩
def MK (r:qS)(n:T):FK r n=some ((Fh r.pk n).getD Tm,(Fh r.pk n).isSome):=by
 unfold FK Fh;rw[AC];have key :∀(l:I Set) (i:Nat),AH (λ_=>some ((⟨Xa4,[],[]⟩:Set),false)) (λF H K _=>if (H.Name.toList==n.toList) then some (H,true) else F ()) l i ()=some ((l.find? λs=>decide (s.Name=n)).getD Tm,(l.find? λs=>decide (s.Name=n)).isSome):=by
  intro l;induction l with
  | nil=>intro i;rfl
  | cons x t J=>intro i;show (if (x.Name.toList==n.toList)=true then some (x,true) else AH _ _ t (i+1) ())=_;rw[J,lY,List.find?_cons];by_cases h:x.Name=n<;>simp[h]
 exact key r.pk 0
def Gi {L:I Set}{n:T}{s:Set}(h:Fh L n=some s):s∈L/\s.Name=n:=by unfold Fh at h;exact⟨List.mem_of_find?_eq_some h,by simpa using List.find?_some h⟩
def Qx {L:I Set}{n:T}(h:Fh L n=none) :∀s∈L,s.Name≠n:=by unfold Fh at h;intro s F;simpa using List.find?_eq_none.1 h s F
def uA (L:I Set):Prop:=(L.map (·.Name)).Nodup
def uA.eq {L:I Set}(h:uA L){s t:Set}(J:s∈L)(M:t∈L)(e:s.Name=t.Name):s=t:=by
 induction L with
 | nil=>simp at J
 | cons x L P=>
  unfold uA at h;obtain⟨K,Q⟩:=List.nodup_cons.1 h;rcases Xp.1 J with rfl|F<;>rcases Xp.1 M with rfl|H
  ·rfl
  ·exact absurd (Xaz.2 ⟨t,H,e.symm⟩) K
  ·exact absurd (Xaz.2 ⟨s,F,e⟩) K
  exact P Q F H
def uA.find {L:I Set}(h:uA L){s:Set}(F:s∈L):Fh L s.Name=some s:=by
 cases H:Fh L s.Name with
 | none=>exact absurd rfl (Qx H s F)
 | some t=>obtain⟨J,K⟩:=Gi H;rw[h.eq J F K]
inductive RN (L:List Set)(n:ByteArray):ByteArray->Prop
 | base:RN L n n
 | step {s:Set} {y:ByteArray} (hs:s∈L) (h:RN L n s.Name) (hy:y∈s.pk):RN L n y
structure vG (L:List Set)(n:ByteArray)(la:List Int)(ms:List ByteArray):Prop where
 pa:la.Pairwise λa b=>sk a b=true
 am :∀a,a∈la ↔∃s∈L,RN L n s.Name/\a∈s.lf
 pm:ms.Pairwise λa b=>sR a b=true
 mm :∀x,x∈ms↔RN L n x/\∀s∈L,s.Name≠x
structure Mod (L:List Set):Prop where
 n:L.length<=64
 u:uA L
 a :∀s∈L,s.lf.length<=64
 s :∀s∈L,s.pk.length<=64
def eR (L:I Set)(n:T):I T:=n::L.flatMap (·.pk)
def er {L:I Set}(h:Mod L)(n:T):(eR L n).length<=4097:=by
 have key :∀(l:I Set),(∀s∈l,s.pk.length<=64)->(l.flatMap (·.pk)).length<=64*l.length:=by
  intro l;induction l with
  | nil=>intro _;simp
  | cons x t H=>intro F;have:=H λs J=>F s (X18 _ J);have:=F x (by simp);simp only[Xat,X10,X11];omega
 have K:=key L h.s;have M:=h.n;unfold eR;simp only[X11];omega
def eW {L:I Set}{n x:T}(h:RN L n x):x∈eR L n:=by
 cases h with
 | base=>unfold eR;simp
 | step F _ H=>unfold eR;exact X18 _ (Xd0.2 ⟨_,F,H⟩)
abbrev keys (m:I (T×C)):I T:=m.map (·.1)
def fG {m:I (T×C)}(h :∀p∈m,p.2=true)(x:T):(BA m x).getD false=decide (x∈keys m):=by
 cases hg:BA m x with
 | none=>
  have:x∉keys m:=λK=>by obtain⟨v,F⟩:=Z8.2 K;rw[hg] at F;simp at F
  simp[this]
 | some v=>have H:=T9 hg;have J:=h _ H;have:x∈keys m:=Xaz.2 ⟨_,H,rfl⟩;simp only at J;simp[J,this]
def Z6 {m:I (T×C)}(h :∀p∈m,p.2=true)(x:T) :∀p∈BJ m x true,p.2=true:=by
 induction m with
 | nil=>intro p hp;simp[BJ] at hp;rw[hp]
 | cons q m F=>
  intro p hp;unfold BJ at hp;split at hp
  ·rcases Xp.1 hp with rfl|hp
   ·rfl
   exact h p (X18 _ hp)
  rcases Xp.1 hp with rfl|hp
  ·exact h _ (by simp)
  exact F (λp hp=>h p (X18 _ hp)) p hp
def Uo {m:I (T×C)}{x:T}(h:x∉keys m)(v:C):(BJ m x v).length=m.length+1:=by have:=Xae List.length (Ot m x v);rw[Xk h] at this;simpa using this
structure RI (L:List Set)(n:ByteArray)(a:List Int)(m:List ByteArray)(sn:List (ByteArray×Bool))(td:List ByteArray):Prop where
 pa:a.Pairwise λa b=>sk a b=true
 pm:m.Pairwise λa b=>sR a b=true
 nd:(keys sn).Nodup
 tr :∀p∈sn,p.2=true
 rn :∀x∈keys sn,RN L n x
 tk :∀x∈td,x∈keys sn
 sa :∀x∈a,∃s∈L,RN L n s.Name/\x∈s.lf
 sm :∀x∈m,RN L n x/\∀s∈L,s.Name≠x
 pr :∀x∈keys sn,x∈td\/((∀s∈L,s.Name=x->(∀y∈s.lf,y∈a)/\∀y∈s.pk,y∈keys sn)/\((∀s∈L,s.Name≠x)->x∈m))
 n0:n∈keys sn
 la:a.length+64*(td.length+(4097-sn.length))<=64*4098
 lm:m.length+(td.length+(4097-sn.length))<=4098
def R9 {L:I Set}(h:Mod L){n:T}{F:I (T×C)}(nd:(keys F).Nodup)(rn :∀x∈keys F,RN L n x):F.length<=4097:=by have H:=PV nd λx J=>eW (rn x J);have K:=er h n;simp only[keys,X6] at H;omega
def RI.fin {L:I Set}{n:T}{a:I Int}{m:I T}{M:I (T×C)}(h:RI L n a m M []):vG L n a m:=by
 have F :∀x,RN L n x->x∈keys M:=by
  intro x P;induction P with
  | base=>exact h.n0
  | step H _ Q U=>
   rcases h.pr _ U with hp|hp
   ·simp at hp
   exact (hp.1 _ H rfl).2 _ Q
 refine⟨h.pa,λx=>⟨h.sa x,λ⟨s,H,J,K⟩=>?_⟩,h.pm,λx=>⟨h.sm x,λ⟨J,K⟩=>?_⟩⟩
 ·rcases h.pr _ (F _ J) with hp|hp
  ·simp at hp
  exact (hp.1 s H rfl).1 x K
 rcases h.pr _ (F _ J) with hp|hp
 ·simp at hp
 exact hp.2 K
def lQ {a:I Int}{l:I Int}{ρ:Type}{Q:ρ->Prop}{k:I Int->O ρ}(P:a.Pairwise λa b=>sk a b=true)(hl:a.length+l.length<=1000000) (U :∀v,v.Pairwise (λa b=>sk a b=true)->(∀y,y∈v↔y∈a\/y∈l)->v.length<=a.length+l.length->Ok (k v) Q) : Ok (AH (λv=>k v) (λnext x _ v=>Xg (EB v x) λV=>next V) l 0 a) Q:=by
 refine .sQ (λi v=>v.Pairwise (λa b=>sk a b=true)/\(∀y,y∈v↔y∈a\/y∈l.take i)/\v.length<=a.length+i) ⟨P,by simp,by simp⟩ (λv ⟨F,H,K⟩=>U v F (by simpa using H) K) ?_;rintro next x i v M ⟨F,H,K⟩ Y
 have hi:=(X15.1 M).1;rw[QJ F (by omega),AA];refine Y _ ⟨?_,λy=>?_,?_⟩
 ·split
  ·exact F
  exact K2 fO jt F ‹_›
 ·have Z:y∈l.take (i+1)↔y∈l.take i\/y=x:=by rw[Xc1,M];simp
  rw[Z];split
  ·rename_i J;rw[H];constructor
   ·rintro (h|h)
    ·exact .inl h
    exact .inr (.inl h)
   rintro (h|h|rfl)
   ·exact .inl h
   ·exact .inr h
   exact (H _).1 J
  rw[KT,H,or_assoc]
 split
 ·omega
 rw[K8];omega
def X3 {r:qS}{n:T}(hm:Mod r.pk){a:I Int}{m:I T}{sn:I (T×C)}{x:T}{P:I T}(h:RI r.pk n a m sn (x::P)){ρ:Type}{Q:ρ->Prop} {next:I Int×I T×I (T×C)×I T->O ρ} (hn :∀a' Z J U,RI r.pk n a' Z J U->U.length+(4097-J.length)<(x::P).length+(4097-sn.length)->Ok (next (a',Z,J,U)) Q) : Ok (AB (τ:=(I Int)×(I T)×(I (T×C))×(I T)) (λau=>Xg (iB (x::P) 0) λax=>Xg (FK r ax) λ(v12,ay)=>AB (τ:=(I T)) (λY=>if (!ay) then Xg (iB (x::P) 0) λab=>Xg (B7 m ab) λae=>Y ae else Y m ) λaz=>Xg (part (x::P) 1 ((x::P).length:Int)) λb0=>AB (τ:=(I Int)) (λba=>AH (σ:=(I Int)) (λaf=>ba af ) (λa1 bb bp af=>Xg (EB af bb) λbc=>a1 bc ) v12.lf 0 a ) λbd=>AB (τ:=(I (T×C))×(I T)) (λbe=>AH (σ:=(I (T×C))×(I T)) (λ(v27,v28)=>be (v27,v28) ) (λa6 ag bq (v27,v28)=>Xg (some (Xbk (BA v27 ag) false)) λbf=>AB (τ:=(I (T×C))×(I T)) (λao=>if (!bf) then Xg (gH (α:=T) 16 v28 ([ag]:I T)) λbg=>ao ((BJ v27 ag true),bg) else ao (v27,v28) ) λ(v35,v36)=>a6 (v35,v36) ) v12.pk 0 (sn,b0) ) λ(v37,bh)=>au (bd,az,v37,bh) ) λ(v39,v40,v41,bi)=>next (v39,v40,v41,bi)) Q:=by
 have br:=R9 hm h.nd h.rn;have bj:=h.la;have bk:=h.lm;simp only[X11] at bj bk hn;have hx:=h.tk x (by simp);have a7:=h.rn x hx;rw[AC];have g0:iB (x::P) 0=some x:=BS (l:=x::P) (i:=0) (by simp);have p1:part (x::P) 1 ((x::P).length:Int)=some P:=by have:=RL (l:=x::P) (n:=1) (by simp);simpa using this
 rw[g0,AA,MK,AA];dsimp only;rw[p1];have ah :∀K:I T->O ρ,(∀Z,Z.Pairwise (λa b=>sR a b=true)->(∀y,y∈Z↔y∈m\/(y=x/\Fh r.pk x=none))->Z.length<=m.length+1->Ok (K Z) Q)->
   Ok (AB (τ:=(I T)) (λY=>if (!(Fh r.pk x).isSome) then Xg (some x) λab=>Xg (B7 m ab) λae=>Y ae else Y m) K) Q:=by
  intro K hK;rw[AC];cases M:Fh r.pk x with
  | some s=>rw[Xk (by simp)];exact hK m h.pm (by simp[M]) (by omega)
  | none=>
   rw[Xl (by simp),AA,L6 h.pm (by omega),AA];refine hK _ ?_ (λy=>?_) ?_
   ·split
    ·exact h.pm
    exact K2 gA j8 h.pm ‹_›
   ·split
    ·simp only[M,and_true];constructor
     ·exact .inl
     rintro (h|rfl)
     ·exact h
     assumption
    rw[KT];simp[M]
   split
   ·omega
   rw[K8];omega
 refine ah _ λZ bl ai bu=>?_;rw[AA,AC];generalize V:(Fh r.pk x).getD Tm=s;have bw:s.lf.length<=64/\s.pk.length<=64:=by
  cases M:Fh r.pk x with
  | none=>rw[M] at V;subst V;exact⟨by simp[Tm],by simp[Tm]⟩
  | some s'=>rw[M] at V;simp only[Xaw] at V;subst V;exact⟨hm.a _ (Gi M).1,hm.s _ (Gi M).1⟩
 have bm :∀t∈r.pk,t.Name=x->t=s/\Fh r.pk x=some s:=by intro t ht he;have:=hm.u.find ht;rw[he] at this;rw[this] at V;simp only[Xaw] at V;subst V;exact⟨rfl,this⟩
 have bx :∀y,y∈s.lf\/y∈s.lf->True:=λ_ _=>trivial;have aj:(s.lf≠[]\/s.pk≠[])->s∈r.pk/\s.Name=x:=by
  intro bn;cases M:Fh r.pk x with
  | none=>rw[M] at V;subst V;simp[Tm] at bn
  | some s'=>rw[M] at V;simp only[Xaw] at V;subst V;exact Gi M
 refine lQ h.pa (by omega) λa' bo ak bz=>?_;rw[AC];refine .sQ (λi (p:I (T×C)×I T)=>(keys p.1).Nodup/\(∀q∈p.1,q.2=true)/\(∀y,y∈keys p.1↔y∈keys sn\/y∈s.pk.take i)/\(∀y∈p.2,y∈keys p.1)/\(∀y∈keys p.1,y∈keys sn\/y∈p.2)/\(∀y∈P,y∈p.2)/\p.2.length+sn.length=P.length+p.1.length)
  ⟨h.nd,h.tr,by simp,λy F=>h.tk y (X18 _ F),λy F=>.inl F,λy F=>F,rfl⟩ ?_ ?_
 ·rintro⟨J,U⟩ ⟨b1,b2,b3,tx,b5,b6,b7⟩;simp only[Xcj] at b1 b2 b3 tx b5 b6 b7;have a8 :∀y∈keys J,RN r.pk n y:=by
   intro y F;rcases (b3 y).1 F with F|F
   ·exact h.rn y F
   obtain⟨q1,q2⟩:=aj (.inr (λe=>by rw[e] at F;simp at F));exact .step q1 (by rw[q2];exact a7) F
  have ap:=R9 hm b1 a8;refine hn a' Z J U ⟨bo,bl,b1,b2,a8,tx,λy F=>?_,λy F=>?_,λy F=>?_,(b3 n).2 (.inl h.n0),by omega,by omega⟩ (by omega)
  ·rcases (ak y).1 F with F|F
   ·exact h.sa y F
   obtain⟨q1,q2⟩:=aj (.inl (λe=>by rw[e] at F;simp at F));exact⟨s,q1,by rw[q2];exact a7,F⟩
  ·rcases (ai y).1 F with F|⟨rfl,M⟩
   ·exact h.sm y F
   exact⟨a7,Qx M⟩
  rcases b5 y F with al|al
  ·rcases h.pr y al with hp|⟨p1,p2⟩
   ·rcases Xp.1 hp with rfl|hp
    ·refine .inr ⟨λt ht he=>?_,λan=>?_⟩
     ·obtain⟨e1,e2⟩:=bm t ht he;subst e1;exact⟨λz H=>(ak z).2 (.inr H),λz H=>(b3 z).2 (.inr H)⟩
     refine (ai _).2 (.inr ⟨rfl,?_⟩);cases M:Fh r.pk y with
     | none=>rfl
     | some t=>exact absurd (Gi M).2 (an t (Gi M).1)
    exact .inl (b6 y hp)
   refine .inr ⟨λt ht he=>?_,λan=>(ai y).2 (.inl (p2 an))⟩;obtain⟨c1,c2⟩:=p1 t ht he;exact⟨λz H=>(ak z).2 (.inl (c1 z H)),λz H=>(b3 z).2 (.inl (c2 z H))⟩
  exact .inl al
 rintro nx y i ⟨J,U⟩ F ⟨b1,b2,b3,tx,b5,b6,b7⟩ aq;simp only at b1 b2 b3 tx b5 b6 b7;have hi:=(X15.1 F).1;have ht :∀z,z∈s.pk.take (i+1)↔z∈s.pk.take i\/z=y:=λz=>by rw[Xc1,F];simp
 have a8 :∀z∈keys J,RN r.pk n z:=by
  intro z H;rcases (b3 z).1 H with H|H
  ·exact h.rn z H
  have H:=List.mem_of_mem_take H;obtain⟨q1,q2⟩:=aj (.inr (λe=>by rw[e] at H;simp at H));exact .step q1 (by rw[q2];exact a7) H
 have ap:=R9 hm b1 a8;simp only[AA];rw[AC,fG b2];by_cases aa:y∈keys J
 ·rw[Xn aa,Xk (by decide)];refine aq _ ⟨b1,b2,λz=>?_,tx,b5,b6,b7⟩;rw[b3,ht];constructor
  ·rintro (h|h)
   ·exact .inl h
   exact .inr (.inl h)
  rintro (h|h|rfl)
  ·exact .inl h
  ·exact .inr h
  exact (b3 _).1 aa
 rw[Wd aa,Xl (by decide)];refine .bind (Ok.gH (by decide) (by simp;omega)) λc0 ar=>?_;subst ar;refine aq _ ⟨Yp b1,Z6 b2 y,λz=>?_,λz H=>?_,λz H=>?_,λz H=>?_,?_⟩
 ·rw[Qu,b3,ht,or_assoc]
 ·rw[Qu];rcases X22.1 H with H|H
  ·exact .inl (tx z H)
  exact .inr (by simpa using H)
 ·rcases Qu.1 H with H|rfl
  ·exact (b5 z H).imp id λh=>X22.2 (.inl h)
  exact .inr (by simp)
 ·exact X22.2 (.inl (b6 z H))
 simp only;rw[Uo aa];simp only[X10,X11,X12];omega
def RI.init {L:I Set}(n:T):RI L n [] [] (BJ [] n true) [n]:=by
 refine⟨.nil,.nil,by simp[BJ],by simp[BJ],?_,?_,by simp,by simp,?_,by simp[BJ],by simp[BJ],by simp[BJ]⟩
 ·intro x F;simp[BJ] at F;subst F;exact .base
 ·intro x F;simp[BJ] at F⊢;exact F
 intro x F;simp[BJ] at F;exact .inl (by simp[F])
def NN {r:qS}{n:T}(Q:Mod r.pk)(U :∀s∈r.pk,Qm s)(V:Ru r=true) : Ok (F7 r n) λF=>(Fh r.pk n=none/\F=([],[],11))\/(∃s,Fh r.pk n=some s/\F.2.2=0/\vG r.pk n F.1 F.2.1):=by
 unfold F7;rw[Ht U,V,AA,Xk (by decide),MK,AA];dsimp only;cases hf:Fh r.pk n with
 | none=>exact .ite (λ_=>.ret (.inl ⟨rfl,rfl⟩)) λh=>absurd rfl h
 | some s=>
  refine .ite (λh=>absurd h (by simp)) λ_=>?_;refine .join (λp:I Int×I T=>vG r.pk n p.1 p.2) (λk Y=>?_) λp hp=>.ret (.inr ⟨s,rfl,rfl,hp⟩);refine .rB (λp:(I Int)×(I T)×(I (T×C))×(I T)=>RI r.pk n p.1 p.2.1 p.2.2.1 p.2.2.2) (λp=>p.2.2.2.length+(4097-p.2.2.1.length)) (RI.init n) (CB (by simp[BJ])) ?_;rintro next ⟨a,m,sn,P⟩ H J
  simp only at H;cases P with
  | nil=>dsimp only;rw[Xk (by simp)];exact Y (a,m) H.fin
  | cons x P=>dsimp only;rw[Xl (by simp)];exact X3 Q H λZ m' K M h1 h2=>J (Z,m',K,M) h1 h2
structure PI (L:List Set)(n:ByteArray)(mt:List (ByteArray×Bool))(a:List (Int×Bool))(ms:List (ByteArray×Bool))(q:List ByteArray):Prop where
 nm:(keys mt).Nodup
 tm :∀p∈mt,p.2=true
 rm :∀x∈keys mt,(∃s∈L,s.Name=x)/\RN L n x
 na:(a.map (·.1)).Nodup
 ra :∀x∈a.map (·.1),∃s∈L,RN L n s.Name/\x∈s.lf
 ns:(keys ms).Nodup
 rs :∀x∈keys ms,RN L n x/\∀s∈L,s.Name≠x
 rq :∀x∈q,RN L n x
 cl :∀s∈L,s.Name∈keys mt->(∀y∈s.lf,y∈a.map (·.1))/\∀y∈s.pk,y∈q\/y∈keys mt\/y∈keys ms
 n0:n∈q\/n∈keys mt\/n∈keys ms
 la:a.length<=64*mt.length
 lm:ms.length+(q.length+65*(64-mt.length))<=4161
def PI.fin {L:I Set}{n:T}{K:I (T×C)}{a:I (Int×C)}{ms:I (T×C)}(h:PI L n K a ms []){ra:I Int}{rs:I T} (M:ra.Pairwise λa b=>sk a b=true) (P :∀x,x∈ra↔x∈a.map (·.1)) (Q:rs.Pairwise λa b=>sR a b=true) (U :∀x,x∈rs↔x∈ms.map (·.1)):vG L n ra rs:=by
 have F :∀x,RN L n x->x∈keys K\/x∈keys ms:=by
  intro x V;induction V with
  | base=>simpa using h.n0
  | step H _ Y J=>
   rcases J with J|J
   ·simpa using (h.cl _ H J).2 _ Y
   exact absurd rfl ((h.rs _ J).2 _ H)
 refine⟨M,λx=>?_,Q,λx=>?_⟩
 ·rw[P];refine⟨h.ra x,λ⟨s,H,q1,q2⟩=>?_⟩;rcases F _ q1 with hp|hp
  ·exact (h.cl s H hp).1 x q2
  exact absurd rfl ((h.rs _ hp).2 s H)
 rw[U];refine⟨h.rs x,λ⟨q1,q2⟩=>?_⟩;rcases F _ q1 with hp|hp
 ·obtain⟨⟨s,H,Z⟩,_⟩:=h.rm x hp;exact absurd Z (q2 s H)
 exact hp
def PI.init (L:I Set)(n:T):PI L n [] [] [] [n]:=
 ⟨by simp[keys],by simp,by simp[keys],by simp,by simp,by simp[keys],by simp[keys],λx F=>by simp at F;subst F;exact .base,by simp[keys],by simp,by simp,by simp⟩
def UK :∀{l:I Set} {seen:I T},Ni seen l=true↔(l.map (·.Name)).Nodup/\(∀s∈l,s.Name∉seen)/\∀s∈l,Vd s=true
 | [],seen=>by simp[Ni]
 | x::t,seen=>by
  rw[Ni,X26,X26,UK,Xb5,List.nodup_cons];simp only[Xbj,Xar,Xp,forall_eq_or_imp,not_or];constructor
  ·rintro⟨⟨J,K⟩,M,H,P⟩;refine⟨⟨λU=>?_,M⟩,⟨J,λs F=>(H s F).2⟩,K,P⟩;obtain⟨s,F,Q⟩:=Xaz.1 U;exact (H s F).1 Q
  rintro⟨⟨J,K⟩,⟨M,H⟩,P,V⟩;exact⟨⟨M,P⟩,K,λs F=>⟨λQ=>J (Xaz.2 ⟨s,F,Q⟩),H s F⟩,V⟩
def Rh {r:qS}:Ru r=true↔(uA r.pk/\∀s∈r.pk,Vd s=true)/\(∀o∈r.oX,WA o=true)/\r.pk.length<=64/\r.oX.length<=512:=by unfold Ru uA;simp only[X26,Xh,Xm,UK,and_assoc];simp
def OK {s:Set}:Vd s=true↔rR s.Name=true/\s.lf.length<=64/\s.pk.length<=64/\(∀n∈s.lf,Dh n=true)/\∀x∈s.pk,rR x=true:=by unfold Vd;simp only[X26,Xh,Xm,and_assoc]
def fa {r:qS}(h:Ru r=true):Mod r.pk/\∀s∈r.pk,∀x∈s.lf,Dh x=true:=by obtain⟨⟨J,H⟩,_,K,_⟩:=Rh.1 h;exact⟨⟨K,J,λs F=>(OK.1 (H s F)).2.1,λs F=>(OK.1 (H s F)).2.2.1⟩,λs F=>(OK.1 (H s F)).2.2.2.1⟩
def TB {s:T}(h:rR s=true):s.size<=Xb6:=by have F:Xb6=9223372036854775807:=rfl;unfold rR at h;simp only[X26,Xh] at h;omega
def cJ {s:Set}(h:Vd s=true):Qm s:=by obtain⟨F,_,_,_,H⟩:=OK.1 h;exact⟨TB F,λx J=>TB (H x J)⟩
def ur (a:Addr):Int:=if a.V6 then 1 else 0
def HN (a:Addr):I Int:=[ur a,a.Hi.toNat,a.Lo.toNat]
def VH (o:oB):I Int:=[ur o.fI.Addr,o.fI.Addr.Hi.toNat,o.fI.Addr.Lo.toNat,o.fI.qo,o.Max,o.ql]
def ci (a b:oB):Int:=CS (VH a) (VH b)
def kN (a b:j):B1 a b=some (X0 a.toNat b.toNat):=by unfold B1 Dy X0;simp only[AA,Xdn,Xcy,Xd5,Xh,gt_iff_lt];split<;>(try split)<;>rfl
def lZ (a:Addr):Fg a=some (ur a):=by unfold Fg ur;split<;>rfl
def d6 (l t:I Int):tH (tH l::t)=tH (l++t):=by
 induction l with
 | nil=>rfl
 | cons x s F=>
  by_cases h:x=0
  ·simp only[tH,h,Xdt,List.cons_append] at F⊢;exact F
  simp[tH,h]
def WW (a b:I Int)(c d:I Int)(h:a.length=b.length):CS (a++c) (b++d)=if CS a b=0 then CS c d else CS a b:=by
 induction a generalizing b with
 | nil=>cases b with
  | nil=>simp[CS]
  | cons y t=>simp at h
 | cons x s F=>cases b with
  | nil=>simp at h
  | cons y t=>
   simp only[List.cons_append,CS];rw[F t (by simpa using h)];split
   ·simp
   split<;>simp
def oB.qm (a b:oB):oB.qK a b=true↔a=b:=by
 have h:=fI.qm a.fI b.fI;unfold fI.qK at h;unfold oB.qK;simp only[X26,Bool.and_true,Xc0] at h⊢;rw[h];constructor
 ·rintro⟨F,H,J⟩;cases a;cases b;simp_all
 rintro rfl;exact⟨rfl,rfl,rfl⟩
def jh {a b:Addr}(h:ur a=ur b):a.V6=b.V6:=by unfold ur at h;cases h1:a.V6<;>cases F:b.V6<;>simp_all
def RY {a b:Addr}(h:HN a=HN b):a=b:=by simp only[HN,Xdb,Int.natCast_inj,Xd3,and_true] at h;obtain⟨F,H,J⟩:=h;have:=jh F;cases a;cases b;simp_all
def Wp {a b:oB}(h:VH a=VH b):a=b:=by simp only[VH,Xdb,and_true] at h;obtain⟨F,H,J,K,M,P⟩:=h;have:=@RY a.fI.Addr b.fI.Addr (by unfold HN;rw[F,H,J]);obtain⟨⟨x,y⟩,u,v⟩:=a;obtain⟨⟨Q,U⟩,V,Y⟩:=b;simp_all
def kR (f p q r s:Int)(h:p≠r\/q≠s):AB (τ:=C) (λF=>if decide (p<r)=true then F true else if (p==r)=true then F (cond false true (cond true (decide (q<s)) false)) else F false) (λH=>if H=true then some (-1:Int) else some 1)=some (CS [f,p,q] [f,r,s]):=by rw[AC];simp only[CS,Int.lt_irrefl,Xd5,Xh,Xc0,Xcm,Xdf];by_cases J:p < r<;>by_cases a2:p=r<;>by_cases a3:r < p<;>by_cases b1:q < s<;>by_cases b3:s < q<;>first|(exfalso;omega)|simp[J,a2,a3,b1,b3]
def VP (a b:Addr):JF a b=some (CS (HN a) (HN b)):=by
 unfold JF;by_cases h:a=b
 ·subst h;rw[Xl ((Addr.qm _ _).2 rfl),Hn]
 rw[Xk (λq=>h ((Addr.qm _ _).1 q))];unfold HN ur;by_cases F:a.V6=b.V6
 ·rw[F,Xk (by simp)];refine kR _ _ _ _ _ ?_;by_cases H:(a.Hi.toNat:Int)=b.Hi.toNat
  ·refine .inr λJ=>h (RY ?_);unfold HN ur;rw[F,H,J]
  exact .inl H
 rw[Xl (by simpa using F)];cases K:a.V6<;>cases M:b.V6<;>simp_all [CS]
def N5 (a b:fI):DL a b=some (CS (HN a.Addr++[a.qo]) (HN b.Addr++[b.qo])):=by
 unfold DL;rw[VP,AA,WW (HN a.Addr) (HN b.Addr) [a.qo] [b.qo] rfl];by_cases h:CS (HN a.Addr) (HN b.Addr)=0
 ·rw[Xk (by simpa using h),Xl h];simp only[CS,Xh,gt_iff_lt];split
  ·rfl
  split<;>rfl
 rw[Xl (by simpa using h),Xk h]
def dy (p q r s:Int)(e:C)(h:e=true↔(p=r/\q=s)):AB (τ:=C) (λF=>if decide (p<r)=true then F true else if (p==r)=true then F (cond false true (cond true (decide (q<s)) false)) else F false) (λH=>if H=true then some (-1:Int) else if e=true then some 0 else some 1)=some (CS [p,q] [r,s]):=by rw[AC];simp only[CS,h,Xh,Xc0,Xcm,Xdf];by_cases J:p < r<;>by_cases a2:p=r<;>by_cases a3:r < p<;>by_cases b1:q < s<;>by_cases b2:q=s<;>by_cases b3:s < q<;>first|(exfalso;omega)|simp[J,a2,a3,b1,b2,b3]
def VX (a b:oB):Hr a b=some (ci a b):=by
 unfold Hr;have e:ci a b=CS ((HN a.fI.Addr++[a.fI.qo])++[a.Max,a.ql]) ((HN b.fI.Addr++[b.fI.qo])++[b.Max,b.ql]):=rfl;rw[N5,AA,e,WW (HN a.fI.Addr++[a.fI.qo]) (HN b.fI.Addr++[b.fI.qo]) [a.Max,a.ql] [b.Max,b.ql] rfl];by_cases h:CS (HN a.fI.Addr++[a.fI.qo]) (HN b.fI.Addr++[b.fI.qo])=0
 ·rw[Xk (by simpa using h),Xl h];refine dy _ _ _ _ _ ((oB.qm _ _).trans ⟨λq=>by rw[q];exact⟨rfl,rfl⟩,λq=>Wp ?_⟩);show (HN a.fI.Addr++[a.fI.qo])++[a.Max,a.ql]=(HN b.fI.Addr++[b.fI.qo])++[b.Max,b.ql];rw[Hq (by rfl) h,q.1,q.2]
 rw[Xl (by simpa using h),Xk h]
def sG (a b:oB):C:=decide (ci a b<0)
def kA (a:oB):sG a a=false:=by unfold sG ci;rw[Hn];rfl
def eG (a b c:oB)(F:sG a b=true)(H:sG b c=true):sG a c=true:=by unfold sG ci at *;simp only[Xh] at *;exact OD (by rfl) (by rfl) F H
def kX (a b:oB)(h:sG a b=false):a=b\/sG b a=true:=by
 unfold sG ci at *;simp only[Xar,Xh] at *;have:=LF (VH a) (VH b);by_cases F:CS (VH a) (VH b)=0
 ·exact .inl (Wp (Hq (by rfl) F))
 exact .inr (by omega)
def Yu {α:Type}{l:I α}{i:Int}{x:α}(F:0<=i)(h:l[i.toNat]?=some x):iB l i=some x:=by have:=(X15.1 h).1;unfold iB;rw[Xl (by omega),h]
def KV {α:Type}{l:I α}{i:Nat}{x:α}(h:i<l.length):(l.set i x).take (i+1)=l.take i++[x]:=by rw[Xc1,List.take_set_of_le (Xa2 _),List.getElem?_set_self h];rfl
def U2 {l:I oB}(hl:l.length<=1000000):Ok (F3 l) λr=>r.Pairwise (λa b=>sG a b=true)/\∀x,x∈r↔x∈l:=by
 unfold F3;refine .join (λr=>r.Pairwise (λa b=>sG a b=true)/\∀x,x∈r↔x∈l) (λk H=>?_) λr hr=>.ret hr;refine .sQ (λi v=>v.Pairwise (λa b=>sG a b=true)/\(∀x,x∈v↔x∈l.take i)/\v.length<=i) ⟨.nil,by simp,by simp⟩ (λv Y=>H v ⟨Y.1,by simpa using Y.2.1⟩) λnext x i v Z hI hn=>?_;obtain⟨P,Q,i3⟩:=hI;have a6:=(X15.1 Z).1;have J :∀y,y∈l.take (i+1)↔y∈l.take i\/y=x:=by intro y;rw[Xc1,Z];simp
 refine .join (λM=>M.Pairwise (λa b=>sG a b=true)/\(∀x,x∈M↔x∈l.take (i+1))/\M.length<=i+1) (λk6 K=>?_) λM h=>hn _ h;have a1:=Ce (sG · x) v;rw[j0 (p:=(sG · x)) (λy k4=>Xg (Hr y x) λU=>k4 (cond true (decide (U<0)) false)) (by omega) (λy _ k=>by rw[VX];rfl)];have hh:=OZ eG kA (x:=x) P;obtain⟨t1,t2⟩:=r9 (sG · x) v;refine .join (λc=>c=true↔x∈v) (λa7 F=>?_) λc hc=>.ite (λh=>?_) λh=>?_
 ·by_cases H:(v.takeWhile (sG · x)).length<v.length
  ·rw[Xl (by simpa using H),BS H,AA];refine F _ ?_;rw[hh,X14 H];simp only[Xcm,oB.qm,X23]
  rw[Xk (by simpa using H)];refine F _ ?_;rw[hh,List.getElem?_eq_none (by omega)];simp
 ·refine K _ ⟨P,λy=>?_,by omega⟩;rw[J,Q y];refine⟨.inl,λq=>q.elim id λe=>?_⟩;rw[e];exact (Q x).1 (hc.1 h)
 have V:x∉v:=λq=>h (hc.2 q);simp only[Xa3,Int.toNat_zero,List.drop_zero,Nat.sub_zero];refine .bind (Ok.rv (by omega)) λ_ _=>.bind (Ok.gH (by decide) (by simp;omega)) λ_ _=>.bind (Ok.gH (by decide) (by simp;omega)) λa ha=>.bind (Ok.rv (by omega)) λ_ _=>.bind (Ok.gH (by decide) (by rw[ha];simp;omega)) λb hb=>K _ ?_;have e:b=NK sG v x:=by
  have e2:(Xbh (v.takeWhile (sG · x)).length v).take (v.length-(v.takeWhile (sG · x)).length)=v.dropWhile (sG · x):=by rw[List.take_of_length_le (by simp),t2]
  rw[hb,ha,e2,t1];unfold NK;simp
 rw[e];refine⟨K2 eG kX P V,λy=>?_,by rw[K8];omega⟩;rw[KT,J,Q]
def ta (p q:fI):C:=decide (q.qo≥p.qo)&&uo p q.Addr
def EH {p q:fI}(h:q.Addr.ok=true):BP p q=some (ta p q):=by
 unfold BP ta;rw[AC,OV h,AA,Xcm];by_cases h:q.qo≥p.qo
 ·rw[Xl (by simpa using h)];simp[h]
 rw[Xk (by simpa using h)];simp[h]
def pc (p:fI)(a:Int)(o:oB):C:=o.ql==a&&ta o.fI p
def UB (L:I oB)(p:fI)(a:Int):C:=L.any λo=>pc p a o&&decide (p.qo<=o.Max)
def ku (L:I oB)(p:fI)(a:Int):Int:=
 cond (DC p) (cond (UB L p a) 0 (cond (L.any (pc p a)) 9 (cond (L.any λo=>o.ql==a) 7 11))) 1
def Kr (p:fI)(a:Int)(Y:oB->O C)(F:Int->O Int)(J:oB)(i6:Nat)(K:Int):O Int:=
 AB (τ:=Int) (λU=>if (J.ql !=a)=true then U K else Xg (Y J) λZ=>AB (τ:=Int) (λV=>if (!Z)=true then AB (τ:=Int) (λH=>if (K==11)=true then H 7 else H K) (λM=>V M) else if decide (J.Max<p.qo)=true then V 9 else some 0) (λP=>U P)) (λQ=>F Q)
def Wi {p:fI}{a:Int}{H:oB->O C}{x:oB}(J:H x=some (ta x.fI p))(next:Int->O Int)(i:Nat)(v:Int) : Kr p a H next x i v=cond (pc p a x) (cond (decide (p.qo<=x.Max)) (some 0) (next 9)) (cond (x.ql==a) (next (if v=11 then 7 else v)) (next v)):=by
 unfold Kr;rw[J];show (if (x.ql !=a)=true then next v else if (!(ta x.fI p))=true then (if (v==11)=true then next 7 else next v) else if decide (x.Max<p.qo)=true then next 9 else some 0)=_;unfold pc;by_cases h1:x.ql=a
 ·cases ta x.fI p
  ·by_cases F:v=11<;>simp[h1,F]
  by_cases F:x.Max<p.qo
  ·have:¬ p.qo<=x.Max:=by omega
   simp[h1,F,this]
  have:p.qo<=x.Max:=by omega
  simp[h1,F,this]
 have K:(x.ql==a)=false:=by simpa using h1
 rw[K];simp[h1]
def ZW (p:fI)(a:Int)(F:oB->O C)(J :∀x,F x=some (ta x.fI p)) :∀(l:I oB) (i:Nat) (v:Int), AH (σ:=Int) (λK=>some K) (Kr p a F) l i v
   = some (cond (UB l p a) 0 (cond (l.any (pc p a)) 9 (cond (l.any λo=>o.ql==a) (if v=11 then 7 else v) v)))
 | [],i,v=>rfl
 | x::t,i,v=>by
  show Kr p a F (AH (λK=>some K) (Kr p a F) t (i+1)) x i v=_;rw[Wi (J x)];have e1:UB (x::t) p a=((pc p a x&&decide (p.qo<=x.Max)) || UB t p a):=rfl;rw[e1,Xdh,Xdh,ZW p a F J t (i+1),ZW p a F J t (i+1),ZW p a F J t (i+1)];have hp:pc p a x=true->(x.ql==a)=true:=by intro h;unfold pc at h;rw[X26] at h;exact h.1
  by_cases H:v=11
  ·subst H;revert hp;cases pc p a x<;>cases decide (p.qo<=x.Max)<;>cases (x.ql==a)<;>cases UB t p a<;>cases t.any (pc p a)<;>cases (t.any λo=>o.ql==a)<;>simp
  revert hp;simp only[H,Xd5];cases pc p a x<;>cases decide (p.qo<=x.Max)<;>cases (x.ql==a)<;>cases UB t p a<;>cases t.any (pc p a)<;>cases (t.any λo=>o.ql==a)<;>simp
def On (L:I oB)(p:fI)(a:Int):CY L p a=some (ku L p a):=by
 unfold CY ku;rw[C0,AA];cases hg:DC p
 ·rfl
 rw[Xk (by simp),AC];exact ZW p a _ (λx=>EH ((Ll p).1 hg).1) L 0 11
def has_eq (l:I Int)(n:Int):GW l n=some (l.any λx=>n==x):=by
 unfold GW;rw[AC];have key :∀(l:I Int) (i:Nat),AH (σ:=Unit) (λ_=>some false) (λF H K _=>if (H==n)=true then some true else F ()) l i ()=some (l.any λx=>n==x):=by
  intro l;induction l with
  | nil=>intro i;rfl
  | cons x t J=>intro i;show (if (x==n)=true then some true else AH _ _ t (i+1) ())=_;rw[J,Xdh,show (n==x)=(x==n) from Bool.beq_comm];cases (x==n)<;>rfl
 exact key l 0
def own (s:I Int)(o:oB):C:=s.any λx=>o.ql==x
def QP {r:qS}{s:I Int}(V:r.oX.length<=1000000):Ok (Ho r s) λl=>l.Pairwise (λa b=>sG a b=true)/\∀x,x∈l↔x∈r.oX/\own s x=true:=by
 unfold Ho;refine .join (λv=>(∀x,x∈v↔x∈r.oX/\own s x=true)/\v.length<=r.oX.length) (λk P=>?_) λv F=>.bind (U2 (by omega)) λw H=>.ret ⟨H.1,λx=>(H.2 x).trans (F.1 x)⟩;refine .sQ (λi v=>(∀x,x∈v↔x∈r.oX.take i/\own s x=true)/\v.length<=i) ⟨by simp,by simp⟩ (λv F=>P v ⟨by simpa using F.1,F.2⟩) λnext x i v M F Q=>?_;have J:r.oX.take (i+1)=r.oX.take i++[x]:=by rw[Xc1,M];rfl
 have U:=(X15.1 M).1;rw[has_eq,AA];refine .join (λv=>(∀x,x∈v↔x∈r.oX.take (i+1)/\own s x=true)/\v.length<=i+1) (λY K=>.ite (λh=>?_) λh=>K _ ⟨λy=>?_,by omega⟩) λZ h=>Q _ h
 ·have h:own s x=true:=h;refine .bind (Ok.gH (by decide) (by simp;omega)) λw H=>K _ ⟨λy=>?_,by rw[H];simp;omega⟩;rw[H,J,X22,X22,F.1 y,X13];constructor
  ·rintro (q|q)
   ·exact⟨.inl q.1,q.2⟩
   exact⟨.inr q,by rw[q];exact h⟩
  rintro⟨q|q,q2⟩
  ·exact .inl ⟨q,q2⟩
  exact .inr q
 have h:own s x=false:=Bool.eq_false_iff.2 h;rw[J,X22,F.1 y,X13];constructor
 ·exact λq=>⟨.inl q.1,q.2⟩
 rintro⟨q|q,q2⟩
 ·exact⟨q,q2⟩
 rw[q,h] at q2;simp at q2
def js {L:I Set}(h:Mod L){n:T}{a:I Int}{m:I T}(e:vG L n a m):a.length<=4096:=by
 have key :∀(l:I Set),(∀s∈l,s.lf.length<=64)->(l.flatMap (·.lf)).length<=64*l.length:=by
  intro l;induction l with
  | nil=>intro _;simp
  | cons x t K=>intro F;have:=K λs H=>F s (X18 _ H);have:=F x (by simp);simp only[Xat,X10,X11];omega
 have P:=key L h.a;have Q:=h.n;have J:a.Nodup:=e.pa.imp λ{x y} h e=>by rw[e,ZT] at h;simp at h
 have:=PV J (m:=L.flatMap (·.lf)) λx F=>by obtain⟨s,H,_,M⟩:=(e.am x).1 F;exact Xd0.2 ⟨s,H,M⟩
 omega
end Go.AX.Q25
end
