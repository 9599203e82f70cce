/-
  Texts of one proof, packed.
-/
import Derived.Test.YtgbncopbacigiaaGreatDoorD15
import Derived.Test.YtgbncopbacigiaaGreatDoorD20
import Derived.KernelRfl
set_option linter.all false
set_option maxRecDepth 100000
set_option maxHeartbeats 4000000
open List renaming length_map→X10,length_append→X11,length_cons→X12,length_nil→X13,mem_singleton→X14,getElem?_eq_getElem→X15,getElem?_eq_some_iff→X16,length_drop→X17,length_take→X18,mem_cons_of_mem→X19,length_replicate→X20,length_set→X21,mem_append→X23
open Option.some renaming injEq→X24,inj→X25
open Prod.mk renaming injEq→X26
open Bool renaming and_eq_true→X27
open Option renaming bind→Xd,getD→Xde
open List renaming drop→Xat,toArray→Xcq
open Go renaming maxLen→Xbl
open ByteArray renaming mk→Xcp
section
namespace Go.AX.Q29
open Go Go.AX
abbrev keys (m:O (T×I)):O T:=m.map (·.1)
def eI {m:O (T×I)}(h :∀p∈m,p.2=true)(x:T):(A8 m x).getD false=decide (x∈keys m):=by
 cases hg:A8 m x with
 | none=>
  have:x∉keys m:=λK=>by obtain⟨v,F⟩:=ZW.2 K;rw[hg] at F;simp at F
  simp[this]
 | some v=>have H:=SC hg;have J:=h _ H;have:x∈keys m:=Xa0.2 ⟨_,H,rfl⟩;simp only at J;simp[J,this]
def ZU {m:O (T×I)}(h :∀p∈m,p.2=true)(x:T) :∀p∈A3 m x true,p.2=true:=by
 induction m with
 | nil=>intro p hp;simp[A3] at hp;rw[hp]
 | cons q m F=>
  intro p hp;unfold A3 at hp;split at hp
  ·rcases Wp.1 hp with rfl|hp
   ·rfl
   exact h p (X19 _ hp)
  rcases Wp.1 hp with rfl|hp
  ·exact h _ (by simp)
  exact F (λp hp=>h p (X19 _ hp)) p hp
def TG {m:O (T×I)}{x:T}(h:x∉keys m)(v:I):(A3 m x v).length=m.length+1:=by have:=congrArg List.length (NY m x v);rw[Xj h] at this;simpa using this
structure RI (L:List Set)(n:ByteArray)(a:List Int)(m:List ByteArray)(sn:List (ByteArray×Bool))(td:List ByteArray):Prop where
 pa:a.Pairwise λa b=>tF a b=true
 pm:m.Pairwise λa b=>um a b=true
 nd:(keys sn).Nodup
 tr :∀p∈sn,p.2=true
 rn :∀x∈keys sn,RN L n x
 tk :∀x∈td,x∈keys sn
 sa :∀x∈a,∃s∈L,RN L n s.Name/\x∈s.n7
 sm :∀x∈m,RN L n x/\∀s∈L,s.Name≠x
 pr :∀x∈keys sn,x∈td\/((∀s∈L,s.Name=x->(∀y∈s.n7,y∈a)/\∀y∈s.oT,y∈keys sn)/\((∀s∈L,s.Name≠x)->x∈m))
 n0:n∈keys sn
 la:a.length+64*(td.length+(4097-sn.length))<=64*4098
 lm:m.length+(td.length+(4097-sn.length))<=4098
def QW {L:O Set}(h:Mod L){n:T}{F:O (T×I)}(nd:(keys F).Nodup)(rn :∀x∈keys F,RN L n x):F.length<=4097:=by have H:=OH nd λx J=>dj (rn x J);have K:=dy h n;simp only[keys,X10] at H;omega
def RI.fin {L:O Set}{n:T}{a:O Int}{m:O T}{M:O (T×I)}(h:RI L n a m M []):xq L n a m:=by
 have F :∀x,RN L n x->x∈keys M:=by
  intro x P;induction P with
  | base=>exact h.n0
  | step H _ Q U=>
   rcases h.pr _ U with hp|hp
   ·simp at hp
   exact (hp.1 _ H rfl).2 _ Q
 refine⟨h.pa,λx=>⟨h.sa x,λ⟨s,H,J,K⟩=>?_⟩,h.pm,λx=>⟨h.sm x,λ⟨J,K⟩=>?_⟩⟩
 ·rcases h.pr _ (F _ J) with hp|hp
  ·simp at hp
  exact (hp.1 s H rfl).1 x K
 rcases h.pr _ (F _ J) with hp|hp
 ·simp at hp
 exact hp.2 K
def ll {a:O Int}{l:O Int}{ρ:Type}{Q:ρ->Prop}{k:O Int->C ρ}(P:a.Pairwise λa b=>tF a b=true)(hl:a.length+l.length<=1000000) (U :∀v,v.Pairwise (λa b=>tF a b=true)->(∀y,y∈v↔y∈a\/y∈l)->v.length<=a.length+l.length->Ok (k v) Q) : Ok (AI (λv=>k v) (λnext x _ v=>Xd (Dx v x) λV=>next V) l 0 a) Q:=by
 refine .tn (λi v=>v.Pairwise (λa b=>tF a b=true)/\(∀y,y∈v↔y∈a\/y∈l.take i)/\v.length<=a.length+i) ⟨P,by simp,by simp⟩ (λv ⟨F,H,K⟩=>U v F (by simpa using H) K) ?_;rintro next x i v M ⟨F,H,K⟩ Y
 have hi:=(X16.1 M).1;rw[On F (by omega),AA];refine Y _ ⟨?_,λy=>?_,?_⟩
 ·split
  ·exact F
  exact Jx eP jq F ‹_›
 ·have Z:y∈l.take (i+1)↔y∈l.take i\/y=x:=by rw[Xb8,M];simp
  rw[Z];split
  ·rename_i J;rw[H];constructor
   ·rintro (h|h)
    ·exact .inl h
    exact .inr (.inl h)
   rintro (h|h|rfl)
   ·exact .inl h
   ·exact .inr h
   exact (H _).1 J
  rw[HY,H,or_assoc]
 split
 ·omega
 rw[Hm];omega
def XL {r:ry}{n:T}(hm:Mod r.oT){a:O Int}{m:O T}{sn:O (T×I)}{x:T}{P:O T}(h:RI r.oT n a m sn (x::P)){ρ:Type}{Q:ρ->Prop} {next:O Int×O T×O (T×I)×O T->C ρ} (hn :∀a' m' J U,RI r.oT n a' m' J U->U.length+(4097-J.length)<(x::P).length+(4097-sn.length)->Ok (next (a',m',J,U)) Q) : Ok (AC (τ:=(O Int)×(O T)×(O (T×I))×(O T)) (λau=>Xd (iX (x::P) 0) λax=>Xd (E4 r ax) λ(v12,ay)=>AC (τ:=(O T)) (λY=>if (!ay) then Xd (iX (x::P) 0) λab=>Xd (Br m ab) λae=>Y ae else Y m ) λaz=>Xd (part (x::P) 1 ((x::P).length:Int)) λb0=>AC (τ:=(O Int)) (λba=>AI (σ:=(O Int)) (λaf=>ba af ) (λa1 bb bq af=>Xd (Dx af bb) λbc=>a1 bc ) v12.n7 0 a ) λbd=>AC (τ:=(O (T×I))×(O T)) (λbe=>AI (σ:=(O (T×I))×(O T)) (λ(Z,v28)=>be (Z,v28) ) (λa6 ag br (Z,v28)=>Xd (some (Xde (A8 Z ag) false)) λbf=>AC (τ:=(O (T×I))×(O T)) (λao=>if (!bf) then Xd (gE (α:=T) 16 v28 ([ag]:O T)) λbg=>ao ((A3 Z ag true),bg) else ao (Z,v28) ) λ(v35,bh)=>a6 (v35,bh) ) v12.oT 0 (sn,b0) ) λ(v37,bi)=>au (bd,az,v37,bi) ) λ(v39,v40,v41,bj)=>next (v39,v40,v41,bj)) Q:=by
 have bu:=QW hm h.nd h.rn;have bk:=h.la;have bl:=h.lm;simp only[X12] at bk bl hn;have hx:=h.tk x (by simp);have a7:=h.rn x hx;rw[AB];have g0:iX (x::P) 0=some x:=As (l:=x::P) (i:=0) (by simp);have p1:part (x::P) 1 ((x::P).length:Int)=some P:=by have:=P3 (l:=x::P) (n:=1) (by simp);simpa using this
 rw[g0,AA,Kz,AA];dsimp only;rw[p1];have ah :∀K:O T->C ρ,(∀m',m'.Pairwise (λa b=>um a b=true)->(∀y,y∈m'↔y∈m\/(y=x/\FQ r.oT x=none))->m'.length<=m.length+1->Ok (K m') Q)->
   Ok (AC (τ:=(O T)) (λY=>if (!(FQ r.oT x).isSome) then Xd (some x) λab=>Xd (Br m ab) λae=>Y ae else Y m) K) Q:=by
  intro K hK;rw[AB];cases M:FQ r.oT x with
  | some s=>rw[Xj (by simp)];exact hK m h.pm (by simp[M]) (by omega)
  | none=>
   rw[Xy (by simp),AA,Kq h.pm (by omega),AA];refine hK _ ?_ (λy=>?_) ?_
   ·split
    ·exact h.pm
    exact Jx fD j7 h.pm ‹_›
   ·split
    ·simp only[M,and_true];constructor
     ·exact .inl
     rintro (h|rfl)
     ·exact h
     assumption
    rw[HY];simp[M]
   split
   ·omega
   rw[Hm];omega
 refine ah _ λm' bm ai bw=>?_;rw[AA,AB];generalize V:(FQ r.oT x).getD Rw=s;have bx:s.n7.length<=64/\s.oT.length<=64:=by
  cases M:FQ r.oT x with
  | none=>rw[M] at V;subst V;exact⟨by simp[Rw],by simp[Rw]⟩
  | some s'=>rw[M] at V;simp only[Xao] at V;subst V;exact⟨hm.a _ (GY M).1,hm.s _ (GY M).1⟩
 have bn :∀t∈r.oT,t.Name=x->t=s/\FQ r.oT x=some s:=by intro t ht he;have:=hm.u.find ht;rw[he] at this;rw[this] at V;simp only[Xao] at V;subst V;exact⟨rfl,this⟩
 have bz :∀y,y∈s.n7\/y∈s.n7->True:=λ_ _=>trivial;have aj:(s.n7≠[]\/s.oT≠[])->s∈r.oT/\s.Name=x:=by
  intro bo;cases M:FQ r.oT x with
  | none=>rw[M] at V;subst V;simp[Rw] at bo
  | some s'=>rw[M] at V;simp only[Xao] at V;subst V;exact GY M
 refine ll h.pa (by omega) λa' bp ak c0=>?_;rw[AB];refine .tn (λi (p:O (T×I)×O T)=>(keys p.1).Nodup/\(∀q∈p.1,q.2=true)/\(∀y,y∈keys p.1↔y∈keys sn\/y∈s.oT.take i)/\(∀y∈p.2,y∈keys p.1)/\(∀y∈keys p.1,y∈keys sn\/y∈p.2)/\(∀y∈P,y∈p.2)/\p.2.length+sn.length=P.length+p.1.length)
  ⟨h.nd,h.tr,by simp,λy F=>h.tk y (X19 _ F),λy F=>.inl F,λy F=>F,rfl⟩ ?_ ?_
 ·rintro⟨J,U⟩ ⟨b1,b2,b3,uV,b5,b6,b7⟩;simp only[Xcj] at b1 b2 b3 uV b5 b6 b7;have a8 :∀y∈keys J,RN r.oT n y:=by
   intro y F;rcases (b3 y).1 F with F|F
   ·exact h.rn y F
   obtain⟨q1,q2⟩:=aj (.inr (λe=>by rw[e] at F;simp at F));exact .step q1 (by rw[q2];exact a7) F
  have ap:=QW hm b1 a8;refine hn a' m' J U ⟨bp,bm,b1,b2,a8,uV,λy F=>?_,λy F=>?_,λy F=>?_,(b3 n).2 (.inl h.n0),by omega,by omega⟩ (by omega)
  ·rcases (ak y).1 F with F|F
   ·exact h.sa y F
   obtain⟨q1,q2⟩:=aj (.inl (λe=>by rw[e] at F;simp at F));exact⟨s,q1,by rw[q2];exact a7,F⟩
  ·rcases (ai y).1 F with F|⟨rfl,M⟩
   ·exact h.sm y F
   exact⟨a7,Pg M⟩
  rcases b5 y F with al|al
  ·rcases h.pr y al with hp|⟨p1,p2⟩
   ·rcases Wp.1 hp with rfl|hp
    ·refine .inr ⟨λt ht he=>?_,λan=>?_⟩
     ·obtain⟨e1,e2⟩:=bn t ht he;subst e1;exact⟨λz H=>(ak z).2 (.inr H),λz H=>(b3 z).2 (.inr H)⟩
     refine (ai _).2 (.inr ⟨rfl,?_⟩);cases M:FQ r.oT y with
     | none=>rfl
     | some t=>exact absurd (GY M).2 (an t (GY M).1)
    exact .inl (b6 y hp)
   refine .inr ⟨λt ht he=>?_,λan=>(ai y).2 (.inl (p2 an))⟩;obtain⟨c1,c2⟩:=p1 t ht he;exact⟨λz H=>(ak z).2 (.inl (c1 z H)),λz H=>(b3 z).2 (.inl (c2 z H))⟩
  exact .inl al
 rintro nx y i ⟨J,U⟩ F ⟨b1,b2,b3,uV,b5,b6,b7⟩ aq;simp only at b1 b2 b3 uV b5 b6 b7;have hi:=(X16.1 F).1;have ht :∀z,z∈s.oT.take (i+1)↔z∈s.oT.take i\/z=y:=λz=>by rw[Xb8,F];simp
 have a8 :∀z∈keys J,RN r.oT n z:=by
  intro z H;rcases (b3 z).1 H with H|H
  ·exact h.rn z H
  have H:=Xce H;obtain⟨q1,q2⟩:=aj (.inr (λe=>by rw[e] at H;simp at H));exact .step q1 (by rw[q2];exact a7) H
 have ap:=QW hm b1 a8;simp only[AA];rw[AB,eI b2];by_cases aa:y∈keys J
 ·rw[Wd aa,Xj (by decide)];refine aq _ ⟨b1,b2,λz=>?_,uV,b5,b6,b7⟩;rw[b3,ht];constructor
  ·rintro (h|h)
   ·exact .inl h
   exact .inr (.inl h)
  rintro (h|h|rfl)
  ·exact .inl h
  ·exact .inr h
  exact (b3 _).1 aa
 rw[Ws aa,Xy (by decide)];refine .bind (Ok.gE (by decide) (by simp;omega)) λc3 ar=>?_;subst ar;refine aq _ ⟨YI b1,ZU b2 y,λz=>?_,λz H=>?_,λz H=>?_,λz H=>?_,?_⟩
 ·rw[PZ,b3,ht,or_assoc]
 ·rw[PZ];rcases X23.1 H with H|H
  ·exact .inl (uV z H)
  exact .inr (by simpa using H)
 ·rcases PZ.1 H with H|rfl
  ·exact (b5 z H).imp id λh=>X23.2 (.inl h)
  exact .inr (by simp)
 ·exact X23.2 (.inl (b6 z H))
 simp only;rw[TG aa];simp only[X11,X12,X13];omega
def RI.init {L:O Set}(n:T):RI L n [] [] (A3 [] n true) [n]:=by
 refine⟨.nil,.nil,by simp[A3],by simp[A3],?_,?_,by simp,by simp,?_,by simp[A3],by simp[A3],by simp[A3]⟩
 ·intro x F;simp[A3] at F;subst F;exact .base
 ·intro x F;simp[A3] at F⊢;exact F
 intro x F;simp[A3] at F;exact .inl (by simp[F])
def Lj {r:ry}{n:T}(Q:Mod r.oT)(U :∀s∈r.oT,OM s)(V:QO r=true) : Ok (Ft r n) λF=>(FQ r.oT n=none/\F=([],[],11))\/(∃s,FQ r.oT n=some s/\F.2.2=0/\xq r.oT n F.1 F.2.1):=by
 unfold Ft;rw[HM U,V,AA,Xj (by decide),Kz,AA];dsimp only;cases hf:FQ r.oT n with
 | none=>exact .ite (λ_=>.ret (.inl ⟨rfl,rfl⟩)) λh=>absurd rfl h
 | some s=>
  refine .ite (λh=>absurd h (by simp)) λ_=>?_;refine .join (λp:O Int×O T=>xq r.oT n p.1 p.2) (λk Y=>?_) λp hp=>.ret (.inr ⟨s,rfl,rfl,hp⟩);refine .sP (λp:(O Int)×(O T)×(O (T×I))×(O T)=>RI r.oT n p.1 p.2.1 p.2.2.1 p.2.2.2) (λp=>p.2.2.2.length+(4097-p.2.2.1.length)) (RI.init n) (BK (by simp[A3])) ?_;rintro next ⟨a,m,sn,P⟩ H J
  simp only at H;cases P with
  | nil=>dsimp only;rw[Xj (by simp)];exact Y (a,m) H.fin
  | cons x P=>dsimp only;rw[Xy (by simp)];exact XL Q H λZ m' K M h1 h2=>J (Z,m',K,M) h1 h2
structure PI (L:List Set)(n:ByteArray)(mt:List (ByteArray×Bool))(a:List (Int×Bool))(ms:List (ByteArray×Bool))(q:List ByteArray):Prop where
 nm:(keys mt).Nodup
 tm :∀p∈mt,p.2=true
 rm :∀x∈keys mt,(∃s∈L,s.Name=x)/\RN L n x
 na:(a.map (·.1)).Nodup
 ra :∀x∈a.map (·.1),∃s∈L,RN L n s.Name/\x∈s.n7
 ns:(keys ms).Nodup
 rs :∀x∈keys ms,RN L n x/\∀s∈L,s.Name≠x
 rq :∀x∈q,RN L n x
 cl :∀s∈L,s.Name∈keys mt->(∀y∈s.n7,y∈a.map (·.1))/\∀y∈s.oT,y∈q\/y∈keys mt\/y∈keys ms
 n0:n∈q\/n∈keys mt\/n∈keys ms
 la:a.length<=64*mt.length
 lm:ms.length+(q.length+65*(64-mt.length))<=4161
def PI.fin {L:O Set}{n:T}{K:O (T×I)}{a:O (Int×I)}{ms:O (T×I)}(h:PI L n K a ms []){ra:O Int}{rs:O T} (M:ra.Pairwise λa b=>tF a b=true) (P :∀x,x∈ra↔x∈a.map (·.1)) (Q:rs.Pairwise λa b=>um a b=true) (U :∀x,x∈rs↔x∈ms.map (·.1)):xq L n ra rs:=by
 have F :∀x,RN L n x->x∈keys K\/x∈keys ms:=by
  intro x V;induction V with
  | base=>simpa using h.n0
  | step H _ Y J=>
   rcases J with J|J
   ·simpa using (h.cl _ H J).2 _ Y
   exact absurd rfl ((h.rs _ J).2 _ H)
 refine⟨M,λx=>?_,Q,λx=>?_⟩
 ·rw[P];refine⟨h.ra x,λ⟨s,H,q1,q2⟩=>?_⟩;rcases F _ q1 with hp|hp
  ·exact (h.cl s H hp).1 x q2
  exact absurd rfl ((h.rs _ hp).2 s H)
 rw[U];refine⟨h.rs x,λ⟨q1,q2⟩=>?_⟩;rcases F _ q1 with hp|hp
 ·obtain⟨⟨s,H,Z⟩,_⟩:=h.rm x hp;exact absurd Z (q2 s H)
 exact hp
def PI.init (L:O Set)(n:T):PI L n [] [] [] [n]:=
 ⟨by simp[keys],by simp,by simp[keys],by simp,by simp,by simp[keys],by simp[keys],λx F=>by simp at F;subst F;exact .base,by simp[keys],by simp,by simp,by simp⟩
def SO :∀{l:O Set} {seen:O T},L0 seen l=true↔(l.map (·.Name)).Nodup/\(∀s∈l,s.Name∉seen)/\∀s∈l,tQ s=true
 | [],seen=>by simp[L0]
 | x::t,seen=>by
  rw[L0,X27,X27,SO,Xam,List.nodup_cons];simp only[Xb7,Xb2,Wp,forall_eq_or_imp,not_or];constructor
  ·rintro⟨⟨J,K⟩,M,H,P⟩;refine⟨⟨λU=>?_,M⟩,⟨J,λs F=>(H s F).2⟩,K,P⟩;obtain⟨s,F,Q⟩:=Xa0.1 U;exact (H s F).1 Q
  rintro⟨⟨J,K⟩,⟨M,H⟩,P,V⟩;exact⟨⟨M,P⟩,K,λs F=>⟨λQ=>J (Xa0.2 ⟨s,F,Q⟩),H s F⟩,V⟩
def QG {r:ry}:QO r=true↔(wc r.oT/\∀s∈r.oT,tQ s=true)/\(∀o∈r.n5,U0 o=true)/\r.oT.length<=64/\r.n5.length<=512:=by unfold QO wc;simp only[X27,Xe,Wo,SO,Xdn];simp
def Me {s:Set}:tQ s=true↔tj s.Name=true/\s.n7.length<=64/\s.oT.length<=64/\(∀n∈s.n7,Bt n=true)/\∀x∈s.oT,tj x=true:=by unfold tQ;simp only[X27,Xe,Wo,Xdn]
def eZ {r:ry}(h:QO r=true):Mod r.oT/\∀s∈r.oT,∀x∈s.n7,Bt x=true:=by obtain⟨⟨J,H⟩,_,K,_⟩:=QG.1 h;exact⟨⟨K,J,λs F=>(Me.1 (H s F)).2.1,λs F=>(Me.1 (H s F)).2.2.1⟩,λs F=>(Me.1 (H s F)).2.2.2.1⟩
def RG {s:T}(h:tj s=true):s.size<=Xbl:=by have F:Xbl=9223372036854775807:=rfl;unfold tj at h;simp only[X27,Xe] at h;omega
def aY {s:Set}(h:tQ s=true):OM s:=by obtain⟨F,_,_,_,H⟩:=Me.1 h;exact⟨RG F,λx J=>RG (H x J)⟩
def w6 (a:Addr):Int:=if a.V6 then 1 else 0
def G6 (a:Addr):O Int:=[w6 a,a.Hi.toNat,a.Lo.toNat]
def Tv (o:oB):O Int:=[w6 o.fv.Addr,o.fv.Addr.Hi.toNat,o.fv.Addr.Lo.toNat,o.fv.rL,o.Max,o.r4]
def bJ (a b:oB):Int:=DL (Tv a) (Tv b)
def kQ (a b:j):Bn a b=some (Zo a.toNat b.toNat):=by unfold Bn Dh Zo;simp only[AA,Xca,Bool.false_eq_true,Xd0,Xe,gt_iff_lt];split<;>(try split)<;>rfl
def mA (a:Addr):FP a=some (w6 a):=by unfold FP w6;split<;>rfl
def dB (l t:O Int):vi (vi l::t)=vi (l++t):=by
 induction l with
 | nil=>rfl
 | cons x s F=>
  by_cases h:x=0
  ·simp only[vi,h,Xdl,List.cons_append] at F⊢;exact F
  simp[vi,h]
def VL (a b:O Int)(c d:O Int)(h:a.length=b.length):DL (a++c) (b++d)=if DL a b=0 then DL c d else DL a b:=by
 induction a generalizing b with
 | nil=>cases b with
  | nil=>simp[DL]
  | cons y t=>simp at h
 | cons x s F=>cases b with
  | nil=>simp at h
  | cons y t=>
   simp only[List.cons_append,DL];rw[F t (by simpa using h)];split
   ·simp
   split<;>simp
def oB.rb (a b:oB):oB.rO a b=true↔a=b:=by
 have h:=fv.rb a.fv b.fv;unfold fv.rO at h;unfold oB.rO;simp only[X27,Xd3,Xbi] at h⊢;rw[h];constructor
 ·rintro⟨F,H,J⟩;cases a;cases b;simp_all
 rintro rfl;exact⟨rfl,rfl,rfl⟩
def jY {a b:Addr}(h:w6 a=w6 b):a.V6=b.V6:=by unfold w6 at h;cases F:a.V6<;>cases H:b.V6<;>simp_all
def QD {a b:Addr}(h:G6 a=G6 b):a=b:=by simp only[G6,Xd7,Int.natCast_inj,Xck,and_true] at h;obtain⟨F,H,J⟩:=h;have:=jY F;cases a;cases b;simp_all
def Vg {a b:oB}(h:Tv a=Tv b):a=b:=by simp only[Tv,Xd7,and_true] at h;obtain⟨F,H,J,K,M,P⟩:=h;have:=@QD a.fv.Addr b.fv.Addr (by unfold G6;rw[F,H,J]);obtain⟨⟨x,y⟩,u,v⟩:=a;obtain⟨⟨Q,U⟩,V,Y⟩:=b;simp_all
def kX (f p q r s:Int)(h:p≠r\/q≠s):AC (τ:=I) (λF=>if decide (p<r)=true then F true else if (p==r)=true then F (cond false true (cond true (decide (q<s)) false)) else F false) (λv2=>if v2=true then some (-1:Int) else some 1)=some (DL [f,p,q] [f,r,s]):=by rw[AB];simp only[DL,Int.lt_irrefl,Xd0,Xe,Xbi,Xcr,Xdg];by_cases H:p < r<;>by_cases a2:p=r<;>by_cases a3:r < p<;>by_cases b1:q < s<;>by_cases b3:s < q<;>first|(exfalso;omega)|simp[H,a2,a3,b1,b3]
def UB (a b:Addr):Ie a b=some (DL (G6 a) (G6 b)):=by
 unfold Ie;by_cases h:a=b
 ·subst h;rw[Xy ((Addr.rb _ _).2 rfl),Ig]
 rw[Xj (λq=>h ((Addr.rb _ _).1 q))];unfold G6 w6;by_cases F:a.V6=b.V6
 ·rw[F,Xj (by simp)];refine kX _ _ _ _ _ ?_;by_cases H:(a.Hi.toNat:Int)=b.Hi.toNat
  ·refine .inr λJ=>h (QD ?_);unfold G6 w6;rw[F,H,J]
  exact .inl H
 rw[Xy (by simpa using F)];cases K:a.V6<;>cases M:b.V6<;>simp_all [DL]
def MN (a b:fv):BP a b=some (DL (G6 a.Addr++[a.rL]) (G6 b.Addr++[b.rL])):=by
 unfold BP;rw[UB,AA,VL (G6 a.Addr) (G6 b.Addr) [a.rL] [b.rL] rfl];by_cases h:DL (G6 a.Addr) (G6 b.Addr)=0
 ·rw[Xj (by simpa using h),Xy h];simp only[DL,Xe,gt_iff_lt];split
  ·rfl
  split<;>rfl
 rw[Xy (by simpa using h),Xj h]
def cZ (p q r s:Int)(e:I)(h:e=true↔(p=r/\q=s)):AC (τ:=I) (λF=>if decide (p<r)=true then F true else if (p==r)=true then F (cond false true (cond true (decide (q<s)) false)) else F false) (λv2=>if v2=true then some (-1:Int) else if e=true then some 0 else some 1)=some (DL [p,q] [r,s]):=by rw[AB];simp only[DL,h,Xe,Xbi,Xcr,Xdg];by_cases H:p < r<;>by_cases a2:p=r<;>by_cases a3:r < p<;>by_cases b1:q < s<;>by_cases b2:q=s<;>by_cases b3:s < q<;>first|(exfalso;omega)|simp[H,a2,a3,b1,b2,b3]
def UM (a b:oB):HL a b=some (bJ a b):=by
 unfold HL;have e:bJ a b=DL ((G6 a.fv.Addr++[a.fv.rL])++[a.Max,a.r4]) ((G6 b.fv.Addr++[b.fv.rL])++[b.Max,b.r4]):=rfl;rw[MN,AA,e,VL (G6 a.fv.Addr++[a.fv.rL]) (G6 b.fv.Addr++[b.fv.rL]) [a.Max,a.r4] [b.Max,b.r4] rfl];by_cases h:DL (G6 a.fv.Addr++[a.fv.rL]) (G6 b.fv.Addr++[b.fv.rL])=0
 ·rw[Xj (by simpa using h),Xy h];refine cZ _ _ _ _ _ ((oB.rb _ _).trans ⟨λq=>by rw[q];exact⟨rfl,rfl⟩,λq=>Vg ?_⟩);show (G6 a.fv.Addr++[a.fv.rL])++[a.Max,a.r4]=(G6 b.fv.Addr++[b.fv.rL])++[b.Max,b.r4];rw[Ik (by rfl) h,q.1,q.2]
 rw[Xy (by simpa using h),Xj h]
def u7 (a b:oB):I:=decide (bJ a b<0)
def j9 (a:oB):u7 a a=false:=by unfold u7 bJ;rw[Ig];rfl
def dH (a b c:oB)(F:u7 a b=true)(H:u7 b c=true):u7 a c=true:=by unfold u7 bJ at *;simp only[Xe] at *;exact PC (by rfl) (by rfl) F H
def kc (a b:oB)(h:u7 a b=false):a=b\/u7 b a=true:=by
 unfold u7 bJ at *;simp only[Xb2,Xe] at *;have:=M3 (Tv a) (Tv b);by_cases F:DL (Tv a) (Tv b)=0
 ·exact .inl (Vg (Ik (by rfl) F))
 exact .inr (by omega)
def P0 {α:Type}{l:O α}{i:Nat}{x:α}(h:i<l.length):(l.set i x).take (i+1)=l.take i++[x]:=by rw[Xb8,List.take_set_of_le (Xa8 _),Xcm h];rfl
def TX {l:O oB}(hl:l.length<=1000000):Ok (Fh l) λr=>r.Pairwise (λa b=>u7 a b=true)/\∀x,x∈r↔x∈l:=by
 unfold Fh;refine .join (λr=>r.Pairwise (λa b=>u7 a b=true)/\∀x,x∈r↔x∈l) (λk H=>?_) λr hr=>.ret hr;refine .tn (λi v=>v.Pairwise (λa b=>u7 a b=true)/\(∀x,x∈v↔x∈l.take i)/\v.length<=i) ⟨.nil,by simp,by simp⟩ (λv Y=>H v ⟨Y.1,by simpa using Y.2.1⟩) λnext x i v Z hI hn=>?_;obtain⟨P,Q,i3⟩:=hI;have a6:=(X16.1 Z).1;have J :∀y,y∈l.take (i+1)↔y∈l.take i\/y=x:=by intro y;rw[Xb8,Z];simp
 refine .join (λM=>M.Pairwise (λa b=>u7 a b=true)/\(∀x,x∈M↔x∈l.take (i+1))/\M.length<=i+1) (λk6 K=>?_) λM h=>hn _ h;have a1:=CN (u7 · x) v;rw[jz (p:=(u7 · x)) (λy k4=>Xd (HL y x) λU=>k4 (cond true (decide (U<0)) false)) (by omega) (λy _ k=>by rw[UM];rfl)];have hh:=NI dH j9 (x:=x) P;obtain⟨t1,t2⟩:=sD (u7 · x) v;refine .join (λc=>c=true↔x∈v) (λa7 F=>?_) λc hc=>.ite (λh=>?_) λh=>?_
 ·by_cases H:(v.takeWhile (u7 · x)).length<v.length
  ·rw[Xy (by simpa using H),As H,AA];refine F _ ?_;rw[hh,X15 H];simp only[Xcr,oB.rb,X24]
  rw[Xj (by simpa using H)];refine F _ ?_;rw[hh,List.getElem?_eq_none (by omega)];simp
 ·refine K _ ⟨P,λy=>?_,by omega⟩;rw[J,Q y];refine⟨.inl,λq=>q.elim id λe=>?_⟩;rw[e];exact (Q x).1 (hc.1 h)
 have V:x∉v:=λq=>h (hc.2 q);simp only[Xa7,Int.toNat_zero,List.drop_zero,Nat.sub_zero];refine .bind (Ok.sR (by omega)) λ_ _=>.bind (Ok.gE (by decide) (by simp;omega)) λ_ _=>.bind (Ok.gE (by decide) (by simp;omega)) λa ha=>.bind (Ok.sR (by omega)) λ_ _=>.bind (Ok.gE (by decide) (by rw[ha];simp;omega)) λb hb=>K _ ?_;have e:b=KJ u7 v x:=by
  have e2:(Xat (v.takeWhile (u7 · x)).length v).take (v.length-(v.takeWhile (u7 · x)).length)=v.dropWhile (u7 · x):=by rw[List.take_of_length_le (by simp),t2]
  rw[hb,ha,e2,t1];unfold KJ;simp
 rw[e];refine⟨Jx dH kc P V,λy=>?_,by rw[Hm];omega⟩;rw[HY,J,Q]
def uy (p q:fv):I:=decide (q.rL≥p.rL)&&xW p q.Addr
def D2 {p q:fv}(h:q.Addr.ok=true):A7 p q=some (uy p q):=by
 unfold A7 uy;rw[AB,NC h,AA,Xcr];by_cases h:q.rL≥p.rL
 ·rw[Xy (by simpa using h)];simp[h]
 rw[Xj (by simpa using h)];simp[h]
def pc (p:fv)(a:Int)(o:oB):I:=o.r4==a&&uy o.fv p
def SD (L:O oB)(p:fv)(a:Int):I:=L.any λo=>pc p a o&&decide (p.rL<=o.Max)
def lD (L:O oB)(p:fv)(a:Int):Int:=
 cond (B8 p) (cond (SD L p a) 0 (cond (L.any (pc p a)) 9 (cond (L.any λo=>o.r4==a) 7 11))) 1
def Jr (p:fv)(a:Int)(Y:oB->C I)(F:Int->C Int)(J:oB)(i6:Nat)(K:Int):C Int:=
 AC (τ:=Int) (λU=>if (J.r4 !=a)=true then U K else Xd (Y J) λZ=>AC (τ:=Int) (λV=>if (!Z)=true then AC (τ:=Int) (λH=>if (K==11)=true then H 7 else H K) (λM=>V M) else if decide (J.Max<p.rL)=true then V 9 else some 0) (λP=>U P)) (λQ=>F Q)
def VY {p:fv}{a:Int}{J:oB->C I}{x:oB}(K:J x=some (uy x.fv p))(next:Int->C Int)(i:Nat)(v:Int) : Jr p a J next x i v=cond (pc p a x) (cond (decide (p.rL<=x.Max)) (some 0) (next 9)) (cond (x.r4==a) (next (if v=11 then 7 else v)) (next v)):=by
 unfold Jr;rw[K];show (if (x.r4 !=a)=true then next v else if (!(uy x.fv p))=true then (if (v==11)=true then next 7 else next v) else if decide (x.Max<p.rL)=true then next 9 else some 0)=_;unfold pc;by_cases F:x.r4=a
 ·cases uy x.fv p
  ·by_cases H:v=11<;>simp[F,H]
  by_cases H:x.Max<p.rL
  ·have:¬ p.rL<=x.Max:=by omega
   simp[F,H,this]
  have:p.rL<=x.Max:=by omega
  simp[F,H,this]
 have M:(x.r4==a)=false:=by simpa using F
 rw[M];simp[F]
def Y0 (p:fv)(a:Int)(F:oB->C I)(J :∀x,F x=some (uy x.fv p)) :∀(l:O oB) (i:Nat) (v:Int), AI (σ:=Int) (λK=>some K) (Jr p a F) l i v
   = some (cond (SD l p a) 0 (cond (l.any (pc p a)) 9 (cond (l.any λo=>o.r4==a) (if v=11 then 7 else v) v)))
 | [],i,v=>rfl
 | x::t,i,v=>by
  show Jr p a F (AI (λK=>some K) (Jr p a F) t (i+1)) x i v=_;rw[VY (J x)];have e1:SD (x::t) p a=((pc p a x&&decide (p.rL<=x.Max)) || SD t p a):=rfl;rw[e1,List.any_cons,List.any_cons,Y0 p a F J t (i+1),Y0 p a F J t (i+1),Y0 p a F J t (i+1)];have hp:pc p a x=true->(x.r4==a)=true:=by intro h;unfold pc at h;rw[X27] at h;exact h.1
  by_cases H:v=11
  ·subst H;revert hp;cases pc p a x<;>cases decide (p.rL<=x.Max)<;>cases (x.r4==a)<;>cases SD t p a<;>cases t.any (pc p a)<;>cases (t.any λo=>o.r4==a)<;>simp
  revert hp;simp only[H,Xd0];cases pc p a x<;>cases decide (p.rL<=x.Max)<;>cases (x.r4==a)<;>cases SD t p a<;>cases t.any (pc p a)<;>cases (t.any λo=>o.r4==a)<;>simp
def NV (L:O oB)(p:fv)(a:Int):CG L p a=some (lD L p a):=by
 unfold CG lD;rw[CP,AA];cases hg:B8 p
 ·rfl
 rw[Xj (by simp),AB];exact Y0 p a _ (λx=>D2 ((HF p).1 hg).1) L 0 11
def vw (l:O Int)(n:Int):GT l n=some (l.any λx=>n==x):=by
 unfold GT;rw[AB];have key :∀(l:O Int) (i:Nat),AI (σ:=Unit) (λ_=>some false) (λF H K _=>if (H==n)=true then some true else F ()) l i ()=some (l.any λx=>n==x):=by
  intro l;induction l with
  | nil=>intro i;rfl
  | cons x t J=>intro i;show (if (x==n)=true then some true else AI _ _ t (i+1) ())=_;rw[J,List.any_cons,show (n==x)=(x==n) from Bool.beq_comm];cases (x==n)<;>rfl
 exact key l 0
def own (s:O Int)(o:oB):I:=s.any λx=>o.r4==x
def Ou {r:ry}{s:O Int}(V:r.n5.length<=1000000):Ok (HJ r s) λl=>l.Pairwise (λa b=>u7 a b=true)/\∀x,x∈l↔x∈r.n5/\own s x=true:=by
 unfold HJ;refine .join (λv=>(∀x,x∈v↔x∈r.n5/\own s x=true)/\v.length<=r.n5.length) (λk P=>?_) λv F=>.bind (TX (by omega)) λw H=>.ret ⟨H.1,λx=>(H.2 x).trans (F.1 x)⟩;refine .tn (λi v=>(∀x,x∈v↔x∈r.n5.take i/\own s x=true)/\v.length<=i) ⟨by simp,by simp⟩ (λv F=>P v ⟨by simpa using F.1,F.2⟩) λnext x i v M F Q=>?_;have J:r.n5.take (i+1)=r.n5.take i++[x]:=by rw[Xb8,M];rfl
 have U:=(X16.1 M).1;rw[vw,AA];refine .join (λv=>(∀x,x∈v↔x∈r.n5.take (i+1)/\own s x=true)/\v.length<=i+1) (λY K=>.ite (λh=>?_) λh=>K _ ⟨λy=>?_,by omega⟩) λZ h=>Q _ h
 ·have h:own s x=true:=h;refine .bind (Ok.gE (by decide) (by simp;omega)) λw H=>K _ ⟨λy=>?_,by rw[H];simp;omega⟩;rw[H,J,X23,X23,F.1 y,X14];constructor
  ·rintro (q|q)
   ·exact⟨.inl q.1,q.2⟩
   exact⟨.inr q,by rw[q];exact h⟩
  rintro⟨q|q,q2⟩
  ·exact .inl ⟨q,q2⟩
  exact .inr q
 have h:own s x=false:=Bool.eq_false_iff.2 h;rw[J,X23,F.1 y,X14];constructor
 ·exact λq=>⟨.inl q.1,q.2⟩
 rintro⟨q|q,q2⟩
 ·exact⟨q,q2⟩
 rw[q,h] at q2;simp at q2
def jp {L:O Set}(h:Mod L){n:T}{a:O Int}{m:O T}(e:xq L n a m):a.length<=4096:=by
 have key :∀(l:O Set),(∀s∈l,s.n7.length<=64)->(l.flatMap (·.n7)).length<=64*l.length:=by
  intro l;induction l with
  | nil=>intro _;simp
  | cons x t K=>intro F;have:=K λs H=>F s (X19 _ H);have:=F x (by simp);simp only[Xac,X11,X12];omega
 have P:=key L h.a;have Q:=h.n;have J:a.Nodup:=e.pa.imp λ{x y} h e=>by rw[e,Yw] at h;simp at h
 have:=OH J (m:=L.flatMap (·.n7)) λx F=>by obtain⟨s,H,_,M⟩:=(e.am x).1 F;exact Xc5.2 ⟨s,H,M⟩
 omega
def PT {r:ry}{h:Int}{n:T}{p:fv}{o:Int}(K :∀s∈r.oT,OM s)(hn:n.size<=Xbl) :∃v,Bg r h n p o=some v:=by
 suffices hs:Ok (Bg r h n p o) λ_=>True by obtain⟨v,U,_⟩:=hs;exact⟨v,U⟩
 unfold Bg;rw[HM K,AA];cases H:QO r
 ·exact .ret trivial
 rw[Xj (by simp),AB];obtain⟨_,_,_,V⟩:=QG.1 H;have key :∀v:O Int,Ok (Xd (GT v o) λY=>if (!Y)=true then some 17 else Xd (HJ r v) λZ=>Xd (CG Z p o) λJ=>some J) λ_=>True:=by intro v;obtain⟨l,e1,_⟩:=Ou (r:=r) (s:=v) (by omega);rw[vw,e1];simp only[AA,NV];cases (v.any λx=>o==x)<;>exact .ret trivial
 by_cases he:(!(n.toList==(Xcp (Xcq List.nil)).toList))=true
 ·rw[Xy he];obtain⟨M,P⟩:=eZ H;obtain⟨⟨a,m,e⟩,g1,F⟩:=Lj (n:=n) M K H;rw[g1,AA];dsimp only;by_cases Q:(e !=0)=true
  ·rw[Xy Q];exact .ret trivial
  rw[Xj Q];have ha:a.length<=1000000:=by
   rcases F with ⟨_,F⟩|⟨_,_,_,F⟩
   ·simp only[X26] at F;rw[F.1];simp
   have:=jp M F;simp only at this;omega
  rw[AD (by decide) (by simp;omega),AA];exact key _
 rw[Xj he];exact key _
def WQ {v n:Int}(K:1<=n/\n<=1000000000):Ok (J5 v n) λr=>0<=r/\r<n:=by
 unfold J5;have M:=Int.tmod_lt_of_pos v (show 0<n by omega);have P:-n<Int.tmod v n:=by have:=Int.lt_tmod_of_pos v (show 0<n by omega);exact this
 refine .bind (.sR (by omega)) λ_ _=>.join (λr=>0<=r/\r<n) (λk H=>.ite (λF=>H _ ?_) λF=>H _ ?_) λr J=>.ret J
 ·simp only[Xe] at F;rw[AN (by omega)];omega
 simp only[Xe] at F;omega
def AK {d:oX}{n:Int}(J:Dk d)(K:1<=n/\n<=1000000000):Ok (AG d n) λr=>0<=r.1/\r.1<n/\Dk r.2:=by
 obtain⟨M,F⟩:=J;unfold AG;refine .ite (λ_=>.ret ⟨by simp only;omega,by simp only;omega,M,F⟩) λP=>?_;simp only[Xe] at P;have e1:AQ (d.At+1)=d.At+1:=AN (by omega);have e2:AQ (d.At+1-1)=d.At:=by rw[AN (by omega)];omega
 rw[e1,e2];exact .bind (.iX (by omega)) λv _=>.bind (WQ K) λr H=>.ret ⟨H.1,H.2,by simp only;omega,F⟩
def K7 {k:Int}(h:0<=k/\k<8):Ok (DD k) wO:=by
 have:k=0\/k=1\/k=2\/k=3\/k=4\/k=5\/k=6\/k=7:=by omega
 rcases this with rfl|rfl|rfl|rfl|rfl|rfl|rfl|rfl
 ·exact⟨_,rfl,by kernel_rfl,.inl ⟨rfl,rfl⟩⟩
 ·exact⟨_,rfl,by kernel_rfl,.inl ⟨rfl,rfl⟩⟩
 ·exact⟨_,rfl,by kernel_rfl,.inl ⟨rfl,rfl⟩⟩
 ·exact⟨_,rfl,by kernel_rfl,.inl ⟨rfl,rfl⟩⟩
 ·exact⟨_,rfl,by kernel_rfl,.inl ⟨rfl,rfl⟩⟩
 ·exact⟨_,rfl,by kernel_rfl,.inl ⟨rfl,rfl⟩⟩
 ·exact⟨_,rfl,by kernel_rfl,.inr ⟨rfl,rfl⟩⟩
 exact⟨_,rfl,by kernel_rfl,.inr ⟨rfl,rfl⟩⟩
def NW (o:oB):Prop:=wO o.fv/\(o.Max=24/\o.fv.Addr.V6=false\/o.Max=64/\o.fv.Addr.V6=true)/\0<=o.r4/\o.r4<=301
structure MF (f:mu):Prop where
 own:f.sK=99
 vW:f.rU=[⟨⟨false,0,3221225984⟩,24⟩]
 yy:f.sq=8/\f.rj=24/\f.sl=19/\f.ri=64/\f.rR=25/\f.rS=65
 w5:2<=f.rV/\f.rV<=8
 wK:f.oE=[⟨64512,65534⟩]
 free:f.rI.length<=2/\∀x∈f.rI,1<=x/\x<=1000
 yj:f.r7.length<=1/\∀p∈f.r7,wO p
 wN:f.ry.oT=[⟨oO,[101,102,103,104,105,201,202,203,301],[]⟩,⟨oP,[201],[]⟩]
 gF:f.ry.n5.length<=72/\∀o∈f.ry.n5,NW o/\1<=o.r4
 vS:f.n9.length<=8/\∀o∈f.n9,NW o
def Qx {d:oX}(F:Dk d):Ok (DZ d) λr=>MF r.1/\Dk r.2:=by
 unfold DZ;refine .bind (AK F (by omega)) ?_;rintro⟨a,d⟩ ⟨a1,a2,F⟩;simp only at a1 a2 F;refine .bind (.part ⟨by omega,by omega,by simp;omega⟩) λfr Y=>.bind (AK F (by omega)) ?_;rintro⟨b,d⟩ ⟨b1,b2,F⟩;simp only at F;refine .join (λx:oX×O fv=>Dk x.1/\x.2.length<=1/\∀p∈x.2,wO p) (λk P=>.ite (λ_=>.bind (AK F (by omega)) ?_) λ_=>P _ ⟨F,by simp,by simp⟩) ?_
 ·rintro⟨c,d⟩ ⟨c1,c2,F⟩;exact .bind (K7 ⟨c1,c2⟩) λp hp=>P _ ⟨F,by simp,by simpa using hp⟩
 rintro⟨d,bg⟩ ⟨F,Z,a6⟩;simp only at F Z a6;refine .bind (AK F (by omega)) ?_;rintro⟨e,d⟩ ⟨_,_,F⟩;refine .join (λx:oX×Int=>Dk x.1/\2<=x.2/\x.2<=8) (λk P=>.ite (λ_=>.bind (AK F (by omega)) ?_) λ_=>P _ ⟨F,by simp,by simp⟩) ?_
 ·rintro⟨c,d⟩ ⟨c1,c2,F⟩;simp only at c1 c2;exact P _ ⟨F,by simp only;rw[AN (by omega)];omega,by simp only;rw[AN (by omega)];omega⟩
 rintro⟨d,hp⟩ ⟨F,aa,ab⟩;refine .bind (AK F (by omega)) ?_;rintro⟨op,d⟩ ⟨_,_,F⟩;refine .join (λx:oX×O oB×O oB=>Dk x.1/\(x.2.1.length<=72/\∀o∈x.2.1,NW o/\1<=o.r4)/\x.2.2.length<=8/\∀o∈x.2.2,NW o) (λk P=>?_) ?_
 ·refine .sP (λs:Int×oX×O oB×O oB=>0<=s.1/\s.1<=8/\Dk s.2.1/\(s.2.2.1.length<=9*s.1.toNat/\∀o∈s.2.2.1,NW o/\1<=o.r4)/\s.2.2.2.length<=s.1.toNat/\∀o∈s.2.2.2,NW o) (λs=>(8-s.1).toNat)
   ⟨by simp,by simp,F,⟨by simp,by simp⟩,by simp,by simp⟩ (BK (by simp only;omega)) ?_
  rintro next ⟨i,d,os,Q⟩ ⟨i1,i2,F,⟨o1,o2⟩,r1,r2⟩ ae
  simp only at i1 i2 F o1 o2 r1 r2;refine .ite (λhc=>?_) λ_=>P _ ⟨F,⟨by simp only;omega,o2⟩,by simp only;omega,r2⟩;simp only[Xe] at hc;refine .join (λx:oX×O oB×O oB=>Dk x.1/\(x.2.1.length<=9*i.toNat+9/\∀o∈x.2.1,NW o/\1<=o.r4)/\x.2.2.length<=i.toNat+1/\∀o∈x.2.2,NW o) (λk2 af=>?_) ?_
  ·refine .bind (K7 ⟨i1,hc⟩) λp hp=>?_;refine .join (λm:Int=>m=24/\p.Addr.V6=false\/m=64/\p.Addr.V6=true) (λk3 J=>.ite (λh=>J _ (.inr ⟨rfl,h⟩)) λh=>J _ (.inl ⟨rfl,by simpa using h⟩)) λm hm=>?_;refine .join (λx:oX×O oB=>Dk x.1/\x.2.length<=9*i.toNat+9/\∀o∈x.2,NW o/\1<=o.r4) (λk3 J=>?_) ?_
   ·refine .xF (λj (x:oX×O oB)=>Dk x.1/\x.2.length<=9*i.toNat+j/\∀o∈x.2,NW o/\1<=o.r4) ⟨F,by simpa using o1,o2⟩ (λx U=>J _ U) ?_;rintro ag n j ⟨d,os⟩ hj hn ⟨F,q1,q2⟩ a7;simp only at F q1 q2;have K:1<=n/\n<=301:=by simp only[Wp,Xbf,Xdm] at hn;omega
    refine .join (λx:I×oX=>Dk x.2) (λk4 H=>.ite (λ_=>H _ F) λ_=>.bind (AK F (by omega)) ?_) ?_
    ·rintro⟨y,d⟩ ⟨_,_,F⟩;exact H _ F
    rintro⟨c,d⟩ F;simp only at F;refine .join (λos:O oB=>os.length<=9*i.toNat+(j+1)/\∀o∈os,NW o/\1<=o.r4) (λk4 H=>.ite (λ_=>.bind (.gE (by decide) (by simp at hj⊢;omega)) λw hw=>H _ ⟨by rw[hw];simp;omega,λo M=>?_⟩) λ_=>H _ ⟨by omega,q2⟩) λos a8=>a7 _ ⟨F,a8.1,a8.2⟩;simp only[hw,X23,X14] at M;rcases M with M|rfl
    ·exact q2 o M
    exact⟨⟨hp,hm,by simp only;omega,by simp only;omega⟩,K.1⟩
   rintro⟨d,os⟩ ⟨F,q1,q2⟩;simp only at F q1 q2;refine .bind (AK F (by omega)) ?_;rintro⟨y,d⟩ ⟨_,_,F⟩;simp only at F;refine .join (λx:oX×O oB=>Dk x.1/\x.2.length<=i.toNat+1/\∀o∈x.2,NW o) (λk4 H=>.ite (λ_=>.bind (AK F (by omega)) ?_) λ_=>H _ ⟨F,by simp only;omega,r2⟩) ?_
   ·rintro⟨z,d⟩ ⟨z1,z2,F⟩;simp only at z1 z2 F;refine .bind (.iX (by simp;omega)) λn hn=>.bind (.gE (by decide) (by simp;omega)) λw hw=>H _ ⟨F,by rw[hw];simp;omega,λo M=>?_⟩;have K:0<=n/\n<=301:=by have:=hn.1;simp only[Wp,Xbf,Xdm] at this;omega
    simp only[hw,X23,X14] at M;rcases M with M|rfl
    ·exact r2 o M
    exact⟨hp,hm,K.1,K.2⟩
   rintro⟨d,Q⟩ ⟨F,s1,V⟩;exact af _ ⟨F,⟨q1,q2⟩,s1,V⟩
  rintro⟨d,os,Q⟩ ⟨F,⟨q1,q2⟩,s1,V⟩;simp only at F q1 q2 s1 V;rw[AN (by omega)];exact ae _ ⟨by simp only;omega,by simp only;omega,F,⟨by simp only;omega,q2⟩,by simp only;omega,V⟩ (by simp only;omega)
 rintro⟨d,os,Q⟩ ⟨F,⟨q1,q2⟩,s1,V⟩;refine .ret ⟨⟨rfl,rfl,⟨rfl,rfl,rfl,rfl,rfl,rfl⟩,⟨aa,ab⟩,rfl,?_,⟨Z,a6⟩,rfl,⟨q1,q2⟩,⟨s1,V⟩⟩,F⟩;have ah :∀x∈fr,x∈([701,202]:O Int):=λx U=>by rw[Y.1] at U;exact List.drop_subset _ _ (Xce U)
 refine⟨by have:=Y.2;simp only;omega,λx U=>?_⟩;have:=ah x U;simp only[Wp,Xbf,Xdm] at this;omega
instance (n:Int) (b:I):Tt (DO n b):=by unfold DO;exact Tt.so
def TP {n:Int}(h:101<=n/\n<=105)(b:I):Ok (DO n b) λa=>a.ok=true:=by
 have:n=101\/n=102\/n=103\/n=104\/n=105:=by omega
 rcases this with rfl|rfl|rfl|rfl|rfl<;>cases b<;>exact⟨_,rfl,by show Addr.ok _=true;kernel_rfl⟩
def Yx {p:fv}(h:Ae p=some true):Cd p:=by obtain⟨b,F,H⟩:=Fg p;rw[h] at F;exact H.1 (X25 F).symm
def Bk (p:fv):Prop:=wO p/\Ae ⟨p.Addr,cond p.Addr.V6 64 24⟩=some true/\∀j:Int,0<=j->j<3->Ae ⟨{ p.Addr with Lo:=(AY ((p.Addr.Lo.toNat:Int)+((AY j).toNat:Int))) },cond p.Addr.V6 128 32⟩=some true
def WI {k:Int}(h:0<=k/\k<8):Ok (DD k) Bk:=by
 have F :∀{Q:Int->Prop},Q 0->Q 1->Q 2->∀j:Int,0<=j->j<3->Q j:=by
  intro Q H J K j M P;have:j=0\/j=1\/j=2:=by omega
  rcases this with rfl|rfl|rfl
  ·exact H
  ·exact J
  exact K
 have:k=0\/k=1\/k=2\/k=3\/k=4\/k=5\/k=6\/k=7:=by omega
 rcases this with rfl|rfl|rfl|rfl|rfl|rfl|rfl|rfl
 ·exact⟨_,rfl,⟨by kernel_rfl,.inl ⟨rfl,rfl⟩⟩,by kernel_rfl,F (by kernel_rfl) (by kernel_rfl) (by kernel_rfl)⟩
 ·exact⟨_,rfl,⟨by kernel_rfl,.inl ⟨rfl,rfl⟩⟩,by kernel_rfl,F (by kernel_rfl) (by kernel_rfl) (by kernel_rfl)⟩
 ·exact⟨_,rfl,⟨by kernel_rfl,.inl ⟨rfl,rfl⟩⟩,by kernel_rfl,F (by kernel_rfl) (by kernel_rfl) (by kernel_rfl)⟩
 ·exact⟨_,rfl,⟨by kernel_rfl,.inl ⟨rfl,rfl⟩⟩,by kernel_rfl,F (by kernel_rfl) (by kernel_rfl) (by kernel_rfl)⟩
 ·exact⟨_,rfl,⟨by kernel_rfl,.inl ⟨rfl,rfl⟩⟩,by kernel_rfl,F (by kernel_rfl) (by kernel_rfl) (by kernel_rfl)⟩
 ·exact⟨_,rfl,⟨by kernel_rfl,.inl ⟨rfl,rfl⟩⟩,by kernel_rfl,F (by kernel_rfl) (by kernel_rfl) (by kernel_rfl)⟩
 ·exact⟨_,rfl,⟨by kernel_rfl,.inr ⟨rfl,rfl⟩⟩,by kernel_rfl,F (by kernel_rfl) (by kernel_rfl) (by kernel_rfl)⟩
 exact⟨_,rfl,⟨by kernel_rfl,.inr ⟨rfl,rfl⟩⟩,by kernel_rfl,F (by kernel_rfl) (by kernel_rfl) (by kernel_rfl)⟩
def HQ {d:oX}(F:Dk d):Ok (Bq d) λr=>Cd r.1/\Dk r.2:=by unfold Bq;refine .bind (AK F (by omega)) ?_;rintro⟨a,d⟩ ⟨M,P,F⟩;dsimp only at M P F⊢;refine .bind (WI ⟨M,P⟩) λp hp=>.bind (AK F (by omega)) ?_;rintro⟨b,d⟩ ⟨b1,b2,F⟩;dsimp only at b1 b2 F⊢;refine .join (λx:oX×fv=>Dk x.1/\Cd x.2) (λk Q=>.ite (λ_=>.join (λv=>v=cond p.Addr.V6 64 24) (λY H=>.ite (λh=>H _ (by rw[h];rfl)) λh=>H _ (by rw[Bool.not_eq_true] at h;rw[h];rfl)) λv K=>Q _ ⟨F,by rw[K];exact Yx hp.2.1⟩) λ_=>?_) λ⟨d,p⟩ F=>.ret ⟨F.2,F.1⟩;refine .join (λx:oX×fv=>Dk x.1/\Cd x.2) (λY H=>.ite (λ_=>.join (λv=>v=cond p.Addr.V6 128 32) (λZ J=>.ite (λh=>J _ (by rw[h];rfl)) λh=>J _ (by rw[Bool.not_eq_true] at h;rw[h];rfl)) λv K=>.bind (AK F (by omega)) ?_) λ_=>H _ ⟨F,hp.1.vO⟩) λ⟨d,p⟩ F=>Q _ F;rintro⟨c,d⟩ ⟨U,V,F⟩;dsimp only at U V;exact H _ ⟨F,by dsimp only;rw[K];exact Yx (hp.2.2 c U V)⟩
def mQ {p:O oF}{n:Nat}(h :∀s∈p,s.n7.length<=n):tg p<=n*p.length:=by
 induction p with
 | nil=>exact Xd9 _
 | cons s t F=>have:=h s (by simp);have:=F λx H=>h x (X19 _ H);rw[ED,X12,Nat.mul_succ];omega
structure tC (a:gH):Prop where
 p:a.Path.length<=1000000
 t:tg a.Path<=1000000
 c:a.fT.length<=1000000
 l:a.n8.length<=1000000
 o:a.lf.length<=1000000
 d :∀u∈a.lf,u.Data.length<=1000000
def tC.yo {a:gH}(h:tC a):vb a:=by have H:=h.p;have J:=h.t;have K:=h.c;have M:=h.l;have P:=h.o;exact⟨by omega,by omega,by omega,by omega,by omega,λu F=>by have:=h.d u F;omega⟩
def ui.x3 {a:gH}(h:ui 1000 a):tC a:=by have H:=mQ h.s;have J:=h.p;have K:=h.c;have M:=h.l;have P:=h.o;exact⟨by omega,by omega,by omega,by omega,by omega,λu F=>by have:=h.d u F;omega⟩
def ui.yo {a:gH}(h:ui 1000 a):vb a:=h.x3.yo
def iw {p:O oF}(h :∀s∈p,KF s=true):p.length<=tg p:=by
 induction p with
 | nil=>exact Xd9 _
 | cons s t H=>have F:=h s (by simp);have K:=H λx J=>h x (X19 _ J);unfold KF at F;rw[X27,Xe] at F;have:=F.1;rw[ED,X12];omega
def tC.of {a:gH}(h:Eh a=true):tC a:=by unfold Eh at h;simp only[X27,Xe] at h;obtain⟨F,_,hp,_,_,_,_,H,J,M⟩:=h;unfold DW at hp;rw[X27,X27,Wo,Xe] at hp;have P:=iw hp.1.1;have Q:=hp.2;have U:=(HZ.1 H).2.2;have V:=(HU.1 J).2.2;unfold EB at F;rw[X27,Wo] at F;refine⟨by omega,by omega,by omega,by omega,by omega,λu K=>?_⟩;have:=F.1 u K;unfold okO at this;simp only[X27,Xe] at this;omega
end Go.AX.Q29
end
