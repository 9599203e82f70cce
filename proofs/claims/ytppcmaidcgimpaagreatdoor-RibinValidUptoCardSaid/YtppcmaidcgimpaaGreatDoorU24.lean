/-
  Texts of one proof, packed.
-/
import Derived.Test.YtppcmaidcgimpaaGreatDoorU23
import Derived.KernelRfl
set_option linter.all false
set_option maxRecDepth 100000
set_option maxHeartbeats 4000000
open List renaming length_map→X10,length_append→X11,length_cons→X12,mem_singleton→X14,getElem?_eq_getElem→X15,getElem?_eq_some_iff→X16,length_drop→X17,length_take→X18,mem_cons_of_mem→X19,length_replicate→X20,length_set→X21,mem_append→X23
open Option.some renaming injEq→X24,inj→X25
open Prod.mk renaming injEq→X26
open Bool renaming and_eq_true→X27
open Option renaming bind→Wb
open Int renaming toNat→Wo,tmod→Xed
open List renaming take→Xbx,drop→Xc2,toArray→Xcc,nil→Xej
open Go renaming maxLen→Xb3
open ByteArray renaming mk→Xc5
section
namespace Go.AX.Q25
open Go Go.AX
def Xi {α:Type}{l:I α}{i:Int}{x:α}(F:0<=i)(h:l[i.toNat]?=some x):mu l i=some x:=by have:=(X16.1 h).1;unfold mu;rw[Wr (by omega),h]
def LL {α:Type}{l:I α}{i:Nat}{x:α}(h:i<l.length):(l.set i x).take (i+1)=l.take i++[x]:=by rw[Xbz,List.take_set_of_le (Xam _),List.getElem?_set_self h];rfl
def cL {p q:I kI}{y z:kI}(hp:p.Pairwise λa b=>xf a b=true)(J :∀x,x∈p↔x∈q)(V:z∈q)(P :∀x∈q,xf z x=false)(F:xf y z=false)(H:y≠z) : (p++[y]).Pairwise (λa b=>xf a b=true)/\∀x,x∈p++[y]↔x∈q++[y]:=by
 refine⟨Xbm.2 ⟨hp,by simp,λx Q w K=>?_⟩,λx=>by rw[X23,X23,J]⟩;rw[X14] at K;subst K;have U:=P x ((J x).1 Q);have M:xf z w=true:=(RD _ _ F).resolve_left H;rcases RD _ _ U with e|e
 ·rw[<- e];exact M
 exact O7 _ _ _ e M
def WG {l:I kI}(hs:l.Pairwise λa b=>xf b a=false)(hl:l.length<=1000000000) : Ok (BE l) λc=>c.Pairwise (λa b=>xf a b=true)/\∀x,x∈c↔x∈l:=by
 have K :∀(k:Nat) (z:kI),l[k]?=some z->∀x∈l.take (k+1),xf z x=false:=by
  intro k z M x hx;obtain⟨i,hi,rfl⟩:=List.mem_iff_getElem.1 hx;rw[X18] at hi;obtain⟨P,rfl⟩:=X16.1 M;rw[Xbe];by_cases e:i=k
  ·subst e;exact Qi _
  exact Xcy.1 hs i k (by omega) P (by omega)
 have Q :∀(k:Nat) (z y:kI),l[k]?=some z->l[k+1]?=some y->xf y z=false:=by intro k z y M hy;obtain⟨P,rfl⟩:=X16.1 M;obtain⟨ab,rfl⟩:=X16.1 hy;exact Xcy.1 hs k (k+1) P ab (by omega)
 have U :∀(k:Nat) (y:kI),l[k]?=some y->l.take (k+1)=l.take k++[y]:=by intro k y M;rw[Xbz,M];rfl
 have H :∀(k:Nat) (z:kI),l[k]?=some z->z∈l.take (k+1):=by intro k z M;rw[U k z M];simp
 unfold BE;refine .ite (λh=>?_) λh=>?_
 ·simp only[Wd] at h;refine .ret ⟨?_,λ_=>Iff.rfl⟩;match l,h with
  | [],_=>exact .nil
  | [x],_=>simp
  | x::y::t,h=>simp at h;omega
 simp only[Wd] at h;refine .join (λ_=>l.Pairwise λa b=>xf a b=true) (λk1 P=>?_) λ_ h=>.ret ⟨h,λ_=>Iff.rfl⟩;refine .wA (λv:Int=>1<=v/\v<=l.length/\(l.take v.toNat).Pairwise λa b=>xf a b=true) (λv=>(l.length-v).toNat) ⟨by omega,by omega,?_⟩ (BW (by omega)) λnext v hv ae=>?_
 ·match l,h with
  | x::t,_=>simp
  | [],h=>simp at h
 obtain⟨v1,v2,v3⟩:=hv;refine .ite (λaf=>?_) λag=>?_;rotate_left
 ·simp only[Wd] at ag;refine P () ?_;have:v.toNat=l.length:=by omega
  rw[this,Xcj] at v3;exact v3
 simp only[Wd] at af;obtain⟨n,rfl⟩ :∃n:Nat,v=((n+1:Nat):Int):=⟨(v-1).toNat,by omega⟩;have hn:n+1<l.length:=by omega
 have gy:l[n+1]?=some l[n+1]:=X15 hn;have gz:l[n]?=some l[n]:=X15 (by omega);have e1:mu l ((n+1:Nat):Int)=some l[n+1]:=BY hn;have e2:mu l (AO (((n+1:Nat):Int)-1))=some l[n]:=by rw[AG (by omega),show ((n+1:Nat):Int)-1=(n:Int) by omega];exact BY (by omega)
 refine .join (λ_=>l[n+1]≠l[n]) (λk4 ah=>?_) λ_ F=>?_;rotate_left
 ·rw[AG (by omega)];refine ae _ ⟨by omega,by omega,?_⟩ (by omega);have:=(cL (p:=l.take (n+1)) (q:=l.take (n+1)) v3 (λ_=>Iff.rfl) (H n _ gz) (K n _ gz) (Q n _ _ gz gy) F).1;rw[<- U _ _ gy] at this;have e:(((n+1:Nat):Int)+1).toNat=n+1+1:=by omega
  rw[e];exact this
 rw[e1,AA,e2,AA];refine .ite (λa6=>?_) λF=>ah _ λe=>F ((kI.vR _ _).2 e);have a6:=(kI.vR _ _).1 a6;refine .bind (Ok.wQ (by omega)) λ_ _=>?_;refine .join (λp:Int×I kI=>0<=p.1/\p.1<=l.length/\p.2.length=l.length/\(p.2.take p.1.toNat).Pairwise (λa b=>xf a b=true)/\∀x,x∈p.2.take p.1.toNat↔x∈l) (λk7 ai=>?_) ?_
 ·refine .wA (λp:Int×Int×I kI=>0<=p.1/\1<=p.2.1/\p.1<=(n+1:Nat)+p.2.1-1/\(n+1:Nat)+p.2.1<=l.length/\p.2.2.length=l.length/\(∀j:Nat,p.1<=j->p.2.2[j]?=l[j]?)/\ (p.2.2.take p.1.toNat).Pairwise (λa b=>xf a b=true)/\∀x,x∈p.2.2.take p.1.toNat↔x∈l.take ((n+1:Nat)+p.2.1).toNat) (λp=>(l.length-p.2.1).toNat) ⟨by dsimp only;omega,by dsimp only;omega,by dsimp only;omega,by dsimp only;omega,rfl,λ_ _=>rfl,v3,λx=>?_⟩ (BW (by dsimp only;omega)) ?_
  ·dsimp only;have e:(((n+1:Nat):Int)+1).toNat=n+1+1:=by omega
   rw[e,U _ _ gy,Xaa];constructor
   ·exact λh=>Xcr _ h
   intro h;rcases X23.1 h with h|h
   ·exact h
   rw[X14] at h;rw[h,a6];exact H n _ gz
  rintro next ⟨i,k,a⟩ ⟨q1,q2,q3,q4,q5,q6,q7,q8⟩ a7
  dsimp only at q1 q2 q3 q4 q5 q6 q7 q8⊢;refine .ite (λM=>?_) λM=>?_;rotate_left
  ·simp only[Wd] at M;refine ai (i,a) ⟨q1,by dsimp only;omega,q5,q7,λx=>?_⟩;dsimp only;rw[q8 x,show ((n+1:Nat)+k).toNat=l.length by omega,Xcj]
  simp only[Wd] at M;obtain⟨m,rfl⟩ :∃m:Nat,k=((m+1:Nat):Int):=⟨(k-1).toNat,by omega⟩;have a8:n+1+(m+1)<l.length:=by omega
  have Y:l[n+1+(m+1)]?=some l[n+1+(m+1)]:=X15 a8;have V:l[n+1+m]?=some l[n+1+m]:=X15 (by omega);have ge :∀j:Nat,n+1+j<l.length->i<=((n+1+j:Nat):Int)->∀y,l[n+1+j]?=some y->mu (Xbx (Wo (l.length:Int)-Wo ((n+1:Nat):Int)) (Xc2 (Wo ((n+1:Nat):Int)) a)) (j:Int)=some y:=by intro j hj aj y hy;refine Xi (by omega) ?_;rw[Xaa,Xaa,Xaa,List.getElem?_take_of_lt (by omega),Xeu,q6 _ aj];exact hy
  have r1:=ge (m+1) a8 (by omega) _ Y;have r2:=ge m (by omega) (by omega) _ V;rw[r1,AA,AG (x:=((m+1:Nat):Int)-1) (by omega),show ((m+1:Nat):Int)-1=(m:Int) by omega,r2,AA];refine .join (λp:Int×I kI=>0<=p.1/\p.1<=(n+1:Nat)+((m+1:Nat):Int)/\p.2.length=l.length/\(∀j:Nat,p.1<=j->p.2[j]?=l[j]?)/\ (p.2.take p.1.toNat).Pairwise (λa b=>xf a b=true)/\∀x,x∈p.2.take p.1.toNat↔x∈l.take (n+1+(m+1)+1)) (λak a1=>?_) ?_
  ·have et:((n+1:Nat)+((m+1:Nat):Int)).toNat=n+1+(m+1):=by omega
   rw[et] at q8;refine .ite (λF=>?_) λJ=>?_
   ·have F:l[n+1+(m+1)]≠l[n+1+m]:=λe=>by rw[(kI.vR _ _).2 e] at F;simp at F
    rw[AA];have aa:i.toNat<a.length:=by omega
    refine .bind (Ok.mu (by omega)) λ_ _=>.bind (Ok.wj (by omega)) λa' Z=>a1 _ ?_;rw[AG (by omega)];have ei:(i+1).toNat=i.toNat+1:=by omega
    have hc:=cL (y:=l[n+1+(m+1)]) (z:=l[n+1+m]) q7 q8 (by rw[show n+1+(m+1)=n+1+m+1 by omega];exact H _ _ V) (by rw[show n+1+(m+1)=n+1+m+1 by omega];exact K _ _ V) (Q _ _ _ V Y) F;refine⟨by dsimp only;omega,by dsimp only;omega,Z.2.trans q5,λj hj=>?_,?_,?_⟩
    ·dsimp only at hj⊢;rw[Z.1,Xde (by omega)];exact q6 j (by omega)
    ·dsimp only;rw[ei,Z.1,LL aa];exact hc.1
    dsimp only;rw[ei,Z.1,LL aa,U _ _ Y];exact hc.2
   have J:l[n+1+(m+1)]=l[n+1+m]:=by
    refine (kI.vR _ _).1 ?_;cases h:kI.wa l[n+1+(m+1)] l[n+1+m]
    ·rw[h] at J;simp at J
    rfl
   refine a1 _ ⟨q1,by dsimp only;omega,q5,q6,q7,λx=>?_⟩;dsimp only;rw[q8 x,U _ _ Y];constructor
   ·exact λh=>Xcr _ h
   intro h;rcases X23.1 h with h|h
   ·exact h
   rw[X14] at h;rw[h,J];exact H _ _ V
  rintro⟨i',a'⟩ ⟨p1,p2,p3,p4,p5,p6⟩;dsimp only at p1 p2 p3 p4 p5 p6⊢;rw[AG (by omega)];refine a7 _ ⟨p1,by dsimp only;omega,by dsimp only;omega,by dsimp only;omega,p3,p4,p5,λx=>?_⟩ (by dsimp only;omega);dsimp only;rw[p6 x,show ((n+1:Nat)+(((m+1:Nat):Int)+1)).toNat=n+1+(m+1)+1 by omega]
 rintro⟨i,a⟩ ⟨p1,p2,p3,p4,p5⟩;dsimp only at p1 p2 p3 p4 p5⊢;refine .bind (Ok.wQ (by omega)) λ_ _=>.bind (Ok.part ⟨by omega,by omega,by simp;omega⟩) λc hc=>.ret ?_;have:c=a.take i.toNat:=by rw[hc.1];simp only[Int.toNat_zero,List.drop_zero,Nat.sub_zero];rw[Xak,List.take_append_of_le_length (by simp;omega),List.take_take,Nat.min_self]
 rw[this];exact⟨p4,p5⟩
def Wc {l:I kI}(J:l.length<=1000000):Ok (I1 l) λr=>r.Pairwise (λa b=>xf a b=true)/\∀x,x∈r↔x∈l:=by unfold I1 A6;rw[AD (by decide) (by simp;omega),AA,AA,Xay];refine .bind (dP (by omega)) λv2 F=>.bind (WG F.2 (by rw[F.1.length_eq];omega)) λK H=>.ret ⟨H.1,λx=>(H.2 x).trans F.1.mem_iff⟩
def Xt {l:I kI}(hl:l.length<=1000000):Ok (Hl l) λr=>r.Pairwise (λa b=>xf a b=true)/\∀x,x∈r↔x∈l:=by
 unfold Hl;refine .join (λr=>r.Pairwise (λa b=>xf a b=true)/\∀x,x∈r↔x∈l) (λk H=>?_) λr hr=>.ret hr;refine .xL (λi v=>v.Pairwise (λa b=>xf a b=true)/\(∀x,x∈v↔x∈l.take i)/\v.length<=i) ⟨.nil,by simp,by simp⟩ (λv Y=>H v ⟨Y.1,by simpa using Y.2.1⟩) λnext x i v Z hI hn=>?_;obtain⟨P,Q,i3⟩:=hI;have a6:=(X16.1 Z).1;have J :∀y,y∈l.take (i+1)↔y∈l.take i\/y=x:=by intro y;rw[Xbz,Z];simp
 refine .join (λM=>M.Pairwise (λa b=>xf a b=true)/\(∀x,x∈M↔x∈l.take (i+1))/\M.length<=i+1) (λk6 K=>?_) λM h=>hn _ h;have a1:=Dp (xf · x) v;rw[pH (p:=(xf · x)) (λy k4=>Wb (Jn y x) λU=>k4 (cond true (decide (U<0)) false)) (by omega) (λy _ k=>by rw[YQ];rfl)];have hh:=RH O7 Qi (x:=x) P;obtain⟨t1,t2⟩:=wH (xf · x) v;refine .join (λc=>c=true↔x∈v) (λa7 F=>?_) λc hc=>.ite (λh=>?_) λh=>?_
 ·by_cases H:(v.takeWhile (xf · x)).length<v.length
  ·rw[Wr (by simpa using H),BY H,AA];refine F _ ?_;rw[hh,X15 H];simp only[Xcq,kI.vR,X24]
  rw[Wm (by simpa using H)];refine F _ ?_;rw[hh,Xc1 (by omega)];simp
 ·refine K _ ⟨P,λy=>?_,by omega⟩;rw[J,Q y];refine⟨.inl,λq=>q.elim id λe=>?_⟩;rw[e];exact (Q x).1 (hc.1 h)
 have V:x∉v:=λq=>h (hc.2 q);simp only[Xaa,Int.toNat_zero,List.drop_zero,Nat.sub_zero];refine .bind (Ok.wQ (by omega)) λ_ _=>.bind (Ok.gN (by decide) (by simp;omega)) λ_ _=>.bind (Ok.gN (by decide) (by simp;omega)) λa ha=>.bind (Ok.wQ (by omega)) λ_ _=>.bind (Ok.gN (by decide) (by rw[ha];simp;omega)) λb hb=>K _ ?_;have e:b=Kz xf v x:=by
  have e2:(Xc2 (v.takeWhile (xf · x)).length v).take (v.length-(v.takeWhile (xf · x)).length)=v.dropWhile (xf · x):=by rw[List.take_of_length_le (by simp),t2]
  rw[hb,ha,e2,t1];unfold Kz;simp
 rw[e];refine⟨Np O7 RD P V,λy=>?_,by rw[Hw];omega⟩;rw[Fq,J,Q]
def dM {l m:I kI}(F:l.Pairwise λa b=>xf a b=true)(H:m.Pairwise λa b=>xf a b=true)(h :∀x,x∈l↔x∈m):l=m:=
 J3 (lt:=λa b=>xf a b=true) (λa=>by simp[Qi]) O7 F H h
def yg (p q:fI):C:=decide (q.vg≥p.vg)&&Cr p q.Addr
def Ep (p q:fI):Br p q=some (yg p q):=by
 unfold Br yg;rw[AC,KC,AA,Xcq];by_cases h:q.vg≥p.vg
 ·rw[Wr (by simpa using h)];simp[h]
 rw[Wm (by simpa using h)];simp[h]
def FQ {p q:fI}(h:q.Addr.ok=true):Bj p q=some (yg p q):=by
 unfold Bj yg;rw[AC,Q9 h,AA,Xcq];by_cases h:q.vg≥p.vg
 ·rw[Wr (by simpa using h)];simp[h]
 rw[Wm (by simpa using h)];simp[h]
def pc (p:fI)(a:Int)(o:kI):C:=o.tS==a&&yg o.fI p
def Ww (L:I kI)(p:fI)(a:Int):C:=L.any λo=>pc p a o&&decide (p.vg<=o.Max)
def er (L:I kI)(p:fI)(a:Int):Int:=
 cond (CU p) (cond (Ww L p a) 0 (cond (L.any (pc p a)) 9 (cond (L.any λo=>o.tS==a) 7 11))) 1
def Nh (p:fI)(a:Int)(Y:kI->O C)(F:Int->O Int)(J:kI)(i6:Nat)(K:Int):O Int:=
 AB (τ:=Int) (λU=>if (J.tS !=a)=true then U K else Wb (Y J) λZ=>AB (τ:=Int) (λV=>if (!Z)=true then AB (τ:=Int) (λH=>if (K==11)=true then H 7 else H K) (λM=>V M) else if decide (J.Max<p.vg)=true then V 9 else some 0) (λP=>U P)) (λQ=>F Q)
def Zb {p:fI}{a:Int}{H:kI->O C}{x:kI}(J:H x=some (yg x.fI p))(next:Int->O Int)(i:Nat)(v:Int) : Nh p a H next x i v=cond (pc p a x) (cond (decide (p.vg<=x.Max)) (some 0) (next 9)) (cond (x.tS==a) (next (if v=11 then 7 else v)) (next v)):=by
 unfold Nh;rw[J];show (if (x.tS !=a)=true then next v else if (!(yg x.fI p))=true then (if (v==11)=true then next 7 else next v) else if decide (x.Max<p.vg)=true then next 9 else some 0)=_;unfold pc;by_cases h1:x.tS=a
 ·cases yg x.fI p
  ·by_cases F:v=11<;>simp[h1,F]
  by_cases F:x.Max<p.vg
  ·have:¬ p.vg<=x.Max:=by omega
   simp[h1,F,this]
  have:p.vg<=x.Max:=by omega
  simp[h1,F,this]
 have K:(x.tS==a)=false:=by simpa using h1
 rw[K];simp[h1]
def Zc (p:fI)(a:Int)(F:kI->O C)(J :∀x,F x=some (yg x.fI p)) :∀(l:I kI) (i:Nat) (v:Int), AI (σ:=Int) (λK=>some K) (Nh p a F) l i v
   = some (cond (Ww l p a) 0 (cond (l.any (pc p a)) 9 (cond (l.any λo=>o.tS==a) (if v=11 then 7 else v) v)))
 | [],i,v=>rfl
 | x::t,i,v=>by
  show Nh p a F (AI (λK=>some K) (Nh p a F) t (i+1)) x i v=_;rw[Zb (J x)];have e1:Ww (x::t) p a=((pc p a x&&decide (p.vg<=x.Max)) || Ww t p a):=rfl;rw[e1,Xdz,Xdz,Zc p a F J t (i+1),Zc p a F J t (i+1),Zc p a F J t (i+1)];have hp:pc p a x=true->(x.tS==a)=true:=by intro h;unfold pc at h;rw[X27] at h;exact h.1
  by_cases H:v=11
  ·subst H;revert hp;cases pc p a x<;>cases decide (p.vg<=x.Max)<;>cases (x.tS==a)<;>cases Ww t p a<;>cases t.any (pc p a)<;>cases (t.any λo=>o.tS==a)<;>simp
  revert hp;simp only[H,Xe7];cases pc p a x<;>cases decide (p.vg<=x.Max)<;>cases (x.tS==a)<;>cases Ww t p a<;>cases t.any (pc p a)<;>cases (t.any λo=>o.tS==a)<;>simp
def VS (L:I kI)(p:fI)(a:Int):HK L p a=some (er L p a):=by
 unfold HK er;rw[DG,AA];cases CU p
 ·rfl
 rw[Wm (by simp),AC];exact Zc p a _ (λx=>Ep _ _) L 0 11
def Rk (L:I kI)(p:fI)(a:Int):DZ L p a=some (er L p a):=by
 unfold DZ er;rw[Du,AA];cases hg:CU p
 ·rfl
 rw[Wm (by simp),AC];exact Zc p a _ (λx=>FQ ((Jj p).1 hg).1) L 0 11
def JF (l:I Int)(n:Int):Aw l n=some (l.any λx=>n==x):=by unfold Aw ES;exact M5 (f:=λx=>some (n==x)) λ_ _=>rfl
def has_eq (l:I Int)(n:Int):IT l n=some (l.any λx=>n==x):=by
 unfold IT;rw[AC];have key :∀(l:I Int) (i:Nat),AI (σ:=Unit) (λ_=>some false) (λF H K _=>if (H==n)=true then some true else F ()) l i ()=some (l.any λx=>n==x):=by
  intro l;induction l with
  | nil=>intro i;rfl
  | cons x t J=>intro i;show (if (x==n)=true then some true else AI _ _ t (i+1) ())=_;rw[J,Xdz,show (n==x)=(x==n) from Bool.beq_comm];cases (x==n)<;>rfl
 exact key l 0
def own (s:I Int)(o:kI):C:=s.any λx=>o.tS==x
def RB (o:kI)(s:I Int):Jh o s=some (!own s o,s):=by unfold Jh own;rw[JF,AA]
def YI {l:I kI}{s:I Int}(hl:l.length<=1000000):Ok (Ak l s) λr=>(∀x,x∈r.1↔x∈l/\own s x=true)/\r.1.length<=l.length:=by
 have J :∀(k:Nat) (y:kI),l[k]?=some y->l.take (k+1)=l.take k++[y]:=by intro k y P;rw[Xbz,P];rfl
 unfold Ak;have hi:Ok (Ag l s) λr=>r.2=s/\((r.1=-1/\∀x∈l,own s x=true) \/∃k:Nat,r.1=(k:Int)/\k<l.length/\(∀x∈l.take k,own s x=true)/\∀x,l[k]?=some x->own s x=false):=by
  unfold Ag;refine .join (λv=>v=s/\∀x∈l,own s x=true) (λk P=>?_) λv F=>.ret ⟨F.1,.inl ⟨rfl,F.2⟩⟩;refine .xL (λi v=>v=s/\∀x∈l.take i,own s x=true) ⟨rfl,by simp⟩ (λv F=>P v ⟨F.1,by simpa using F.2⟩) λnext x i v hx F hn=>?_;obtain⟨rfl,F⟩:=F;rw[RB,AA];dsimp only;refine .ite (λh=>.ret ⟨rfl,.inr ⟨i,rfl,(X16.1 hx).1,F,λy H=>?_⟩⟩) λh=>hn _ ⟨rfl,λy H=>?_⟩
  ·rw[hx] at H;cases H;simpa using h
  rw[J _ _ hx,X23] at H;rcases H with H|H
  ·exact F y H
  rw[X14] at H;rw[H];simpa using h
 refine .bind hi ?_;rintro⟨v1,v2⟩ ⟨h0,h⟩;dsimp only at h0 h⊢;subst h0;rcases h with ⟨rfl,h⟩|⟨k,rfl,P,h1,h2⟩
 ·rw[Wr (by simp)];exact .ret ⟨λx=>⟨λq=>⟨q,h x q⟩,λq=>q.1⟩,Xam _⟩
 rw[Wm (by simp)];have gk:l[k]?=some l[k]:=X15 P;refine .join (λp:Int×I kI×I Int=>0<=p.1/\p.1<=l.length/\p.2.1.length=l.length/\∀x,x∈p.2.1.take p.1.toNat↔x∈l/\own v2 x=true) (λk3 a1=>?_) ?_
 ·refine .wA (λp:Int×Int×I kI×I Int=>0<=p.1/\p.1<=p.2.1/\p.2.1<=l.length/\p.2.2.1.length=l.length/\p.2.2.2=v2/\(∀j:Nat,p.2.1<=j->p.2.2.1[j]?=l[j]?)/\∀x,x∈p.2.2.1.take p.1.toNat↔x∈l.take p.2.1.toNat/\own v2 x=true)
   (λp=>(l.length-p.2.1).toNat) ⟨Xc4 k,by dsimp only;rw[AG (by omega)];omega,by dsimp only;rw[AG (by omega)];omega,rfl,rfl,λ_ _=>rfl,λx=>?_⟩ (BW (by dsimp only;rw[AG (by omega)];omega)) ?_
  ·dsimp only;rw[AG (by omega),show ((k:Int)+1).toNat=k+1 by omega,J _ _ gk,Xaa,X23,X14];constructor
   ·exact λq=>⟨.inl q,h1 x q⟩
   rintro⟨q|q,q2⟩
   ·exact q
   rw[q,h2 _ gk] at q2;simp at q2
  rintro next ⟨i,j,a,Q⟩ ⟨q1,q2,q3,q4,q5,q6,q7⟩ a6
  dsimp only at q1 q2 q3 q4 q5 q6 q7⊢;subst q5;refine .ite (λU=>?_) λU=>?_;rotate_left
  ·simp only[Wd] at U;refine a1 (i,a,Q) ⟨q1,by dsimp only;omega,q4,λx=>?_⟩;dsimp only;rw[q7 x,show j.toNat=l.length by omega,Xcj]
  simp only[Wd] at U;obtain⟨m,rfl⟩ :∃m:Nat,j=(m:Int):=⟨j.toNat,by omega⟩;have gm:l[m]?=some l[m]:=X15 (by omega);have ga:mu a (m:Int)=some l[m]:=Xi (by omega) (by rw[Xaa,q6 m (by omega)];exact gm);rw[ga,AA,RB,AA];dsimp only;refine .join (λp:Int×I kI=>0<=p.1/\p.1<=(m:Int)+1/\p.2.length=l.length/\(∀j:Nat,(m:Int)+1<=j->p.2[j]?=l[j]?)/\∀x,x∈p.2.take p.1.toNat↔x∈l.take (m+1)/\own Q x=true) (λa8 K=>?_) ?_
  ·refine .ite (λhd=>?_) λhd=>K (i,a) ⟨q1,by dsimp only;omega,q4,λj U=>q6 j (by omega),λx=>?_⟩
   ·have a7:i.toNat<a.length:=by omega
    refine .bind (Ok.mu (by omega)) λ_ _=>.bind (Ok.wj (by omega)) λa' M=>K _ ?_;rw[AG (by omega)];refine⟨by dsimp only;omega,by dsimp only;omega,M.2.trans q4,λj U=>?_,λx=>?_⟩
    ·dsimp only;rw[M.1,Xde (by omega)];exact q6 j (by omega)
    dsimp only;rw[show (i+1).toNat=i.toNat+1 by omega,M.1,LL a7,J _ _ gm,X23,X23,q7 x,Xaa,X14];have:own Q l[m]=true:=by simpa using hd
    constructor
    ·rintro (q|q)
     ·exact⟨.inl q.1,q.2⟩
     exact⟨.inr q,by rw[q];exact this⟩
    rintro⟨q|q,q2⟩
    ·exact .inl ⟨q,q2⟩
    exact .inr q
   dsimp only;rw[J _ _ gm,X23,q7 x,Xaa,X14];have:own Q l[m]=false:=by simpa using hd
   constructor
   ·exact λq=>⟨.inl q.1,q.2⟩
   rintro⟨q|q,q2⟩
   ·exact⟨q,q2⟩
   rw[q,this] at q2;simp at q2
  rintro⟨i',a'⟩ ⟨Y,p2,Z,V,p5⟩;dsimp only at Y p2 Z V p5⊢;rw[AG (by omega)];refine a6 _ ⟨Y,by dsimp only;omega,by dsimp only;omega,Z,rfl,V,λx=>?_⟩ (by dsimp only;omega);dsimp only;rw[p5 x,show ((m:Int)+1).toNat=m+1 by omega]
 rintro⟨i,a,Q⟩ ⟨Y,p2,Z,V⟩;dsimp only at Y p2 Z V⊢;refine .bind (Ok.wQ (by omega)) λ_ _=>.bind (Ok.part ⟨by omega,by omega,by simp;omega⟩) λc hc=>.ret ?_;have:c=a.take i.toNat:=by rw[hc.1];simp only[Int.toNat_zero,List.drop_zero,Nat.sub_zero];rw[Xak,List.take_append_of_le_length (by simp;omega),List.take_take,Nat.min_self]
 dsimp only;rw[this];exact⟨V,by simp;omega⟩
def iU {r:we}{s:I Int}(J:r.pk.length<=1000000):Ok (MZ r s) λl=>l.Pairwise (λa b=>xf a b=true)/\∀x,x∈l↔x∈r.pk/\own s x=true:=by unfold MZ A6;rw[AD (by decide) (by simp;omega),AA,AA,Xay];refine .bind (YI J) ?_;rintro⟨a,b⟩ ⟨F,K⟩;dsimp only at F K⊢;exact .bind (Wc (by omega)) λv H=>.ret ⟨H.1,λx=>(H.2 x).trans (F x)⟩
def Tj {r:we}{s:I Int}(V:r.pk.length<=1000000):Ok (If r s) λl=>l.Pairwise (λa b=>xf a b=true)/\∀x,x∈l↔x∈r.pk/\own s x=true:=by
 unfold If;refine .join (λv=>(∀x,x∈v↔x∈r.pk/\own s x=true)/\v.length<=r.pk.length) (λk P=>?_) λv F=>.bind (Xt (by omega)) λw H=>.ret ⟨H.1,λx=>(H.2 x).trans (F.1 x)⟩;refine .xL (λi v=>(∀x,x∈v↔x∈r.pk.take i/\own s x=true)/\v.length<=i) ⟨by simp,by simp⟩ (λv F=>P v ⟨by simpa using F.1,F.2⟩) λnext x i v M F Q=>?_;have J:r.pk.take (i+1)=r.pk.take i++[x]:=by rw[Xbz,M];rfl
 have U:=(X16.1 M).1;rw[has_eq,AA];refine .join (λv=>(∀x,x∈v↔x∈r.pk.take (i+1)/\own s x=true)/\v.length<=i+1) (λY K=>.ite (λh=>?_) λh=>K _ ⟨λy=>?_,by omega⟩) λZ h=>Q _ h
 ·have h:own s x=true:=h;refine .bind (Ok.gN (by decide) (by simp;omega)) λw H=>K _ ⟨λy=>?_,by rw[H];simp;omega⟩;rw[H,J,X23,X23,F.1 y,X14];constructor
  ·rintro (q|q)
   ·exact⟨.inl q.1,q.2⟩
   exact⟨.inr q,by rw[q];exact h⟩
  rintro⟨q|q,q2⟩
  ·exact .inl ⟨q,q2⟩
  exact .inr q
 have h:own s x=false:=Bool.eq_false_iff.2 h;rw[J,X23,F.1 y,X14];constructor
 ·exact λq=>⟨.inl q.1,q.2⟩
 rintro⟨q|q,q2⟩
 ·exact⟨q,q2⟩
 rw[q,h] at q2;simp at q2
def lG {r:we}{s:I Int}(F:r.pk.length<=1000000) :∃l,MZ r s=some l/\If r s=some l/\∀x,x∈l↔x∈r.pk/\own s x=true:=by obtain⟨a,J,K,H⟩:=iU (s:=s) F;obtain⟨b,M,P,Q⟩:=Tj (s:=s) F;have:=dM K P λx=>(H x).trans (Q x).symm;subst this;exact⟨a,J,M,H⟩
def o7 {L:I Set}(h:Mod L){n:T}{a:I Int}{m:I T}(e:Cq L n a m):a.length<=4096:=by
 have key :∀(l:I Set),(∀s∈l,s.o3.length<=64)->(l.flatMap (·.o3)).length<=64*l.length:=by
  intro l;induction l with
  | nil=>intro _;simp
  | cons x t K=>intro F;have:=K λs H=>F s (X19 _ H);have:=F x (by simp);simp only[Xaw,X11,X12];omega
 have P:=key L h.a;have Q:=h.n;have J:a.Nodup:=e.pa.imp λ{x y} h e=>by rw[e,X9] at h;simp at h
 have:=Lr J (m:=L.flatMap (·.o3)) λx F=>by obtain⟨s,H,_,M⟩:=(e.am x).1 F;exact Xdw.2 ⟨s,H,M⟩
 omega
def UU {r:we}{h:Int}{n:T}{p:fI}{o:Int}(K :∀s∈r.ph,LD s)(Y:n.size<=Xb3) :∃v,Dl r h n p o=some v/\DJ r h n p o=some v:=by
 suffices hs:Ok (Dl r h n p o) λv=>DJ r h n p o=some v by obtain⟨v,h1,h2⟩:=hs;exact⟨v,h1,h2⟩
 unfold Dl DJ;rw[JW K,Hj K,AA,AA];cases P:PU r
 ·exact .ret rfl
 rw[Wm (by simp),Wm (by simp),AC,AC];obtain⟨_,_,_,a1⟩:=VC.1 P;have key :∀v:I Int,Ok (Wb (Aw v o) λQ=>if (!Q)=true then some 17 else Wb (MZ r v) λU=>Wb (HK U p o) λF=>some F)
   λw=>(Wb (IT v o) λQ=>if (!Q)=true then some 17 else Wb (If r v) λU=>Wb (DZ U p o) λF=>some F)=some w:=by
  intro v;obtain⟨l,e1,e2,_⟩:=lG (r:=r) (s:=v) (by omega);rw[JF,has_eq,e1,e2];simp only[AA,VS,Rk];cases (v.any λx=>o==x)
  ·exact .ret rfl
  exact .ret rfl
 by_cases he:(!(n.toList==(Xc5 (Xcc Xej)).toList))=true
 ·rw[Wr he,Wr he];obtain⟨a,m,e,e1,e2⟩:=nC K Y;rw[e1,e2,AA,AA];dsimp only;by_cases M:(e !=0)=true
  ·rw[Wr M,Wr M];exact .ret rfl
  rw[Wm M,Wm M];have ha:a.length<=1000000:=by
   obtain⟨Z,J⟩:=Za P;obtain⟨⟨a',m',e'⟩,V,H⟩:=Ll Z K Y J P;rw[e1] at V;simp only[X24,X26] at V;obtain⟨rfl,rfl,rfl⟩:=V;rcases H with ⟨_,H⟩|⟨_,_,_,H⟩
   ·simp only[X26] at H;rw[H.1];simp
   have:=o7 Z H;simp only at this;omega
  rw[AD (by decide) (by simp;omega),AA,AA];exact key _
 rw[Wm he,Wm he];exact key _
def E4 {v n:Int}(K:1<=n/\n<=1000000000):Ok (FR v n) λr=>0<=r/\r<n:=by
 unfold FR;have M:=Int.tmod_lt_of_pos v (show 0<n by omega);have P:-n<Xed v n:=by have:=Int.lt_tmod_of_pos v (show 0<n by omega);exact this
 refine .bind (.wQ (by omega)) λ_ _=>.join (λr=>0<=r/\r<n) (λk H=>.ite (λF=>H _ ?_) λF=>H _ ?_) λr J=>.ret J
 ·simp only[Wd] at F;rw[AG (by omega)];omega
 simp only[Wd] at F;omega
def AH {d:r9}{n:Int}(J:Dk d)(K:1<=n/\n<=1000000000):Ok (AL d n) λr=>0<=r.1/\r.1<n/\Dk r.2:=by
 obtain⟨M,F⟩:=J;unfold AL;refine .ite (λ_=>.ret ⟨by simp only;omega,by simp only;omega,M,F⟩) λP=>?_;simp only[Wd] at P;have e1:AO (d.At+1)=d.At+1:=AG (by omega);have e2:AO (d.At+1-1)=d.At:=by rw[AG (by omega)];omega
 rw[e1,e2];exact .bind (.mu (by omega)) λv _=>.bind (E4 K) λr H=>.ret ⟨H.1,H.2,by simp only;omega,F⟩
def Oy {k:Int}(h:0<=k/\k<8):Ok (G3 k) Er:=by
 have:k=0\/k=1\/k=2\/k=3\/k=4\/k=5\/k=6\/k=7:=by omega
 rcases this with rfl|rfl|rfl|rfl|rfl|rfl|rfl|rfl
 ·exact⟨_,rfl,by kernel_rfl,.inl ⟨rfl,rfl⟩⟩
 ·exact⟨_,rfl,by kernel_rfl,.inl ⟨rfl,rfl⟩⟩
 ·exact⟨_,rfl,by kernel_rfl,.inl ⟨rfl,rfl⟩⟩
 ·exact⟨_,rfl,by kernel_rfl,.inl ⟨rfl,rfl⟩⟩
 ·exact⟨_,rfl,by kernel_rfl,.inl ⟨rfl,rfl⟩⟩
 ·exact⟨_,rfl,by kernel_rfl,.inl ⟨rfl,rfl⟩⟩
 ·exact⟨_,rfl,by kernel_rfl,.inr ⟨rfl,rfl⟩⟩
 exact⟨_,rfl,by kernel_rfl,.inr ⟨rfl,rfl⟩⟩
def Rl (o:kI):Prop:=Er o.fI/\(o.Max=24/\o.fI.Addr.V6=false\/o.Max=64/\o.fI.Addr.V6=true)/\0<=o.tS/\o.tS<=301
structure MF (f:vV):Prop where
 own:f.yM=99
 DH:f.wF=[⟨⟨false,0,3221225984⟩,24⟩]
 Lf:f.xu=8/\f.tb=24/\f.xr=19/\f.tv=64/\f.wW=25/\f.wY=65
 Hb:2<=f.xl/\f.xl<=8
 Hs:f.vh=[⟨64512,65534⟩]
 free:f.wm.length<=2/\∀x∈f.wm,1<=x/\x<=1000
 Mf:f.vt.length<=1/\∀p∈f.vt,Er p
 zD:f.we.ph=[⟨sq,[101,102,103,104,105,201,202,203,301],[]⟩,⟨su,[201],[]⟩]
 gL:f.we.pk.length<=72/\∀o∈f.we.pk,Rl o/\1<=o.tS
 DE:f.tF.length<=8/\∀o∈f.tF,Rl o
def N9 {d:r9}(F:Dk d):Ok (Eo d) λr=>MF r.1/\Dk r.2:=by
 unfold Eo;refine .bind (AH F (by omega)) ?_;rintro⟨a,d⟩ ⟨a1,a2,F⟩;simp only at a1 a2 F;refine .bind (.part ⟨by omega,by omega,by simp;omega⟩) λfr Y=>.bind (AH F (by omega)) ?_;rintro⟨b,d⟩ ⟨b1,b2,F⟩;simp only at F;refine .join (λx:r9×I fI=>Dk x.1/\x.2.length<=1/\∀p∈x.2,Er p) (λk P=>.ite (λ_=>.bind (AH F (by omega)) ?_) λ_=>P _ ⟨F,by simp,by simp⟩) ?_
 ·rintro⟨c,d⟩ ⟨c1,c2,F⟩;exact .bind (Oy ⟨c1,c2⟩) λp hp=>P _ ⟨F,by simp,by simpa using hp⟩
 rintro⟨d,bg⟩ ⟨F,Z,a6⟩;simp only at F Z a6;refine .bind (AH F (by omega)) ?_;rintro⟨e,d⟩ ⟨_,_,F⟩;refine .join (λx:r9×Int=>Dk x.1/\2<=x.2/\x.2<=8) (λk P=>.ite (λ_=>.bind (AH F (by omega)) ?_) λ_=>P _ ⟨F,by simp,by simp⟩) ?_
 ·rintro⟨c,d⟩ ⟨c1,c2,F⟩;simp only at c1 c2;exact P _ ⟨F,by simp only;rw[AG (by omega)];omega,by simp only;rw[AG (by omega)];omega⟩
 rintro⟨d,hp⟩ ⟨F,aa,ab⟩;refine .bind (AH F (by omega)) ?_;rintro⟨op,d⟩ ⟨_,_,F⟩;refine .join (λx:r9×I kI×I kI=>Dk x.1/\(x.2.1.length<=72/\∀o∈x.2.1,Rl o/\1<=o.tS)/\x.2.2.length<=8/\∀o∈x.2.2,Rl o) (λk P=>?_) ?_
 ·refine .wA (λs:Int×r9×I kI×I kI=>0<=s.1/\s.1<=8/\Dk s.2.1/\(s.2.2.1.length<=9*s.1.toNat/\∀o∈s.2.2.1,Rl o/\1<=o.tS)/\s.2.2.2.length<=s.1.toNat/\∀o∈s.2.2.2,Rl o) (λs=>(8-s.1).toNat)
   ⟨by simp,by simp,F,⟨by simp,by simp⟩,by simp,by simp⟩ (BW (by simp only;omega)) ?_
  rintro next ⟨i,d,os,Q⟩ ⟨i1,i2,F,⟨o1,o2⟩,r1,r2⟩ ae
  simp only at i1 i2 F o1 o2 r1 r2;refine .ite (λhc=>?_) λ_=>P _ ⟨F,⟨by simp only;omega,o2⟩,by simp only;omega,r2⟩;simp only[Wd] at hc;refine .join (λx:r9×I kI×I kI=>Dk x.1/\(x.2.1.length<=9*i.toNat+9/\∀o∈x.2.1,Rl o/\1<=o.tS)/\x.2.2.length<=i.toNat+1/\∀o∈x.2.2,Rl o) (λk2 af=>?_) ?_
  ·refine .bind (Oy ⟨i1,hc⟩) λp hp=>?_;refine .join (λm:Int=>m=24/\p.Addr.V6=false\/m=64/\p.Addr.V6=true) (λk3 J=>.ite (λh=>J _ (.inr ⟨rfl,h⟩)) λh=>J _ (.inl ⟨rfl,by simpa using h⟩)) λm hm=>?_;refine .join (λx:r9×I kI=>Dk x.1/\x.2.length<=9*i.toNat+9/\∀o∈x.2,Rl o/\1<=o.tS) (λk3 J=>?_) ?_
   ·refine .z7 (λj (x:r9×I kI)=>Dk x.1/\x.2.length<=9*i.toNat+j/\∀o∈x.2,Rl o/\1<=o.tS) ⟨F,by simpa using o1,o2⟩ (λx U=>J _ U) ?_;rintro ag n j ⟨d,os⟩ hj hn ⟨F,q1,q2⟩ a7;simp only at F q1 q2;have K:1<=n/\n<=301:=by simp only[Xa3,Xbs,Xel] at hn;omega
    refine .join (λx:C×r9=>Dk x.2) (λk4 H=>.ite (λ_=>H _ F) λ_=>.bind (AH F (by omega)) ?_) ?_
    ·rintro⟨y,d⟩ ⟨_,_,F⟩;exact H _ F
    rintro⟨c,d⟩ F;simp only at F;refine .join (λos:I kI=>os.length<=9*i.toNat+(j+1)/\∀o∈os,Rl o/\1<=o.tS) (λk4 H=>.ite (λ_=>.bind (.gN (by decide) (by simp at hj⊢;omega)) λw hw=>H _ ⟨by rw[hw];simp;omega,λo M=>?_⟩) λ_=>H _ ⟨by omega,q2⟩) λos a8=>a7 _ ⟨F,a8.1,a8.2⟩;simp only[hw,X23,X14] at M;rcases M with M|rfl
    ·exact q2 o M
    exact⟨⟨hp,hm,by simp only;omega,by simp only;omega⟩,K.1⟩
   rintro⟨d,os⟩ ⟨F,q1,q2⟩;simp only at F q1 q2;refine .bind (AH F (by omega)) ?_;rintro⟨y,d⟩ ⟨_,_,F⟩;simp only at F;refine .join (λx:r9×I kI=>Dk x.1/\x.2.length<=i.toNat+1/\∀o∈x.2,Rl o) (λk4 H=>.ite (λ_=>.bind (AH F (by omega)) ?_) λ_=>H _ ⟨F,by simp only;omega,r2⟩) ?_
   ·rintro⟨z,d⟩ ⟨z1,z2,F⟩;simp only at z1 z2 F;refine .bind (.mu (by simp;omega)) λn hn=>.bind (.gN (by decide) (by simp;omega)) λw hw=>H _ ⟨F,by rw[hw];simp;omega,λo M=>?_⟩;have K:0<=n/\n<=301:=by have:=hn.1;simp only[Xa3,Xbs,Xel] at this;omega
    simp only[hw,X23,X14] at M;rcases M with M|rfl
    ·exact r2 o M
    exact⟨hp,hm,K.1,K.2⟩
   rintro⟨d,Q⟩ ⟨F,s1,V⟩;exact af _ ⟨F,⟨q1,q2⟩,s1,V⟩
  rintro⟨d,os,Q⟩ ⟨F,⟨q1,q2⟩,s1,V⟩;simp only at F q1 q2 s1 V;rw[AG (by omega)];exact ae _ ⟨by simp only;omega,by simp only;omega,F,⟨by simp only;omega,q2⟩,by simp only;omega,V⟩ (by simp only;omega)
 rintro⟨d,os,Q⟩ ⟨F,⟨q1,q2⟩,s1,V⟩;refine .ret ⟨⟨rfl,rfl,⟨rfl,rfl,rfl,rfl,rfl,rfl⟩,⟨aa,ab⟩,rfl,?_,⟨Z,a6⟩,rfl,⟨q1,q2⟩,⟨s1,V⟩⟩,F⟩;have ah :∀x∈fr,x∈([701,202]:I Int):=λx U=>by rw[Y.1] at U;exact List.drop_subset _ _ (List.mem_of_mem_take U)
 refine⟨by have:=Y.2;simp only;omega,λx U=>?_⟩;have:=ah x U;simp only[Xa3,Xbs,Xel] at this;omega
instance (n:Int) (b:C):Tt (FS n b):=by unfold FS;exact Tt.wT
def eH {n:Int}(h:101<=n/\n<=105)(b:C):Ok (FS n b) λa=>a.ok=true:=by
 have:n=101\/n=102\/n=103\/n=104\/n=105:=by omega
 rcases this with rfl|rfl|rfl|rfl|rfl<;>cases b<;>exact⟨_,rfl,by show Addr.ok _=true;kernel_rfl⟩
def Ue {d:r9}(F:Dk d):Ok (Bh d) λr=>r.1.length<=8/\Dk r.2:=by
 unfold Bh;refine .bind (AH F (by omega)) ?_;rintro⟨a,d⟩ ⟨_,_,F⟩;dsimp only at F⊢;refine .join (λx:r9×I qv=>Dk x.1/\x.2.length<=8) (λk Q=>?_) (λ⟨d,l⟩ ⟨F,J⟩=>.ret ⟨J,F⟩);refine .z7 (λi (x:r9×I qv)=>Dk x.1/\x.2.length<=i) ⟨F,by simp⟩ (λx P=>Q _ ⟨P.1,by simpa using P.2⟩) ?_;rintro next x i ⟨d,l⟩ U _ ⟨F,J⟩ M
 have V:i<8:=by simpa using U
 dsimp only at F J⊢;refine .join (λx:C×r9=>Dk x.2) (λZ H=>.ite (λ_=>.ite (λ_=>H _ F) λ_=>.bind (AH F (by omega)) ?_) λ_=>H _ F) ?_
 ·rintro⟨b,d⟩ ⟨_,_,F⟩;exact H _ F
 rintro⟨c,d⟩ F;dsimp only at F⊢;refine .join (λl:I qv=>l.length<=i+1) (λk3 K=>.ite (λ_=>.bind (.gN (by decide) (by simp;omega)) λw Y=>K _ (by rw[Y];simp;omega)) λ_=>K _ (by omega)) λl J=>M _ ⟨F,J⟩
def mh {d:r9}(H:Dk d):Ok (DI d) λr=>r.1.length<=8/\Dk r.2:=by
 unfold DI;refine .bind (AH H (by omega)) ?_;rintro⟨a,d⟩ ⟨_,_,H⟩;dsimp only at H⊢;refine .join (λx:I oB=>x.length<=8) (λk M=>?_) (λl J=>.ret ⟨J,H⟩);refine .z7 (λi (x:I oB)=>x.length<=i) (by simp) (λx P=>M _ (by simp at P;omega)) ?_;intro next x i l Q _ J K
 have U:i<7:=by simpa using Q
 refine .join (λl:I oB=>l.length<=i+1) (λY F=>.ite (λ_=>.bind (.gN (by decide) (by simp;omega)) λw V=>F _ (by rw[V];simp;omega)) λ_=>F _ (by omega)) λl J=>K _ J
def lS {d:r9}{n:Int}{b:C}(F:Dk d):Ok (DO d n b) λr=>zJ 1000 r.1/\Dk r.2:=by
 unfold DO;rw[Qq,AA];dsimp only;refine .bind (AH F (by omega)) ?_;rintro⟨_,d⟩ ⟨_,_,F⟩;dsimp only at F⊢;refine .bind (AH F (by omega)) ?_;rintro⟨m,d⟩ ⟨m1,m2,F⟩;dsimp only at m1 m2 F⊢;refine .join (λx:r9×I Int=>Dk x.1/\1<=x.2.length/\x.2.length<=10) (λk H=>?_) ?_
 ·refine .wA (λs:Int×r9×I Int=>0<=s.1/\s.1<=3/\Dk s.2.1/\1<=s.2.2.length/\s.2.2.length+s.1.toNat<=10) (λs=>s.1.toNat) ⟨m1,by dsimp only;omega,F,by simp,by simp;omega⟩ (BW (by dsimp only;omega)) ?_;rintro next ⟨i,d,l⟩ ⟨i1,i2,F,l1,l2⟩ a6
  dsimp only at i1 i2 F l1 l2⊢;refine .ite (λhc=>.bind (AH F (by omega)) ?_) λ_=>H _ ⟨F,l1,by dsimp only;omega⟩;rintro⟨c,d⟩ ⟨c1,c2,F⟩;simp only[Wd] at hc;dsimp only at c1 c2 F⊢;refine .bind (.mu (by simp;omega)) λv _=>.bind (.gN (by decide) (by simp;omega)) λw J=>?_;rw[AG (by omega)];exact a6 _ ⟨by dsimp only;omega,by dsimp only;omega,F,by rw[J];simp,by rw[J];simp;omega⟩ (by dsimp only;omega)
 rintro⟨d,l⟩ ⟨F,l1,l2⟩;dsimp only at F l1 l2⊢;refine .bind Ok.of λpo _=>.bind (AH F (by omega)) ?_;rintro⟨c,d⟩ ⟨_,_,F⟩;dsimp only at F⊢;refine .join (λx:r9×Int=>Dk x.1) (λk H=>.ite (λ_=>.bind (AH F (by omega)) λ⟨_,d⟩ ⟨_,_,F⟩=>H _ F) λ_=>H _ F) ?_;rintro⟨d,a8⟩ F;dsimp only at F⊢;refine .bind (AH F (by omega)) ?_;rintro⟨c,d⟩ ⟨_,_,F⟩;dsimp only at F⊢;refine .join (λx:r9×Int=>Dk x.1) (λk H=>.ite (λ_=>.bind (AH F (by omega)) λ⟨_,d⟩ ⟨_,_,F⟩=>H _ F) λ_=>H _ F) ?_;rintro⟨d,a7⟩ F;dsimp only at F⊢;refine .bind (Ue F) ?_;rintro⟨co,d⟩ ⟨K,F⟩;dsimp only at K F⊢;refine .bind (mh F) ?_;rintro⟨la,d⟩ ⟨M,F⟩;dsimp only at M F⊢;refine .bind (AH F (by omega)) ?_;rintro⟨q,d⟩ ⟨_,_,F⟩;dsimp only at F⊢;have hl:Sh [⟨false,l⟩] []:=Kc (by omega);refine .join (λx:r9×I oF×C×j×j×Int×I gH=>Dk x.1/\Sh x.2.1 x.2.2.2.2.2.2) (λk H=>.ite (λ_=>.bind (AH F (by omega)) λ⟨_,d⟩ ⟨_,_,F⟩=>H _ ⟨F,hl⟩) λ_=>?_) λ⟨d,p,_,_,_,_,o⟩ ⟨F,h⟩=>.ret ⟨h.a K M,F⟩;refine .join (λx:r9×I oF×C×j×j×I gH=>Dk x.1/\Sh x.2.1 x.2.2.2.2.2) (λk2 P=>.ite (λ_=>.bind (.mu (by omega)) λ_ _=>.bind (.wj (by omega)) λw J=>P _ ⟨F,Kc (by omega)⟩) λ_=>?_) λ⟨d,p,_,_,_,o⟩ ⟨F,h⟩=>H _ ⟨F,h⟩;refine .join (λx:r9×I oF×C×j×j×I gH=>Dk x.1/\Sh x.2.1 x.2.2.2.2.2) (λk3 Q=>.ite (λ_=>Q _ ⟨F,⟨⟨by simp,?_⟩,by simp,by simp⟩⟩) λ_=>?_) λ⟨d,p,_,_,_,o⟩ ⟨F,h⟩=>P _ ⟨F,h⟩
 ·intro s hs;simp only[Xa3,Xbs,Xel] at hs;rcases hs with rfl|rfl
  ·dsimp only;omega
  decide
 refine .join (λx:r9×I oF×C×j×j×I gH=>Dk x.1/\Sh x.2.1 x.2.2.2.2.2) (λk4 U=>.ite (λ_=>.bind (.gN (by decide) (by simp;omega)) λw J=>U _ ⟨F,Kc (by rw[J];simp;omega)⟩) λ_=>?_) λ⟨d,p,_,_,_,o⟩ ⟨F,h⟩=>Q _ ⟨F,h⟩;refine .join (λx:r9×I oF×C×j×j×I gH=>Dk x.1/\Sh x.2.1 x.2.2.2.2.2) (λk5 V=>.ite (λ_=>.bind Ok.of λ_ _=>V _ ⟨F,hl⟩) λ_=>?_) λ⟨d,p,_,_,_,o⟩ ⟨F,h⟩=>U _ ⟨F,h⟩;refine .join (λx:r9×I oF×I gH=>Dk x.1/\Sh x.2.1 x.2.2) (λk6 Y=>.ite (λ_=>.bind (.gN (by decide) (by simp;omega)) λw J=>Y _ ⟨F,Kc (by rw[J];simp;omega)⟩) λ_=>?_) λ⟨d,p,o⟩ ⟨F,h⟩=>V _ ⟨F,h⟩;refine .join (λx:r9×I oF×I gH=>Dk x.1/\Sh x.2.1 x.2.2) (λk7 Z=>.ite (λ_=>Z _ ⟨F,⟨⟨by simp,by simp⟩,by simp,by simp⟩⟩) λ_=>?_) λ⟨d,p,o⟩ ⟨F,h⟩=>Y _ ⟨F,h⟩;refine .join (λx:r9×I gH=>Dk x.1/\x.2.length<=4/\∀u∈x.2,u.Data.length<=4) (λk8 a1=>.ite (λ_=>.bind (AH F (by omega)) λ⟨_,d⟩ ⟨_,_,F⟩=>a1 _ ⟨F,by simp,by simp⟩) λ_=>a1 _ ⟨F,by simp,by simp⟩) λ⟨d,o⟩ ⟨F,h⟩=>Z _ ⟨F,hl.1,h⟩
def e7 {p:fI}(h:A8 p=some true):B5 p:=by obtain⟨b,F,H⟩:=Hk p;rw[h] at F;exact H.1 (X25 F).symm
def Bk (p:fI):Prop:=Er p/\A8 ⟨p.Addr,cond p.Addr.V6 64 24⟩=some true/\∀j:Int,0<=j->j<3->A8 ⟨{ p.Addr with Lo:=(AT ((p.Addr.Lo.toNat:Int)+((AT j).toNat:Int))) },cond p.Addr.V6 128 32⟩=some true
def mg {k:Int}(h:0<=k/\k<8):Ok (G3 k) Bk:=by
 have F :∀{Q:Int->Prop},Q 0->Q 1->Q 2->∀j:Int,0<=j->j<3->Q j:=by
  intro Q H J K j M P;have:j=0\/j=1\/j=2:=by omega
  rcases this with rfl|rfl|rfl
  ·exact H
  ·exact J
  exact K
 have:k=0\/k=1\/k=2\/k=3\/k=4\/k=5\/k=6\/k=7:=by omega
 rcases this with rfl|rfl|rfl|rfl|rfl|rfl|rfl|rfl
 ·exact⟨_,rfl,⟨by kernel_rfl,.inl ⟨rfl,rfl⟩⟩,by kernel_rfl,F (by kernel_rfl) (by kernel_rfl) (by kernel_rfl)⟩
 ·exact⟨_,rfl,⟨by kernel_rfl,.inl ⟨rfl,rfl⟩⟩,by kernel_rfl,F (by kernel_rfl) (by kernel_rfl) (by kernel_rfl)⟩
 ·exact⟨_,rfl,⟨by kernel_rfl,.inl ⟨rfl,rfl⟩⟩,by kernel_rfl,F (by kernel_rfl) (by kernel_rfl) (by kernel_rfl)⟩
 ·exact⟨_,rfl,⟨by kernel_rfl,.inl ⟨rfl,rfl⟩⟩,by kernel_rfl,F (by kernel_rfl) (by kernel_rfl) (by kernel_rfl)⟩
 ·exact⟨_,rfl,⟨by kernel_rfl,.inl ⟨rfl,rfl⟩⟩,by kernel_rfl,F (by kernel_rfl) (by kernel_rfl) (by kernel_rfl)⟩
 ·exact⟨_,rfl,⟨by kernel_rfl,.inl ⟨rfl,rfl⟩⟩,by kernel_rfl,F (by kernel_rfl) (by kernel_rfl) (by kernel_rfl)⟩
 ·exact⟨_,rfl,⟨by kernel_rfl,.inr ⟨rfl,rfl⟩⟩,by kernel_rfl,F (by kernel_rfl) (by kernel_rfl) (by kernel_rfl)⟩
 exact⟨_,rfl,⟨by kernel_rfl,.inr ⟨rfl,rfl⟩⟩,by kernel_rfl,F (by kernel_rfl) (by kernel_rfl) (by kernel_rfl)⟩
def C0 {d:r9}(F:Dk d):Ok (Bz d) λr=>B5 r.1/\Dk r.2:=by unfold Bz;refine .bind (AH F (by omega)) ?_;rintro⟨a,d⟩ ⟨M,P,F⟩;dsimp only at M P F⊢;refine .bind (mg ⟨M,P⟩) λp hp=>.bind (AH F (by omega)) ?_;rintro⟨b,d⟩ ⟨b1,b2,F⟩;dsimp only at b1 b2 F⊢;refine .join (λx:r9×fI=>Dk x.1/\B5 x.2) (λk Q=>.ite (λ_=>.join (λv=>v=cond p.Addr.V6 64 24) (λY H=>.ite (λh=>H _ (by rw[h];rfl)) λh=>H _ (by rw[Bool.not_eq_true] at h;rw[h];rfl)) λv K=>Q _ ⟨F,by rw[K];exact e7 hp.2.1⟩) λ_=>?_) λ⟨d,p⟩ F=>.ret ⟨F.2,F.1⟩;refine .join (λx:r9×fI=>Dk x.1/\B5 x.2) (λY H=>.ite (λ_=>.join (λv=>v=cond p.Addr.V6 128 32) (λZ J=>.ite (λh=>J _ (by rw[h];rfl)) λh=>J _ (by rw[Bool.not_eq_true] at h;rw[h];rfl)) λv K=>.bind (AH F (by omega)) ?_) λ_=>H _ ⟨F,hp.1.Ca⟩) λ⟨d,p⟩ F=>Q _ F;rintro⟨c,d⟩ ⟨U,V,F⟩;dsimp only at U V;exact H _ ⟨F,by dsimp only;rw[K];exact e7 (hp.2.2 c U V)⟩
def qz {p:I oF}{n:Nat}(h :∀s∈p,s.o3.length<=n):xm p<=n*p.length:=by
 induction p with
 | nil=>exact Xd7 _
 | cons s t F=>have:=h s (by simp);have:=F λx H=>h x (X19 _ H);rw[Fe,X12,Nat.mul_succ];omega
structure yG (a:gE):Prop where
 p:a.Path.length<=1000000
 t:xm a.Path<=1000000
 c:a.cW.length<=1000000
 l:a.oB.length<=1000000
 o:a.iX.length<=1000000
 d :∀u∈a.iX,u.Data.length<=1000000
def yG.Kd {a:gE}(h:yG a):xH a:=by have H:=h.p;have J:=h.t;have K:=h.c;have M:=h.l;have P:=h.o;exact⟨by omega,by omega,by omega,by omega,by omega,λu F=>by have:=h.d u F;omega⟩
def zJ.Gb {a:gE}(h:zJ 1000 a):yG a:=by have H:=qz h.s;have J:=h.p;have K:=h.c;have M:=h.l;have P:=h.o;exact⟨by omega,by omega,by omega,by omega,by omega,λu F=>by have:=h.d u F;omega⟩
def zJ.Kd {a:gE}(h:zJ 1000 a):xH a:=h.Gb.Kd
def oH {p:I oF}(h :∀s∈p,N4 s=true):p.length<=xm p:=by
 induction p with
 | nil=>exact Xd7 _
 | cons s t H=>have F:=h s (by simp);have K:=H λx J=>h x (X19 _ J);unfold N4 at F;rw[X27,Wd] at F;have:=F.1;rw[Fe,X12];omega
def yG.of {a:gE}(h:EY a=true):yG a:=by unfold EY at h;simp only[X27,Wd] at h;obtain⟨F,_,hp,_,_,_,_,H,J,M⟩:=h;unfold Dc at hp;rw[X27,X27,Xa0,Wd] at hp;have P:=oH hp.1.1;have Q:=hp.2;have U:=(Jt.1 H).2.2;have V:=(Jq.1 J).2.2;unfold ET at F;rw[X27,Xa0] at F;refine⟨by omega,by omega,by omega,by omega,by omega,λu K=>?_⟩;have:=F.1 u K;unfold okO at this;simp only[X27,Wd] at this;omega
def nJ {d:r9}{n:Int}(F:Dk d):Ok (DL d n) λr=>(B5 r.1.fI/\zJ 1000 r.1.gE)/\Dk r.2:=by unfold DL;refine .bind (C0 F) ?_;rintro⟨p,d⟩ ⟨hp,F⟩;dsimp only at hp F⊢;refine .bind (lS F) ?_;rintro⟨a,d⟩ ⟨h,F⟩;exact .ret ⟨⟨hp,h⟩,F⟩
end Go.AX.Q25
end
