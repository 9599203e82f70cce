/-
  Texts of one proof, packed.
-/
import Derived.Test.YtppcmaidcgimpaaGreatDoorS18
import Derived.Test.YtppcmaidcgimpaaGreatDoorS25
set_option linter.all false
set_option maxRecDepth 100000
set_option maxHeartbeats 4000000
open List renaming length_map→X6,length_append→X10,length_cons→X11,mem_singleton→X13,getElem?_eq_getElem→X14,getElem?_eq_some_iff→X15,length_drop→X16,length_take→X17,mem_cons_of_mem→X18,length_replicate→X19,length_set→X20,mem_append→X22
open Option.some renaming inj→X24
open Option renaming bind→Xg
open Int renaming toNat→Xi
open List renaming take→Xbg,drop→Xbh
open Go renaming maxLen→Xb6
section
namespace Go.AX.Q25
open Go Go.AX Go.AX.sE
def s5 (a b:fI):C:=decide (BY a b<0)
def Qa (a:fI):s5 a a=false:=by unfold s5 BY;rw[Hn];rfl
def VK (a b c:fI)(F:s5 a b=true)(H:s5 b c=true):s5 a c=true:=by unfold s5 BY at *;simp only[Xh] at *;exact OD (by rfl) (by rfl) F H
def QY (a b:fI)(h:s5 a b=false):a=b\/s5 b a=true:=by
 unfold s5 BY at *;simp only[Xar,Xh] at *;have:=LF (QG a) (QG b);by_cases F:CS (QG a) (QG b)=0
 ·exact .inl (XR (Hq (by rfl) F))
 exact .inr (by omega)
def XC (a b:fI)(h:s5 a b=true):s5 b a=false:=by
 cases h1:s5 b a
 ·rfl
 have:=VK _ _ _ h h1;rw[Qa] at this;simp at this
def kV (a b c:fI)(F:s5 a b=false)(H:s5 b c=false):s5 a c=false:=by
 rcases QY _ _ F with rfl|F
 ·exact H
 rcases QY _ _ H with rfl|H
 ·exact XC _ _ F
 exact XC _ _ (VK _ _ _ H F)
def Zw (a b:fI):s7 Dl a b=s5 a b:=by unfold s7;rw[Et];rfl
def WX {l:I fI}(K:l.length<=1000000000):Ok (GM Dl l) λr=>r.Perm l/\r.Pairwise λa b=>s5 b a=false:=by obtain⟨r,J⟩:=Sv (cmp:=Dl) (l:=l) (Zf (λa _ b _=>⟨_,Et a b⟩) (λa _=>by rw[Zw,Qa]) (λa _ b _ c _ F H=>by rw[Zw] at *;exact VK _ _ _ F H) (λa _ b _ c _ F H=>by rw[Zw] at *;exact kV _ _ _ F H) K);obtain⟨F,H⟩:=J3 J;exact⟨r,J,F,H.imp λh=>by rw[Zw] at h;exact h⟩
def ZQ {p q:I fI}{y z:fI}(hp:p.Pairwise λa b=>s5 a b=true)(J :∀x,x∈p↔x∈q)(V:z∈q)(P :∀x∈q,s5 z x=false)(F:s5 y z=false)(H:y≠z) : (p++[y]).Pairwise (λa b=>s5 a b=true)/\∀x,x∈p++[y]↔x∈q++[y]:=by
 refine⟨Xb4.2 ⟨hp,by simp,λx Q w K=>?_⟩,λx=>by rw[X22,X22,J]⟩;rw[X13] at K;subst K;have U:=P x ((J x).1 Q);have M:s5 z w=true:=(QY _ _ F).resolve_left H;rcases QY _ _ U with e|e
 ·rw[<- e];exact M
 exact VK _ _ _ e M
def SI {l:I fI}(hs:l.Pairwise λa b=>s5 b a=false)(hl:l.length<=1000000000) : Ok (Au l) λc=>c.Pairwise (λa b=>s5 a b=true)/\∀x,x∈c↔x∈l:=by
 have K :∀(k:Nat) (z:fI),l[k]?=some z->∀x∈l.take (k+1),s5 z x=false:=by
  intro k z M x hx;obtain⟨i,hi,rfl⟩:=List.mem_iff_getElem.1 hx;rw[X17] at hi;obtain⟨P,rfl⟩:=X15.1 M;rw[Xb7];by_cases e:i=k
  ·subst e;exact Qa _
  exact List.pairwise_iff_getElem.1 hs i k (by omega) P (by omega)
 have Q :∀(k:Nat) (z y:fI),l[k]?=some z->l[k+1]?=some y->s5 y z=false:=by intro k z y M hy;obtain⟨P,rfl⟩:=X15.1 M;obtain⟨ab,rfl⟩:=X15.1 hy;exact List.pairwise_iff_getElem.1 hs k (k+1) P ab (by omega)
 have U :∀(k:Nat) (y:fI),l[k]?=some y->l.take (k+1)=l.take k++[y]:=by intro k y M;rw[Xc1,M];rfl
 have H :∀(k:Nat) (z:fI),l[k]?=some z->z∈l.take (k+1):=by intro k z M;rw[U k z M];simp
 unfold Au;refine .ite (λh=>?_) λh=>?_
 ·simp only[Xh] at h;refine .ret ⟨?_,λ_=>Iff.rfl⟩;match l,h with
  | [],_=>exact .nil
  | [x],_=>simp
  | x::y::t,h=>simp at h;omega
 simp only[Xh] at h;refine .join (λ_=>l.Pairwise λa b=>s5 a b=true) (λk1 P=>?_) λ_ h=>.ret ⟨h,λ_=>Iff.rfl⟩;refine .rB (λv:Int=>1<=v/\v<=l.length/\(l.take v.toNat).Pairwise λa b=>s5 a b=true) (λv=>(l.length-v).toNat) ⟨by omega,by omega,?_⟩ (CB (by omega)) λnext v hv ae=>?_
 ·match l,h with
  | x::t,_=>simp
  | [],h=>simp at h
 obtain⟨v1,v2,v3⟩:=hv;refine .ite (λaf=>?_) λag=>?_;rotate_left
 ·simp only[Xh] at ag;refine P () ?_;have:v.toNat=l.length:=by omega
  rw[this,Xcj] at v3;exact v3
 simp only[Xh] at af;obtain⟨n,rfl⟩ :∃n:Nat,v=((n+1:Nat):Int):=⟨(v-1).toNat,by omega⟩;have hn:n+1<l.length:=by omega
 have gy:l[n+1]?=some l[n+1]:=X14 hn;have gz:l[n]?=some l[n]:=X14 (by omega);have e1:iB l ((n+1:Nat):Int)=some l[n+1]:=BS hn;have e2:iB l (AQ (((n+1:Nat):Int)-1))=some l[n]:=by rw[AM (by omega),show ((n+1:Nat):Int)-1=(n:Int) by omega];exact BS (by omega)
 refine .join (λ_=>l[n+1]≠l[n]) (λk4 ah=>?_) λ_ F=>?_;rotate_left
 ·rw[AM (by omega)];refine ae _ ⟨by omega,by omega,?_⟩ (by omega);have:=(ZQ (p:=l.take (n+1)) (q:=l.take (n+1)) v3 (λ_=>Iff.rfl) (H n _ gz) (K n _ gz) (Q n _ _ gz gy) F).1;rw[<- U _ _ gy] at this;have e:(((n+1:Nat):Int)+1).toNat=n+1+1:=by omega
  rw[e];exact this
 rw[e1,AA,e2,AA];refine .ite (λa6=>?_) λF=>ah _ λe=>F ((fI.qm _ _).2 e);have a6:=(fI.qm _ _).1 a6;refine .bind (Ok.rv (by omega)) λ_ _=>?_;refine .join (λp:Int×I fI=>0<=p.1/\p.1<=l.length/\p.2.length=l.length/\(p.2.take p.1.toNat).Pairwise (λa b=>s5 a b=true)/\∀x,x∈p.2.take p.1.toNat↔x∈l) (λk7 ai=>?_) ?_
 ·refine .rB (λp:Int×Int×I fI=>0<=p.1/\1<=p.2.1/\p.1<=(n+1:Nat)+p.2.1-1/\(n+1:Nat)+p.2.1<=l.length/\p.2.2.length=l.length/\(∀j:Nat,p.1<=j->p.2.2[j]?=l[j]?)/\ (p.2.2.take p.1.toNat).Pairwise (λa b=>s5 a b=true)/\∀x,x∈p.2.2.take p.1.toNat↔x∈l.take ((n+1:Nat)+p.2.1).toNat) (λp=>(l.length-p.2.1).toNat) ⟨by dsimp only;omega,by dsimp only;omega,by dsimp only;omega,by dsimp only;omega,rfl,λ_ _=>rfl,v3,λx=>?_⟩ (CB (by dsimp only;omega)) ?_
  ·dsimp only;have e:(((n+1:Nat):Int)+1).toNat=n+1+1:=by omega
   rw[e,U _ _ gy,Xa3];constructor
   ·exact λh=>List.mem_append_left _ h
   intro h;rcases X22.1 h with h|h
   ·exact h
   rw[X13] at h;rw[h,a6];exact H n _ gz
  rintro next ⟨i,k,a⟩ ⟨q1,q2,q3,q4,q5,q6,q7,q8⟩ a7
  dsimp only at q1 q2 q3 q4 q5 q6 q7 q8⊢;refine .ite (λM=>?_) λM=>?_;rotate_left
  ·simp only[Xh] at M;refine ai (i,a) ⟨q1,by dsimp only;omega,q5,q7,λx=>?_⟩;dsimp only;rw[q8 x,show ((n+1:Nat)+k).toNat=l.length by omega,Xcj]
  simp only[Xh] at M;obtain⟨m,rfl⟩ :∃m:Nat,k=((m+1:Nat):Int):=⟨(k-1).toNat,by omega⟩;have a8:n+1+(m+1)<l.length:=by omega
  have Y:l[n+1+(m+1)]?=some l[n+1+(m+1)]:=X14 a8;have V:l[n+1+m]?=some l[n+1+m]:=X14 (by omega);have ge :∀j:Nat,n+1+j<l.length->i<=((n+1+j:Nat):Int)->∀y,l[n+1+j]?=some y->iB (Xbg (Xi (l.length:Int)-Xi ((n+1:Nat):Int)) (Xbh (Xi ((n+1:Nat):Int)) a)) (j:Int)=some y:=by intro j hj aj y hy;refine Yu (by omega) ?_;rw[Xa3,Xa3,Xa3,List.getElem?_take_of_lt (by omega),List.getElem?_drop,q6 _ aj];exact hy
  have r1:=ge (m+1) a8 (by omega) _ Y;have r2:=ge m (by omega) (by omega) _ V;rw[r1,AA,AM (x:=((m+1:Nat):Int)-1) (by omega),show ((m+1:Nat):Int)-1=(m:Int) by omega,r2,AA];refine .join (λp:Int×I fI=>0<=p.1/\p.1<=(n+1:Nat)+((m+1:Nat):Int)/\p.2.length=l.length/\(∀j:Nat,p.1<=j->p.2[j]?=l[j]?)/\ (p.2.take p.1.toNat).Pairwise (λa b=>s5 a b=true)/\∀x,x∈p.2.take p.1.toNat↔x∈l.take (n+1+(m+1)+1)) (λak a1=>?_) ?_
  ·have et:((n+1:Nat)+((m+1:Nat):Int)).toNat=n+1+(m+1):=by omega
   rw[et] at q8;refine .ite (λF=>?_) λJ=>?_
   ·have F:l[n+1+(m+1)]≠l[n+1+m]:=λe=>by rw[(fI.qm _ _).2 e] at F;simp at F
    rw[AA];have aa:i.toNat<a.length:=by omega
    refine .bind (Ok.iB (by omega)) λ_ _=>.bind (Ok.rk (by omega)) λa' Z=>a1 _ ?_;rw[AM (by omega)];have ei:(i+1).toNat=i.toNat+1:=by omega
    have hc:=ZQ (y:=l[n+1+(m+1)]) (z:=l[n+1+m]) q7 q8 (by rw[show n+1+(m+1)=n+1+m+1 by omega];exact H _ _ V) (by rw[show n+1+(m+1)=n+1+m+1 by omega];exact K _ _ V) (Q _ _ _ V Y) F;refine⟨by dsimp only;omega,by dsimp only;omega,Z.2.trans q5,λj hj=>?_,?_,?_⟩
    ·dsimp only at hj⊢;rw[Z.1,List.getElem?_set_ne (by omega)];exact q6 j (by omega)
    ·dsimp only;rw[ei,Z.1,KV aa];exact hc.1
    dsimp only;rw[ei,Z.1,KV aa,U _ _ Y];exact hc.2
   have J:l[n+1+(m+1)]=l[n+1+m]:=by
    refine (fI.qm _ _).1 ?_;cases h:fI.qK l[n+1+(m+1)] l[n+1+m]
    ·rw[h] at J;simp at J
    rfl
   refine a1 _ ⟨q1,by dsimp only;omega,q5,q6,q7,λx=>?_⟩;dsimp only;rw[q8 x,U _ _ Y];constructor
   ·exact λh=>List.mem_append_left _ h
   intro h;rcases X22.1 h with h|h
   ·exact h
   rw[X13] at h;rw[h,J];exact H _ _ V
  rintro⟨i',a'⟩ ⟨p1,p2,p3,p4,p5,p6⟩;dsimp only at p1 p2 p3 p4 p5 p6⊢;rw[AM (by omega)];refine a7 _ ⟨p1,by dsimp only;omega,by dsimp only;omega,by dsimp only;omega,p3,p4,p5,λx=>?_⟩ (by dsimp only;omega);dsimp only;rw[p6 x,show ((n+1:Nat)+(((m+1:Nat):Int)+1)).toNat=n+1+(m+1)+1 by omega]
 rintro⟨i,a⟩ ⟨p1,p2,p3,p4,p5⟩;dsimp only at p1 p2 p3 p4 p5⊢;refine .bind (Ok.rv (by omega)) λ_ _=>.bind (Ok.part ⟨by omega,by omega,by simp;omega⟩) λc hc=>.ret ?_;have:c=a.take i.toNat:=by rw[hc.1];simp only[Int.toNat_zero,List.drop_zero,Nat.sub_zero];rw[Xav,List.take_append_of_le_length (by simp;omega),List.take_take,Nat.min_self]
 rw[this];exact⟨p4,p5⟩
def L9 (l:I fI):Prop:=l.Pairwise λa b=>BY a b<0
def DK (b:iA):I fI:=b.fT.map kH
def VR.keys {b:iA}(h:VR b):L9 (DK b):=by unfold L9 DK;rw[List.pairwise_map];exact h.rN
structure MG (la lb:List fI)(i j:Nat)(out:List fI):Prop where
 rN:L9 out
 mem :∀x,x∈out↔x∈la.take i\/x∈lb.take j
 wI :∀x∈out,∀y∈la.drop i,BY x y<0
 wz :∀x∈out,∀y∈lb.drop j,BY x y<0
def drop_cons {l:I fI}{i:Nat}{p:fI}(h:l[i]?=some p):l.drop i=p::l.drop (i+1):=by obtain⟨F,H⟩:=X15.1 h;rw[Xbt F,H]
def Nk {l:I fI}(H:L9 l){i:Nat}{p:fI}(h:l[i]?=some p) :∀y∈l.drop (i+1),BY p y<0:=by have F:L9 (l.drop i):=Xdi (List.drop_sublist i l) H;rw[drop_cons h] at F;exact (Xac.1 F).1
def MG.push {la H:I fI}{i j K M:Nat}{out:I fI}{p:fI}(h:MG la H i j out)(hp:p∈la.drop i\/p∈H.drop j)(P :∀x,(x∈la.take K\/x∈H.take M)↔(x∈la.take i\/x∈H.take j)\/x=p) (Q :∀y∈la.drop K,y∈la.drop i) (U :∀y∈H.drop M,y∈H.drop j) (V :∀y∈la.drop K,BY p y<0) (Y :∀y∈H.drop M,BY p y<0):MG la H K M (out++[p]) where
 rN:=by
  refine Xb4.2 ⟨h.rN,by simp,λx F y J=>?_⟩;rw[X13.1 J];rcases hp with hp|hp
  ·exact h.wI x F p hp
  exact h.wz x F p hp
 mem x:=by rw[X22,X13,h.mem,P]
 wI x F y J:=by
  rcases X22.1 F with F|F
  ·exact h.wI x F y (Q y J)
  rw[X13.1 F];exact V y J
 wz x F y J:=by
  rcases X22.1 F with F|F
  ·exact h.wz x F y (U y J)
  rw[X13.1 F];exact Y y J
def HZ {l:I fI}{i:Nat}{p:fI}(h:l[i]?=some p)(x:fI):x∈l.take (i+1)↔x∈l.take i\/x=p:=by rw[LJ h,X22,X13]
def oo {A B C:Prop}:(A\/C)\/B↔(A\/B)\/C:=or_right_comm
def pR {A B C:Prop}:A\/(B\/C)↔(A\/B)\/C:=or_assoc.symm
def pj {A B C:Prop}:(A\/C)\/(B\/C)↔(A\/B)\/C:=by
 constructor
 ·rintro ((h|h)|(h|h))
  ·exact .inl (.inl h)
  ·exact .inr h
  ·exact .inl (.inr h)
  exact .inr h
 rintro ((h|h)|h)
 ·exact .inl (.inl h)
 ·exact .inr (.inl h)
 exact .inl (.inr h)
def RS {l:I fI}{i:Nat}{p:fI}(h:l[i]?=some p):p∈l.drop i:=by rw[drop_cons h];exact Xc6
def Lx {l:I fI}{i:Nat}{p:fI}(h:l[i]?=some p)(y:fI)(F:y∈l.drop (i+1)):y∈l.drop i:=by rw[drop_cons h];exact X18 _ F
def MG.a {la H:I fI}{i j:Nat}{out:I fI}{p:fI}(J:L9 la)(h:MG la H i j out)(F:la[i]?=some p)(K :∀y∈H.drop j,BY p y<0):MG la H (i+1) j (out++[p]):=
 h.push (.inl (RS F)) (λx=>by rw[HZ F];exact oo) (Lx F) (λy M=>M) (Nk J F) K
def MG.b {la F:I fI}{i j:Nat}{out:I fI}{p:fI}(J:L9 F)(h:MG la F i j out)(H:F[j]?=some p)(K :∀y∈la.drop i,BY p y<0):MG la F i (j+1) (out++[p]):=
 h.push (.inr (RS H)) (λx=>by rw[HZ H];exact pR) (λy M=>M) (Lx H) K (Nk J H)
def MG.c {la F:I fI}{i j:Nat}{out:I fI}{p:fI}(K:L9 la)(M:L9 F)(h:MG la F i j out)(H:la[i]?=some p)(J:F[j]?=some p):MG la F (i+1) (j+1) (out++[p]):=
 h.push (.inl (RS H)) (λx=>by rw[HZ H,HZ J];exact pj) (Lx H) (Lx J) (Nk K H) (Nk M J)
def fF {l:I fI}(J:L9 l){j:Nat}{p q:fI}(H:l[j]?=some q)(h:BY p q<0) :∀y∈l.drop j,BY p y<0:=by
 intro y F;rw[drop_cons H] at F;rcases Xp.1 F with e|F
 ·rw[e];exact h
 exact DI.trans h (Nk J H y F)
def D4 {b:iA}{i:Nat}(h:i<b.fT.length):iB b.fT (i:Int)=some b.fT[i]/\(DK b)[i]?=some b.fT[i].o3.fI:=by refine⟨BS h,?_⟩;unfold DK;rw[Xd8,X14 h];rfl
def XD {a b:iA}(ha:L9 (DK a))(hb:L9 (DK b))(la:a.fT.length<=1000000)(lb:b.fT.length<=1000000):Ok (Cm a b) λc=>L9 c/\∀x,x∈c↔x∈DK a\/x∈DK b:=by
 unfold Cm;have ka:(DK a).length=a.fT.length:=by unfold DK;simp
 have kb:(DK b).length=b.fT.length:=by unfold DK;simp
 refine .join (λc=>L9 c/\∀x,x∈c↔x∈DK a\/x∈DK b) (λk1 a6=>?_) λc hc=>.ret hc;refine .rB (λq:Int×Int×I fI=>0<=q.1/\q.1<=a.fT.length/\0<=q.2.1/\q.2.1<=b.fT.length/\q.2.2.length<=q.1.toNat+q.2.1.toNat/\MG (DK a) (DK b) q.1.toNat q.2.1.toNat q.2.2) (λq=>(a.fT.length-q.1).toNat+(b.fT.length-q.2.1).toNat)
  ⟨by simp,by simp,by simp,by simp,by simp,⟨List.Pairwise.nil,by simp,by simp,by simp⟩⟩ (CB (by dsimp only;omega)) ?_
 rintro next ⟨i,j,out⟩ ⟨i1,i2,j1,j2,hl,Q⟩ ih
 dsimp only at i1 i2 j1 j2 hl Q ih⊢;obtain⟨i,rfl⟩ :∃n:Nat,i=(n:Int):=⟨i.toNat,by omega⟩;obtain⟨j,rfl⟩ :∃n:Nat,j=(n:Int):=⟨j.toNat,by omega⟩;rw[Xa3,Xa3] at hl Q;refine .join (λv=>(v=true->i<a.fT.length\/j<b.fT.length)/\(v=false->i=a.fT.length/\j=b.fT.length)) (λk6 V=>.ite (λh=>V _ ⟨λ_=>.inl (by have q:(i:Int)<a.fT.length:=(by simpa using h);omega),λe=>by cases e⟩) λh=>V _ ⟨λe=>.inr (by have q:(j:Int)<b.fT.length:=(by simpa using e);omega),λe=>?_⟩) ?_
 ·have h1:¬ (i:Int)<a.fT.length:=by simpa using h
  have h2:¬ (j:Int)<b.fT.length:=by simpa using e
  omega
 intro v hv;refine .ite (λh=>?_) λh=>?_;rotate_left
 ·obtain⟨e1,e2⟩:=hv.2 (by simpa using h);refine a6 _ ⟨Q.rN,λx=>?_⟩;have:=Q.mem x;rw[e1,e2,<- ka,<- kb,Xcj,Xcj] at this;exact this
 have a8:=hv.1 h;refine .join (λv=>(v=true->∃p,i<a.fT.length/\(DK a)[i]?=some p/\∀y∈(DK b).drop j,BY p y<0)/\(v=false->j<b.fT.length/\(∀h1:i<a.fT.length,∀h2:j<b.fT.length,¬ BY a.fT[i].o3.fI b.fT[j].o3.fI<0))) (λk8 U=>?_) λw hw=>?_
 ·refine .ite (λh=>?_) λh=>?_
  ·have H:j=b.fT.length:=by have q:(j:Int)=b.fT.length:=(by simpa using h);omega
   have F:i<a.fT.length:=by omega
   exact U _ ⟨λ_=>⟨_,F,(D4 F).2,λy Y=>(by rw[List.drop_of_length_le (by omega)] at Y;cases Y)⟩,λe=>by cases e⟩
  have H:j<b.fT.length:=by have q:¬ (j:Int)=b.fT.length:=(by simpa using h);omega
  refine .ite (λh=>?_) λh=>?_
  ·have F:i<a.fT.length:=by have q:(i:Int)<a.fT.length:=(by simpa using h);omega
   rw[(D4 F).1,AA,(D4 H).1,AA,G0,AA];refine U _ ⟨λe=>⟨_,F,(D4 F).2,fF hb (D4 H).2 (Xdq e)⟩,λe=>⟨H,λ_ _=>of_decide_eq_false e⟩⟩
  have F:¬ i<a.fT.length:=by have q:¬ (i:Int)<a.fT.length:=(by simpa using h);omega
  exact U _ ⟨λe=>(by cases e),λ_=>⟨H,λh1=>absurd h1 F⟩⟩
 refine .join (λq:Int×Int×I fI=>0<=q.1/\q.1<=a.fT.length/\0<=q.2.1/\q.2.1<=b.fT.length/\q.2.2.length<=q.1.toNat+q.2.1.toNat/\MG (DK a) (DK b) q.1.toNat q.2.1.toNat q.2.2/\(a.fT.length-q.1).toNat+(b.fT.length-q.2.1).toNat<(a.fT.length-(i:Int)).toNat+(b.fT.length-(j:Int)).toNat) (λaa K=>?_) λq J=>ih _ ⟨J.1,J.2.1,J.2.2.1,J.2.2.2.1,J.2.2.2.2.1,J.2.2.2.2.2.1⟩ J.2.2.2.2.2.2;refine .ite (λh=>?_) λh=>?_
 ·obtain⟨p,F,hp,a7⟩:=hw.1 h;have e:=(D4 F).2;rw[hp] at e;have e:=X24 e;rw[(D4 F).1,AA];refine .bind (.gH (by decide) (by simp;omega)) λo Z=>K _ ?_;rw[AM (by omega)];dsimp only;rw[show ((i:Int)+1).toNat=i+1 by omega,Xa3,Z,<- e];exact⟨by omega,by omega,by omega,by omega,by simp;omega,Q.a ha hp a7,by omega⟩
 obtain⟨H,hn⟩:=hw.2 (by simpa using h);refine .join (λv=>(v=true->∀y∈(DK a).drop i,BY b.fT[j].o3.fI y<0)/\(v=false->∃F:i<a.fT.length,a.fT[i].o3.fI=b.fT[j].o3.fI)) (λab M=>?_) λw2 a1=>?_
 ·refine .ite (λh=>?_) λh=>?_
  ·have F:i=a.fT.length:=by have q:(i:Int)=a.fT.length:=(by simpa using h);omega
   exact M _ ⟨λ_ y Y=>(by rw[List.drop_of_length_le (by omega)] at Y;cases Y),λe=>by cases e⟩
  have F:i<a.fT.length:=by have q:¬ (i:Int)=a.fT.length:=(by simpa using h);omega
  rw[(D4 F).1,AA,(D4 H).1,AA,G0,AA];refine M _ ⟨λe=>fF ha (D4 F).2 (DI.th.2 (Xdq e)),λe=>⟨F,DI.eq.1 ?_⟩⟩;have h1:=hn F H;have h2:=of_decide_eq_false e;omega
 refine .join (λq:Int×I fI=>0<=q.1/\q.1<=a.fT.length/\(i:Int)<=q.1/\q.2.length<=q.1.toNat+(j+1)/\MG (DK a) (DK b) q.1.toNat (j+1) q.2) (λae P=>?_) λq J=>K _ ?_
 ·refine .ite (λh=>?_) λh=>?_
  ·rw[(D4 H).1,AA];refine .bind (.gH (by decide) (by simp;omega)) λo Z=>P _ ?_;dsimp only;rw[Xa3,Z];exact⟨by omega,by omega,by omega,by simp;omega,Q.b hb (D4 H).2 (a1.1 h)⟩
  obtain⟨F,e⟩:=a1.2 (by simpa using h);rw[(D4 F).1,AA];refine .bind (.gH (by decide) (by simp;omega)) λo Z=>P _ ?_;rw[AM (by omega)];dsimp only;rw[show ((i:Int)+1).toNat=i+1 by omega,Z];exact⟨by omega,by omega,by omega,by simp;omega,Q.c ha hb (D4 F).2 (by rw[(D4 H).2,e])⟩
 obtain⟨q1,q2,q3,q4,q5⟩:=J;rw[AM (by omega)];dsimp only;rw[show ((j:Int)+1).toNat=j+1 by omega];exact⟨q1,q2,by omega,by omega,q4,q5,by omega⟩
def lT {α ρ:Type}{l m:I α}(H:l.length=m.length){c:α->α->C}(J :∀x y,c x y=true↔x=y){r:O ρ}{K:Unit->O ρ}{body:(Unit->O ρ)->α->Nat->Unit->O ρ} (P :∀(next:Unit->O ρ) (i:Nat) x y,iB m (i:Int)=some y->body next x i ()=if c x y=true then next () else r) :∃e:C,(e=true↔l=m)/\AH K body l 0 ()=if e=true then K () else r:=by
 refine⟨!MH (λi x=>!((m[i]?).map (c x)).getD true) l 0,?_,?_⟩
 ·rw[Xbj,IJ];constructor
  ·intro h;apply List.ext_getElem?;intro i;cases F:l[i]? with
   | none=>rw[List.getElem?_eq_none_iff] at F;rw[eq_comm,List.getElem?_eq_none_iff];omega
   | some x=>have Q:=(X15.1 F).1;have:=h i x F;rw[Xaa,X14 (by omega)] at this;rw[X14 (by omega),(J x _).1 (by simpa using this)]
  rintro rfl j x F;rw[Xaa,F];simp[(J x x).2 rfl]
 rw[W8 (bad:=λi x=>!((m[i]?).map (c x)).getD true) (st:=λ_ _=>()) (r:=r) (λnext i x s F=>by
  cases s;have Q:=(X15.1 F).1;have M:m[i]?=some (m[i]'(by omega)):=X14 (by omega);rw[P next i x _ (Ep M),M];show _=if (!c x (m[i]'(by omega)))=true then r else next ()
  cases c x (m[i]'(by omega))<;>rfl)]
 cases MH (λi x=>!((m[i]?).map (c x)).getD true) l 0<;>rfl
def Ok.vH {α ρ:Type}{l m:I α}{Q:ρ->Prop}{K:Unit->O ρ}{body:(Unit->O ρ)->α->Nat->Unit->O ρ}(c:α->α->C)(r:O ρ)(F:l.length=m.length)(J :∀x y,c x y=true↔x=y) (M :∀(next:Unit->O ρ) (i:Nat) x y,iB m (i:Int)=some y->body next x i ()=if c x y=true then next () else r) (P:l≠m->Ok r Q) (U:l=m->Ok (K ()) Q):Ok (AH K body l 0 ()) Q:=by obtain⟨e,H,V⟩:=lT F J (K:=K) M;rw[V];exact .ite (λh=>U (H.1 h)) λh=>P λY=>h (H.2 Y)
def cS (x y:oA):C:=(x.Set==y.Set)&&decide (x.lf=y.lf)
def dq (x y:oA):cS x y=true↔x=y:=by unfold cS;cases x;cases y;simp
def cU (x y:gF):C:=(x.Flags==y.Flags)&&((x.hB==y.hB)&&decide (x.Data=y.Data))
def eZ (x y:gF):cU x y=true↔x=y:=by unfold cU;cases x;cases y;simp
def WU (x y:oF):oF.qK x y=true↔x=y:=by unfold oF.qK;cases x;cases y;simp
def XN (x y:ls):ls.qK x y=true↔x=y:=by unfold ls.qK;cases x;cases y;simp[and_assoc]
def Tc (a b:gE):Ok (CP a b) λv=>v=true↔a=b:=by
 unfold CP;have ne :∀{p:Prop},p->(a=b->¬ p)->Ok (some false) λv=>v=true↔a=b:=λhp h=>.ret ⟨λe=>(by cases e),λe=>absurd hp (h e)⟩;refine .join (λv=>(v=true->a≠b)/\(v=false->a.gT=b.gT/\a.Next=b.Next/\a.qW=b.qW/\a.qd=b.qd/\a.qz=b.qz/\a.Path.length=b.Path.length/\a.cW.length=b.cW.length/\a.ls.length=b.ls.length/\a.gS.length=b.gS.length)) (λk F=>?_) λv J=>?_
 ·refine .ite (λh=>F _ ⟨λ_ e=>by rw[e] at h;simp at h,λe=>(by cases e)⟩) λK=>?_;refine .ite (λh=>F _ ⟨λ_ e=>by rw[e,Addr.sq] at h;simp at h,λe=>(by cases e)⟩) λM=>?_;refine .ite (λh=>F _ ⟨λ_ e=>by rw[e] at h;simp at h,λe=>(by cases e)⟩) λP=>?_;refine .ite (λh=>F _ ⟨λ_ e=>by rw[e] at h;simp at h,λe=>(by cases e)⟩) λQ=>?_;refine .ite (λh=>F _ ⟨λ_ e=>by rw[e] at h;simp at h,λe=>(by cases e)⟩) λU=>?_;refine .ite (λh=>F _ ⟨λ_ e=>by rw[e] at h;simp at h,λe=>(by cases e)⟩) λV=>?_;refine .ite (λh=>F _ ⟨λ_ e=>by rw[e] at h;simp at h,λe=>(by cases e)⟩) λY=>?_;refine .ite (λh=>F _ ⟨λ_ e=>by rw[e] at h;simp at h,λe=>(by cases e)⟩) λZ=>?_;refine F _ ⟨λh e=>by rw[e] at h;simp at h,λh9=>?_⟩;refine⟨by simpa using K,(Addr.qm _ _).1 (by simpa using M),by simpa using P,by simpa using Q,by simpa using U,(by have q:(a.Path.length:Int)=b.Path.length:=(by simpa using V);omega),(by have q:(a.cW.length:Int)=b.cW.length:=(by simpa using Y);omega),(by have q:(a.ls.length:Int)=b.ls.length:=(by simpa using Z);omega),(by have q:(a.gS.length:Int)=b.gS.length:=(by simpa using h9);omega)⟩
 refine .ite (λh=>.ret ⟨λe=>(by cases e),λe=>absurd e (J.1 h)⟩) λh=>?_;obtain⟨a1,a2,a3,a4,a5,l1,l2,l3,l4⟩:=J.2 (by simpa using h);rw[AC]
 refine Ok.vH (m:=b.Path) cS (some false) l1 dq (λnext i x y H=>by
  rw[AC,H,AA,AA,P4];unfold cS
  cases x.Set==y.Set<;>cases decide (x.lf=y.lf)<;>rfl) (λq=>.ret ⟨λe=>(by cases e),λe=>absurd (by rw[e]) q⟩) λb1=>?_
 show Ok (AB _ _) _;rw[AC]
 refine Ok.vH (m:=b.cW) oF.qK (some false) l2 WU (λnext i x y H=>by
  rw[H,AA]
  cases oF.qK x y<;>rfl) (λq=>.ret ⟨λe=>(by cases e),λe=>absurd (by rw[e]) q⟩) λb2=>?_
 show Ok (AB _ _) _;rw[AC]
 refine Ok.vH (m:=b.ls) ls.qK (some false) l3 XN (λnext i x y H=>by
  rw[H,AA]
  cases ls.qK x y<;>rfl) (λq=>.ret ⟨λe=>(by cases e),λe=>absurd (by rw[e]) q⟩) λb3=>?_
 show Ok (AB _ _) _;rw[AC]
 refine Ok.vH (m:=b.gS) cU (some false) l4 eZ (λnext i x y H=>by
  rw[AC,H,AA,AA,AA,T8,T8];unfold cU;have e:(x.Data==y.Data)=decide (x.Data=y.Data):=by
   by_cases h:x.Data=y.Data
   ·rw[h];simp
   rw[Wd h];simpa using h
  rw[e]
  cases hf:x.Flags==y.Flags<;>cases ht:x.hB==y.hB<;>cases decide (x.Data=y.Data)<;>simp[bne,hf,ht]) (λq=>.ret ⟨λe=>(by cases e),λe=>absurd (by rw[e]) q⟩) λb4=>?_
 refine .ret ⟨λ_=>?_,λ_=>rfl⟩;cases a;cases b;simp_all
def Ok.vd {α:Type}{l m:I α}{body:(Unit->O C)->α->Nat->Unit->O C}(c:α->α->C)(F :∀x y,c x y=true↔x=y) (H :∀(next:Unit->O C) (i:Nat) x y,iB m (i:Int)=some y->body next x i ()=if c x y=true then next () else some false) : Ok (if ((l.length:Int) !=(m.length:Int))=true then some false else AB (τ:=Unit) (λJ=>AH (σ:=Unit) (λ_=>J ()) body l 0 ()) λ_=>some true) λv=>v=true↔l=m:=by
 refine .ite (λh=>.ret ⟨λe=>(by cases e),λe=>by rw[e] at h;simp at h⟩) λh=>?_;have K:l.length=m.length:=by have q:(l.length:Int)=m.length:=(by simpa using h);omega
 rw[AC];exact Ok.vH (m:=m) c (some false) K F H (λq=>.ret ⟨λe=>(by cases e),λe=>absurd e q⟩) λq=>.ret ⟨λ_=>q,λ_=>rfl⟩
def ln (l m:I Int):Ok (CG l m) λv=>v=true↔l=m:=by unfold CG;exact Ok.vd (λx y=>x==y) (λx y=>by simp) λnext i x y F=>by rw[F,AA];cases h:x==y<;>simp[bne,h]
def jP (l m:I S):Ok (Bq l m) λv=>v=true↔l=m:=by
 unfold Bq
 exact Ok.vd (λx y=>(x.toNat:Int)==(y.toNat:Int)) (λx y=>by
  rw[Xc0]
  exact⟨λh=>UInt8.toNat_inj.1 (by omega),λh=>by rw[h]⟩) λnext i x y F=>by
  rw[F,AA];cases h:(x.toNat:Int)==(y.toNat:Int)<;>simp only[bne,h]<;>rfl
def kM (l m:I oF):Ok (Aj l m) λv=>v=true↔l=m:=by unfold Aj;exact Ok.vd oF.qK WU λnext i x y F=>by rw[F,AA];cases h:oF.qK x y<;>simp[h]
def gI (l m:I ls):Ok (A6 l m) λv=>v=true↔l=m:=by unfold A6;exact Ok.vd ls.qK XN λnext i x y F=>by rw[F,AA];cases h:ls.qK x y<;>simp[h]
def Ok.val {m:O C}{p:Prop}[Decidable p](h:Ok m λv=>v=true↔p):m=some (decide p):=by
 obtain⟨v,H,F⟩:=h;rw[H];congr 1;by_cases hp:p
 ·rw[Xn hp];exact F.2 hp
 rw[Wd hp];cases v
 ·rfl
 exact absurd (F.1 rfl) hp
def mX (x y:oA):FA x y=some (cS x y):=by unfold FA cS;rw[AC,Ok.val (ln x.lf y.lf),AA];cases x.Set==y.Set<;>rfl
def mM (x y:gF):E7 x y=some (cU x y):=by unfold E7 cU;rw[AC,Ok.val (jP x.Data y.Data),AA];cases x.Flags==y.Flags<;>cases x.hB==y.hB<;>rfl
def mG (l m:I oA):Ok (AL l m) λv=>v=true↔l=m:=by unfold AL;exact Ok.vd cS dq λnext i x y F=>by rw[F,AA,mX,AA];cases h:cS x y<;>simp[h]
def lj (l m:I gF):Ok (AK l m) λv=>v=true↔l=m:=by unfold AK;exact Ok.vd cU eZ λnext i x y F=>by rw[F,AA,mM,AA];cases h:cU x y<;>simp[h]
def YP (a b:gE):Ok (Gx a b) λv=>v=true↔a=b:=by
 unfold Gx;refine .join (λv=>v=true↔a=b) (λk F=>?_) λv P=>.ret P;have no:(a=b->False)->Ok (k false) λv=>v=true↔a=b:=λh=>F false ⟨λe=>(by cases e),λe=>(h e).elim⟩;refine .ite (λQ=>?_) λh=>no λe=>h (by rw[e];simp);refine .ite (λU=>?_) λh=>no λe=>h (by rw[e];exact Addr.sq _);refine .ite (λV=>?_) λh=>no λe=>h (by rw[e];simp);refine .ite (λY=>?_) λh=>no λe=>h (by rw[e];simp);refine .ite (λZ=>?_) λh=>no λe=>h (by rw[e];simp);refine .bind (mG _ _) λv6 H=>.ite (λq6=>?_) λh=>no λe=>h (H.2 (by rw[e]));refine .bind (kM _ _) λv7 J=>.ite (λq7=>?_) λh=>no λe=>h (J.2 (by rw[e]));refine .bind (gI _ _) λv8 K=>.ite (λq8=>?_) λh=>no λe=>h (K.2 (by rw[e]));refine .bind (lj _ _) λv9 M=>F _ ⟨λq9=>?_,λe=>M.2 (by rw[e])⟩;have b1:a.gT=b.gT:=by simpa using Q
 have b2:a.Next=b.Next:=(Addr.qm _ _).1 U;have b3:a.qW=b.qW:=by simpa using V
 have b4:a.qd=b.qd:=by simpa using Y
 have b5:a.qz=b.qz:=by simpa using Z
 have b6:=H.1 q6;have b7:=J.1 q7;have b8:=K.1 q8;have b9:=M.1 q9;cases a;cases b;simp_all
def MN (a b:o3):Ok (BB a b) λv=>v=true↔a=b:=by
 unfold BB;refine .join (λv=>v=true↔a=b) (λk F=>?_) λv J=>.ret J;have no:(a=b->False)->Ok (k false) λv=>v=true↔a=b:=λh=>F false ⟨λe=>(by cases e),λe=>(h e).elim⟩;refine .ite (λK=>?_) λh=>no λe=>h (by rw[e];exact (fI.qm _ _).2 rfl);refine .ite (λM=>?_) λh=>no λe=>h (by rw[e];simp);refine .bind (Tc _ _) λP H=>F _ ⟨λq3=>?_,λe=>H.2 (by rw[e])⟩;have b1:=(fI.qm _ _).1 K;have b2:a.qM=b.qM:=by simpa using M
 have b3:=H.1 q3;cases a;cases b;simp_all
def Xu (a b:o3):Ok (Fp a b) λv=>v=true↔a=b:=by
 unfold Fp;refine .join (λv=>v=true↔a=b) (λk F=>?_) λv J=>.ret J;have no:(a=b->False)->Ok (k false) λv=>v=true↔a=b:=λh=>F false ⟨λe=>(by cases e),λe=>(h e).elim⟩;refine .ite (λK=>?_) λh=>no λe=>h (by rw[e];exact (fI.qm _ _).2 rfl);refine .ite (λM=>?_) λh=>no λe=>h (by rw[e];simp);refine .bind (YP _ _) λP H=>F _ ⟨λq3=>?_,λe=>H.2 (by rw[e])⟩;have b1:=(fI.qm _ _).1 K;have b2:a.qM=b.qM:=by simpa using M
 have b3:=H.1 q3;cases a;cases b;simp_all
def N1 (a b:o3):C:=(BB a b).getD false
def Z2 (a b:o3):BB a b=some (N1 a b):=by obtain⟨v,h,_⟩:=MN a b;unfold N1;rw[h];rfl
def UE (a b:o3):N1 a b=true↔a=b:=by obtain⟨v,h,F⟩:=MN a b;unfold N1;rw[h];exact F
def Yq (a b:o3):Fp a b=some (N1 a b):=by obtain⟨v,h,F⟩:=Xu a b;rw[h];congr 1;have:=UE a b;cases v<;>cases H:N1 a b<;>simp_all
def WV (b:iA)(p:fI):o3×C:=QK (Im b.fT p)
def ug (a b:iA)(p:fI):C:=!(((WV a p).2==(WV b p).2)&&N1 (WV a p).1 (WV b p).1)
def ef {b:iA}(h:VR b)(p:fI):Cj b p=some (WV b p):=lh (lM h.wH.uc h.rN p)
def aQ {a b:iA}(F:VR a)(H:VR b)(x:fI):Do x a b=some (!ug a b x,a,b):=by
 unfold Do ug;rw[ef F,ef H];cases WV a x with
 | mk J K=>cases WV b x with
  | mk M P=>rw[AA];dsimp only;rw[AA];dsimp only;rw[AC,Yq,AA];cases K<;>cases P<;>cases N1 J M<;>rfl
def RE {g:fT×C}(h:(QK g).2=false):(QK g).1=vW:=by
 unfold QK at h⊢;split at h
 ·cases h
 rename_i F;rw[Xk F]
def lP {ρ:Type}{a b:iA}(x:fI)(K:C->O ρ):(Xg (some (QK (Im a.fT x))) λ(Q,J)=>Xg (some (QK (Im b.fT x))) λ(v9,v10)=>AB (τ:=C) (λF=>if (!(J==v10)) then F true else if J then Xg (BB Q v9) λH=>F (cond false true (cond true (!H) false)) else F false) K)=K (ug a b x):=by
 unfold ug WV;have M:=@RE (Im a.fT x);have P:=@RE (Im b.fT x);generalize QK (Im a.fT x)=u at *;generalize QK (Im b.fT x)=w at *;obtain⟨U,V⟩:=u;obtain⟨Y,Z⟩:=w;dsimp only at M P⊢;rw[AA];dsimp only;rw[AA];dsimp only;rw[AC,Z2,AA];cases V<;>cases Z
 ·rw[M rfl,P rfl,(UE vW vW).2 rfl];rfl
 ·rfl
 ·rfl
 cases N1 U Y<;>rfl
def lS {c d:I fI}(F:L9 c)(H:L9 d)(h :∀x,x∈c↔x∈d):c=d:=jS (key:=λx=>x) DI F H h
def jl {ρ:Type}{a b:iA}(ha:a.fT.length<=1000000)(hb:b.fT.length<=1000000)(K:I fI->O ρ) : AB (τ:=(I fI)) (λZ=>AH (σ:=(I fI)) (λU=>Z U ) (λJ (x4:I fT) i5 U=>AB (τ:=(I fI)) (λk6=>AB (τ:=(I fI)) (λk7=>AH (σ:=(I fI)) (λM=>k7 M ) (λF (P:fT) i11 M=>Xg (gH (α:=fI) 32 M ([P.o3.fI]:I fI)) λQ=>F Q ) x4 0 U ) λV=>k6 V ) λY=>J Y ) ([a.fT,b.fT]:I (I fT)) 0 [] ) K=K (DK a++DK b):=by
 have go :∀(K:I fI->O ρ) (l:I fT) (i:Nat) (H:I fI),H.length+l.length<=10000000->AH (σ:=(I fI)) (λM=>K M) (λF (P:fT) i11 M=>Xg (gH (α:=fI) 32 M ([P.o3.fI]:I fI)) λQ=>F Q) l i H=K (H++l.map kH):=by
  intro K l;induction l with
  | nil=>intro i H _;rw[Kx];simp
  | cons x t ih=>intro i H h;simp only[X11] at h;rw[BX,AI (by decide) (by simp;omega),AA];refine (ih _ _ (by simp;omega)).trans ?_;simp[kH]
 rw[AC,BX,AC,AC,go _ _ _ _ (by simp;omega)];show AH _ _ _ _ _=_;rw[BX,AC,AC,go _ _ _ _ (by simp;omega)];show K _=_;rw[Xba];rfl
def j9 (a b:fI):s5 a b=true↔BY a b<0:=by unfold s5;simp
def fo {a b:iA}(J:VR a)(K:VR b) :∃c,Cm a b=some c/\Gy a b=some (c.filter (ug a b))/\c.length<=1000000:=by
 have la:=J.len;have lb:=K.len;obtain⟨c,V,Y,Z⟩:=XD J.keys K.keys (by omega) (by omega);unfold Gy;rw[jl (by omega) (by omega)];have hk:(DK a++DK b).length<=512:=by unfold DK;simp;omega
 obtain⟨r,hr,P,r2⟩:=WX (l:=DK a++DK b) (by omega);have a1:r.length<=512:=by rw[P.length_eq];exact hk
 obtain⟨d,hd,Q,U⟩:=SI (l:=r) r2 (by omega);have e:d=c:=lS (Q.imp λh=>(j9 _ _).1 h) Y λx=>by rw[U,Z,P.mem_iff,X22]
 subst e;have F:d.length<=1000000:=by
  have M:d.Nodup:=Q.imp λ{x y} h e=>by subst e;rw[Qa] at h;cases h
  have:=M.length_le_of_subset (l₂:=r) λx hx=>(U x).1 hx;omega
 refine⟨d,V,?_,F⟩;rw[hr,AA,hd,AA];have H:Af d a b=some (d.filter (ug a b),a,b):=
  ZP (f:=λx (s:iA×iA)=>Do x s.1 s.2) (z:=⟨⟨false,0,0⟩,0⟩) (c:=(a,b)) (λx=>aQ J K x) F
 rw[H,AA]
def Wh {a b:iA}{c:I fI}(hc:Cm a b=some c)(hl:c.length<=1000000):Gw a b=some (c.filter (ug a b)):=by
 unfold Gw;rw[hc,AA,AC];have go :∀(l:I fI) (i:Nat) (F:I fI),F.length+l.length<=1000000->AH (σ:=(I fI)) (λM=>(λP=>some P) M) (λH (Q:fI) i6 M=>Xg (CJ a Q) λ(v7,v8)=>Xg (CJ b Q) λ(v9,v10)=>AB (τ:=C) (λJ=>if (!(v8==v10)) then J true else if v8 then Xg (BB v7 v9) λU=>J (cond false true (cond true (!U) false)) else J false ) λV=>AB (τ:=(I fI)) (λK=>if V then Xg (gH (α:=fI) 32 M ([Q]:I fI)) λY=>K Y else K M ) λZ=>H Z) l i F=some (F++l.filter (ug a b)):=by
  intro l;induction l with
  | nil=>intro i F _;rw[Kx];simp
  | cons x t ih=>
   intro i F h;simp only[X11] at h;rw[BX,Ug a,Ug b];refine (lP (a:=a) (b:=b) x _).trans ?_;rw[AC];cases hm:ug a b x
   ·rw[Xk (by simp)];refine (ih _ _ (by omega)).trans ?_;rw[Xc2 (by simp[hm])]
   rw[Xl rfl,AI (by decide) (by simp;omega),AA];refine (ih _ _ (by simp;omega)).trans ?_;rw[List.filter_cons_of_pos hm];simp
 exact (go c 0 [] (by simpa using hl)).trans (by simp)
def U6 (l:I fI):C2 l l=some true:=by
 unfold C2
 rw[Xk (by simp),AC,Gg (l:=l) λnext i x F=>by
  rw[Ep F,AA,(fI.qm x x).2 rfl];rfl]
def Z4 (a0:iA)(Z:I Int)(a2 a3 a4:Int)(h0:iA.rH a0)(h1:Z.length<=Xb6/\Z.length<=1048576/\∀a∈Z,r7 a)(_:r7 a2)(_:r7 a3)(_:r7 a4):Dt a0 Z a2 a3 a4=some true:=by
 refine ok_eq ?_;unfold Dt;obtain⟨v,hv,a6⟩:=bZ h0;rw[hv,AA];refine .ite (λ_=>by rw[Qf,AA];exact .ret rfl) λa7=>?_;obtain⟨a8,af⟩:=a6 (by simpa using a7);unfold NZ;rw[AA];refine .bind (cC (lz h1.1)) ?_;rintro⟨f,b,d⟩ ⟨hf,K,hd⟩;dsimp only at hf K hd⊢;have F:=K.v.wH;refine .join (λ_=>True) (λk7 aa=>?_) λ_ _=>?_
 ·refine .for_ (λ_=>aa _ trivial) λnext x i s hi hx hn=>?_;have H:tF x:=by
   simp only[Xp,Xby,Xdv] at hx;rcases hx with rfl|rfl
   ·exact F
   exact a8
  refine .join (λ_=>True) (λag M=>?_) λ_ _=>hn _;rw[eY H,AA,Py H,AA];refine .join (λq=>q=false) (λah P=>.ite (λh=>absurd h (by simp)) λ_=>?_) λq Q=>.ite (λh=>by rw[Q] at h;cases h) λ_=>?_
  ·rw[M4,AA];exact P _ rfl
  refine .bind (HG (by omega)) λai _=>.bind (HG (by omega)) λaj _=>.bind (HG (by omega)) λak _=>?_;refine .join (λ_=>True) (λal U=>?_) λ_ _=>M _ trivial;refine .for_ (λ_=>U _ trivial) λnext l i s hi hl hn=>?_;have ab :∃p q:Int,l=[p,q]:=by
   simp only[Xp,Xby,Xdv] at hl;rcases hl with rfl|rfl|rfl
   ·exact⟨_,_,rfl⟩
   ·exact⟨_,_,rfl⟩
   exact⟨_,_,rfl⟩
  obtain⟨p,q,rfl⟩:=ab;have g0:iB [p,q] 0=some p:=Le p [q];have g1:iB [p,q] 1=some q:=Ji [p] q [];rw[g0,AA,g1,AA,j7 H,AA,AA,AA,Rr H,AA];refine .join (λq=>q=false) (λan V=>.ite (λh=>absurd h (by simp)) λ_=>?_) λq Q=>.ite (λh=>by rw[Q] at h;cases h) λ_=>hn _;rw[M4,AA];exact V _ rfl
 obtain⟨w,hw,_⟩:=HG (v:=a4) (n:=4) (by omega);rw[hw,AA,LU F.uc,AA];refine .bind (UL hd) ?_;rintro⟨u,d⟩ ⟨⟨hu,_,_⟩,hd⟩;dsimp only at hu hd⊢;rw[Pj hf.wP F K.sz hu,AA];refine .join (λc=>WR c) (λao J=>.ite (λh=>J _ (K.apply (by simpa using h))) λ_=>J _ (K.uD w)) λc hc=>?_;refine .join (λq=>q=true) (λap Y=>?_) λq Q=>.ret Q;rw[AA,tX F.uc,AA,AA,LU F.uc,AA,M4,AA];refine .ite (λ_=>?_) λh=>absurd rfl h;obtain⟨pc,hp,hm,ae⟩:=fo K.v hc.v;rw[hm,AA,Wh hp ae,AA,U6,AA];refine .ite (λ_=>?_) λh=>absurd rfl h;rw[Qf,AA];exact Y _ rfl
end Go.AX.Q25
end
section
namespace Go.AX.Q25
open Go Go.AX Go.Proofs
variable {wl:Prop}
instance {F:gE}:CK (C3 F) 9 [ed F] [] ed oN:=Wf 0 Tryz.f9 λh=>by unfold C3 at h;exact Wg (.y 48 48 (.c (.f0 20 2 oA.fv (λJ K=>⟨[(1,yr 1 0),(3,yi K),(20,AV.d (D.l 2 oA.fv F.Path)),(21,yi (F.Path.length:Int)),(22,yi (J:Int))],[(1,yB (gE.av F))]⟩)) (λH=>⟨[(1,yr 1 0),(3,yi H)],[(1,yB (gE.av F))]⟩) λH=>.a (.f0 34 3 gF.fv (λM P=>⟨[(1,X),(3,yi P),(34,AV.d (D.l 3 gF.fv F.gS)),(35,yi (F.gS.length:Int)),(36,yi (M:Int))],[(1,N)]⟩)) (λQ=>⟨[(1,X),(3,yi Q)],[(1,N)]⟩))) h
instance QO {F:iA}:CK (F4 F) 8 [ed F] [] ed oN:=Wf 0 Tryz.f8 λh=>by unfold F4 at h;exact Wg (.y 29 29 (.c (.f0 6 18 fT.fv (λH _=>⟨[(1,yr 1 0),(6,AV.d (D.l 18 fT.fv F.fT)),(7,yi (F.fT.length:Int)),(8,yi (H:Int))],[(1,yB (iA.av F))]⟩)) (λ_=>⟨[(1,yr 1 0)],[(1,yB (iA.av F))]⟩) λ_=>.k (λJ=>⟨[(1,X),(2,yb J)],[(1,N)]⟩))) h
instance Td {F:iA}:CK (GX F) 56 [ed F] [] ed oN:=Wf 0 Tryz.f56 λh=>by
 refine⟨rfl,?_⟩;unfold GX at h;refine⟨F.fT.length,X6 _,?_⟩;refine A8 h (λK=>⟨X::yr 1 0::X::yr 3 0::dd 43 ([]),N::yB (iA.av F)::N::yB (sB.av K)::nn 43 ([])⟩) ?_ ?_
 ·intro _ h;revert h;refine EF 7 18 fT.fv rfl (λH J=>⟨X::yr 1 0::X::yr 3 0::X::X::X::AV.d (D.l 18 fT.fv F.fT)::yi (F.fT.length:Int)::yi (H:Int)::dd 37 ([]),N::yB (iA.av F)::N::yB (sB.av J)::nn 43 ([])⟩) ?_ ?_ ?_
  ·exact wk
  ·rintro J Q h;exact Wg (.e .z) h
  rintro _ H U J Q b2 c2 e2 h V;refine rf ?_;refine IB (NM b2) ?_;refine rf ?_;refine⟨GO (f:=fT.fv) b2,fT.fv U,c2,rfl,?_⟩;refine A8 h (λM=>⟨X::yr 1 0::X::yr 3 0::X::X::X::AV.d (D.l 18 fT.fv F.fT)::yi (F.fT.length:Int)::yi (H:Int)::dd 37 ([]),N::yB (iA.av F)::N::yB (sB.av M)::nn 43 ([])⟩) ?_ ?_
  ·intro _ h;refine EQ h ?_ ?_<;>intro h
   ·(conv=>whnf);refine .inl ⟨by decide,?_⟩;refine⟨_,rfl,?_⟩;(conv=>whnf);refine .inl ⟨by decide,?_⟩;exact r6 h
   (conv=>whnf);refine .inl ⟨by decide,?_⟩;refine⟨_,rfl,?_⟩;(conv=>whnf);refine .inl ⟨by decide,?_⟩;exact r6 h
  rintro M h;exact Wg .z h
 rintro K h;refine A8 h (λP=>⟨X::X::yb P::dd 44 ([]),nn 47 ([])⟩) ?_ ?_
 ·intro _ h;(conv=>whnf);refine .inl ⟨by decide,?_⟩;refine LL h λh=>?_;(conv=>whnf);refine .inl ⟨by decide,?_⟩;exact Wg .z h
 rintro P h;exact fin h
instance {F:Int} {H:Int} {J:Int}:CK (BM F H J) 89 [ed F,ed H,ed J] [] ed oN:=Wf 0 Tryz.f89 λh=>by unfold BM at h;exact Wg (.y 15 15 (.k (λK=>⟨[(6,yb K)],[]⟩))) h
instance TO {F:Addr}:CK (ET F) 144 [ed F] [] ed oN:=Wf 0 Tryz.f144 λh=>by unfold ET at h;exact Wg (.y 15 15 (.k (λH=>⟨[(2,yb H)],[]⟩))) h
instance {F:Addr}:CK (DF F) 143 [ed F] [] ed oN:=Wf 0 Tryz.f143 λh=>by unfold DF at h;exact Wg .z h
instance {F:I Addr}:CK (Ae F) 205 [ed F,AV.fn 143 []] [] ed oN:=Wf 0 Tryz.f205 λh=>by unfold Ae at h;exact Wg (.y 19 19 (.a (.f0 6 3 Addr.fv (λH _=>⟨[(0,y0 F),(1,AV.fn 143 []),(6,y0 F),(7,yi (F.length:Int)),(8,yi (H:Int))],[]⟩)) (λ_=>⟨[],[]⟩))) h
instance {F:I Addr}:CK (AW F) 142 [ed F,AV.fn 143 []] [] ed oN:=Wf 0 Tryz.f142 λh=>by unfold AW at h;exact Wg .z h
instance {F:kI}:CK (B2 F) 73 [ed F] [] ed oN:=Wf 0 Tryz.f73 λh=>by unfold B2 at h;exact Wg (.y 28 28 (.k (λH=>⟨[(2,yb H)],[]⟩))) h
instance {F:fT}:CK (E8 F) 146 [ed F] [] ed oN:=Wf 0 Tryz.f146 λh=>by unfold E8 at h;exact Wg .z h
instance {F:I fT}:CK (Ai F) 159 [ed F,AV.fn 146 []] [] ed oN:=Wf 0 Tryz.f159 λh=>by unfold Ai at h;exact Wg (.y 19 19 (.a (.f0 6 18 fT.fv (λH _=>⟨[(0,y1 F),(1,AV.fn 146 []),(6,y1 F),(7,yi (F.length:Int)),(8,yi (H:Int))],[]⟩)) (λ_=>⟨[],[]⟩))) h
instance {F:I fT}:CK (Ag F) 145 [ed F,AV.fn 146 []] [] ed oN:=Wf 0 Tryz.f145 λh=>by unfold Ag at h;exact Wg .z h
instance {F:I fT}:CK (FX F) 74 [ed F] [] ed oN:=Wf 0 Tryz.f74 λh=>by unfold FX at h;exact Wg .z h
instance {F:Addr}:CK (BG F) 147 [ed F] [] ed oN:=Wf 0 Tryz.f147 λh=>by unfold BG at h;exact Wg .z h
instance {F:Int}:CK (Ew F) 206 [ed F] [] e2 oN:=Wf 0 Tryz.f206 λh=>by unfold Ew at h;exact Wg .z h
instance {F:Addr} {H:Int}:CK (Di F H) 148 [ed F,ed H] [] ed oN:=Wf 0 Tryz.f148 λh=>by unfold Di at h;exact Wg .z h
instance {F:fI}:CK (Bd F) 75 [ed F] [] ed oN:=Wf 0 Tryz.f75 λh=>by unfold Bd at h;exact Wg (.y 29 29 (.k (λH=>⟨[(2,yb H)],[]⟩))) h
instance {F:I Int}:CK (Em F) 149 [ed F] [] ed oN:=Wf 0 Tryz.f149 λh=>by unfold Em at h;exact Wg (.y 18 18 (.a (.f0 6 1 D.i (λH _=>⟨[(3,yi 0),(6,y2 F),(7,yi (F.length:Int)),(8,yi (H:Int))],[]⟩)) (λ_=>⟨[(3,yi 0)],[]⟩))) h
instance {F:Int}:CK (cmp_isNaN_int F) 209 [ed F] [] ed oN:=Wf 0 Tryz.f209 λh=>by unfold cmp_isNaN_int at h;exact Wg .z h
instance {F:Int} {H:Int}:CK (pz F H) 151 [ed F,ed H] [] ed oN:=Wf 0 Tryz.f151 λh=>by unfold pz at h;exact Wg .z h
instance {F:Addr}:CK (Fg F) 207 [ed F] [] ed oN:=Wf 0 Tryz.f207 λh=>by unfold Fg at h;exact Wg .z h
instance {F:j}:CK (Dy F) 277 [ed F] [] ed oN:=Wf 0 Tryz.f277 λh=>by unfold Dy at h;exact Wg .z h
instance {F:j} {H:j}:CK (B1 F H) 208 [ed F,ed H] [] ed oN:=Wf 0 Tryz.f208 λh=>by unfold B1 at h;exact Wg .z h
instance {F:Addr} {H:Addr}:CK (NV F H) 150 [ed F,ed H] [] ed oN:=Wf 0 Tryz.f150 λh=>by unfold NV at h;exact Wg .z h
instance TQ {F:fI}{H:fI}:CK (Dl F H) 76 [ed F,ed H] [] ed oN:=Wf 0 Tryz.f76 λh=>by unfold Dl at h;exact Wg .z h
instance {F:Int} {H:Int} {J:Int}:CK (BL F H J) 152 [ed F,ed H,ed J] [] ed oN:=Wf 0 Tryz.f152 λh=>by unfold BL at h;exact Wg (.y 15 15 (.k (λK=>⟨[(6,yb K)],[]⟩))) h
instance {F:Int}:CK (CZ F) 154 [ed F] [] ed oN:=Wf 0 Tryz.f154 λh=>by unfold CZ at h;exact Wg (.y 9 9 (.k (λH=>⟨[(2,yb H)],[]⟩))) h
instance {F:I oA}:CK (D6 F) 153 [ed F] [] ed oN:=Wf 0 Tryz.f153 λh=>by unfold D6 at h;exact Wg (.y 75 75 (.a (.f 8 2 oA.fv (λM J=>⟨[(0,y3 F),(3,yi J),(8,y3 F),(9,yi (F.length:Int)),(10,yi (M:Int))],[]⟩) (λJ M H=>.a (.d (λP=>⟨[(5,yr 5 0),(36,yb P)],[(5,yB (oA.av H))]⟩) λP=>.b .z (.a (.f 38 1 D.i (λQ _=>⟨[(36,X),(38,AV.d (D.l 1 D.i H.lf)),(39,yi (H.lf.length:Int)),(40,yi (Q:Int))],[]⟩) (λ_ Q U=>.g (.k (λK=>⟨[(65,yb K)],[]⟩)))) (λ_=>⟨[(36,X)],[]⟩))) (λ_=>⟨[(3,yi (AQ (J+(H.lf.length:Int))))],[]⟩))) (λV=>⟨[(3,yi V)],[]⟩))) h
instance {F:I Int}:CK (C4 F) 311 [ed F] [] ed oN:=Wf 0 Tryz.f311 λh=>by
 refine⟨rfl,?_⟩;unfold C4 at h;refine⟨F.length,X6 _,?_⟩;refine rf ?_;refine EQ h ?_ ?_<;>intro h
 ·exact nomatch h
 exact Wg (.y 25 25 (.a (.w0 (u2 λH J=>⟨[(0,y2 F),(3,yi H),(4,yi J)],[]⟩)) (λK=>⟨[(3,yi K)],[]⟩))) h
instance {F:I Int}:CK (C7 F) 312 [ed F] [] ed oN:=Wf 0 Tryz.f312 λh=>by
 refine⟨rfl,?_⟩;unfold C7 at h;refine⟨F.length,X6 _,?_⟩;refine rf ?_;refine EQ h ?_ ?_<;>intro h
 ·exact nomatch h
 exact Wg (.y 25 25 (.a (.w0 (u2 λH J=>⟨[(0,y2 F),(3,yi H),(4,yi J)],[]⟩)) (λK=>⟨[(3,yi K)],[]⟩))) h
instance {F:Int} {H:I Int}:CK (Cc F H) 278 [ed F,ed H] [] ed oN:=Wf 0 Tryz.f278 λh=>by unfold Cc at h;exact Wg (.y 14 14 (.k (λJ=>⟨[(4,yb J)],[]⟩))) h
instance {F:oF}:CK (Ei F) 211 [ed F] [] ed oN:=Wf 0 Tryz.f211 λh=>by unfold Ei at h;exact Wg (.m .z) h
instance {F:oF} {H:oF}:CK (Dc F H) 212 [ed F,ed H] [] ed oN:=Wf 0 Tryz.f212 λh=>by unfold Dc at h;exact Wg .z h
instance {F:I oF}:CK (AZ F) 210 [ed F,AV.fn 211 [],AV.fn 212 []] [] ed oN:=Wf 0 Tryz.f210 λh=>by unfold AZ at h;exact Wg (.y 39 39 (.a (.f 9 2 oF.fv (λH _=>⟨[(0,y4 F),(1,AV.fn 211 []),(2,AV.fn 212 []),(9,y4 F),(10,yi (F.length:Int)),(11,yi (H:Int))],[]⟩) (λ_ H K=>.g (.k (λJ=>⟨[(34,yb J)],[]⟩)))) (λ_=>⟨[(0,y4 F)],[]⟩))) h
instance {F:I oF}:CK (DR F) 155 [ed F] [] ed oN:=Wf 0 Tryz.f155 λh=>by unfold DR at h;exact Wg .z h
instance {F:ls}:CK (CU F) 214 [ed F] [] ed oN:=Wf 0 Tryz.f214 λh=>by unfold CU at h;exact Wg (.m .z) h
instance {F:ls} {H:ls}:CK (Bw F H) 215 [ed F,ed H] [] ed oN:=Wf 0 Tryz.f215 λh=>by unfold Bw at h;exact Wg .z h
end Go.AX.Q25
end
