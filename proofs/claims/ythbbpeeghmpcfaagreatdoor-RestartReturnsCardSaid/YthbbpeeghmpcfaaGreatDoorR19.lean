/-
  Texts of one proof, packed.
-/
import Derived.Test.YthbbpeeghmpcfaaGreatDoorR16
import Derived.Test.YthbbpeeghmpcfaaGreatDoorR18
set_option linter.all false
set_option maxRecDepth 100000
set_option maxHeartbeats 4000000
open List renaming length_map→X1,length_append→X2,length_cons→X3,length_nil→X10,mem_singleton→X11,getElem?_eq_getElem→X12,getElem?_eq_some_iff→X13,length_drop→X14,length_take→X15,mem_cons_of_mem→X16,length_replicate→X17,length_set→X18,length_singleton→X19,mem_append→X20
open Option.some renaming injEq→X21
open Bool renaming and_eq_true→X24,eq_iff_iff→X25
open Option renaming bind→Xx
open Int renaming toNat→Xa0
open BitVec renaming ofInt→Xa3
open List renaming replicate→Xaa,take→Xb7,drop→Xb8
open Go.IntKind renaming i64→Xda
section
namespace Go.AX
def mH (a b:Int):Int:=if a<b then -1 else if b<a then 1 else 0
def orI:O Int->Int
 | []=>0
 | x::t=>if x=0 then orI t else x
def Cd:O Int->O Int->Int
 | x::s,y::t=>if x<y then -1 else if y<x then 1 else Cd s t
 | _,_=>0
def aJ (x:Int)(t:O Int):orI (x::t)=if x=0 then orI t else x:=rfl
def PD (x y:Int)(t:O Int):orI (mH x y::t)=if x<y then -1 else if y<x then 1 else orI t:=by
 rw[aJ];unfold mH;split
 ·rfl
 split<;>simp
def Vp (x y:Int)(s t:O Int):Cd (x::s) (y::t)=if x<y then -1 else if y<x then 1 else Cd s t:=rfl
def pX:Cd [] []=0:=rfl
def Ju :∀a:O Int,Cd a a=0
 | []=>rfl
 | x::t=>by unfold Cd;simp[Ju t]
def J1 :∀{a b:O Int},a.length=b.length->Cd a b=0->a=b
 | [],[],_,_=>rfl
 | [],_::_,h,_=>by simp at h
 | _::_,[],h,_=>by simp at h
 | x::s,y::t,h,e=>by
  unfold Cd at e;split at e
  ·simp at e
  split at e
  ·simp at e
  rw[J1 (by simpa using h) e,show x=y by omega]
def O4 :∀a b:O Int,Cd b a=- Cd a b
 | [],[]=>rfl
 | [],_::_=>rfl
 | _::_,[]=>rfl
 | x::s,y::t=>by unfold Cd;have:=O4 s t;split<;>split<;>first|omega|(split<;>omega)
def SB :∀{a b c:O Int},a.length=b.length->b.length=c.length->Cd a b<0->Cd b c<0->Cd a c<0
 | [],_,_,_,_,h,_=>by simp[Cd] at h
 | _::_,[],_,h,_,_,_=>by simp at h
 | _::_,_::_,[],_,h,_,_=>by simp at h
 | x::s,y::t,z::u,h1,J,H,F=>by
  have K:=@SB s t u (by simpa using h1) (by simpa using J);unfold Cd at H F⊢;by_cases a1:x<y
  ·by_cases a2:y<z
   ·rw[Xa2 (by omega)];omega
   rw[Xa1 a2] at F;by_cases a3:z<y
   ·rw[Xa2 a3] at F;omega
   rw[Xa2 (by omega)];omega
  rw[Xa1 a1] at H;by_cases a4:y<x
  ·rw[Xa2 a4] at H;omega
  rw[Xa1 a4] at H;have:x=y:=by omega
  subst this;by_cases a2:x<z
  ·rw[Xa2 a2];omega
  rw[Xa1 a2] at F⊢;by_cases a3:z<x
  ·rw[Xa2 a3] at F;omega
  rw[Xa1 a3] at F⊢;exact K H F
section
variable {X:Type} {key:X->O Int}
def Gb (key:X->O Int)(a b:X):I:=decide (Cd (key a) (key b)<0)
def Oc (a:X):Gb key a a=false:=by unfold Gb;rw[Ju];rfl
def QZ (F :∀a b:X,(key a).length=(key b).length)(a b c:X)(H:Gb key a b=true)(J:Gb key b c=true):Gb key a c=true:=by unfold Gb at *;simp only[Xy] at *;exact SB (F _ _) (F _ _) H J
def OX (F :∀a b:X,(key a).length=(key b).length)(a b:X)(h:Gb key a b=false):key a=key b\/Gb key b a=true:=by
 unfold Gb at *;simp only[Xav,Xy] at *;have:=O4 (key a) (key b);by_cases H:Cd (key a) (key b)=0
 ·exact .inl (J1 (F _ _) H)
 exact .inr (by omega)
def Zn (F :∀a b:X,(key a).length=(key b).length)(a b:X)(h:Gb key a b=true):Gb key b a=false:=by
 cases h1:Gb key b a
 ·rfl
 have:=QZ F _ _ _ h h1;rw[Oc] at this;simp at this
def rG (F :∀a b:X,(key a).length=(key b).length)(a b c:X)(H:Gb key a b=false)(J:Gb key b c=false):Gb key a c=false:=by
 rcases OX F _ _ H with e|H
 ·unfold Gb at *;rw[e];exact J
 rcases OX F _ _ J with e|J
 ·refine Zn F _ _ ?_;unfold Gb at *;rw[<- e];exact H
 exact Zn F _ _ (QZ F _ _ _ J H)
variable {cmp:X->X->C Int}
def iR (F :∀a b,cmp a b=some (Cd (key a) (key b)))(a b:X):Iv cmp a b=Gb key a b:=by unfold Iv;rw[F];rfl
def Xv (K :∀a b:X,(key a).length=(key b).length)(F :∀a b,cmp a b=some (Cd (key a) (key b))){l:O X}(P:l.length<=1000000000) : Ok (Gf cmp l) λr=>r.Perm l/\r.Pairwise λa b=>Gb key b a=false:=by obtain⟨r,M⟩:=eF (cmp:=cmp) (l:=l) (r4 (λa _ b _=>⟨_,F a b⟩) (λa _=>by rw[iR F,Oc]) (λa _ b _ c _ H J=>by rw[iR F] at *;exact QZ K _ _ _ H J) (λa _ b _ c _ H J=>by rw[iR F] at *;exact rG K _ _ _ H J) P);obtain⟨H,J⟩:=N6 M;exact⟨r,M,H,J.imp λh=>by rw[iR F] at h;exact h⟩
def jL {l:O X}(F :∀a b:X,(key a).length=(key b).length)(H:l.Pairwise λa b=>Gb key b a=false)(J:l.Pairwise λa b=>key a≠key b):l.Pairwise λa b=>Gb key a b=true:=
 (H.and J).imp λ{a b} h=>(OX F b a h.1).resolve_left λe=>h.2 e.symm
def iP (F :∀a b:X,(key a).length=(key b).length){l m:O X}(H:l.Pairwise λa b=>Gb key a b=true)(J:m.Pairwise λa b=>Gb key a b=true)(h :∀x,x∈l↔x∈m):l=m:=
 KN (lt:=λa b=>Gb key a b=true) (λa h=>by rw[Oc] at h;simp at h) (λa b c=>QZ F a b c) H J h
end
def ME {α:Type}{lt:α->α->I}(htr :∀a b c,lt a b=true->lt b c=true->lt a c=true)(hirr :∀a,lt a a=false){l:O α}{x:α}(M:l.Pairwise λa b=>lt a b=true) : x∈l↔l[(l.takeWhile (lt · x)).length]?=some x:=by
 constructor
 ·intro F;rw[<- Xbn (p:=(lt · x)) (l:=l),X20] at F;rcases F with F|F
  ·have:=Ja (lt · x) F;rw[hirr] at this;simp at this
  have P:=(C1 (lt · x) l).2;cases H:l.dropWhile (lt · x) with
  | nil=>rw[H] at F;simp at F
  | cons y t=>
   have Q:lt y x=false:=by have:=List.head?_dropWhile_not (lt · x) l;rw[H] at this;simpa using this
   have U:(y::t).Pairwise λa b=>lt a b=true:=by rw[<- H];exact M.sublist (List.dropWhile_sublist _)
   rw[H] at F;have J:x=y:=by
    rcases Xa7.1 F with e|e
    ·exact e
    have:=(Xab.1 U).1 x e;rw[Q] at this;simp at this
   have K:(l.drop (l.takeWhile (lt · x)).length)[0]?=some x:=by rw[P,H,J];rfl
   rw[List.getElem?_drop] at K;simpa using K
 intro h;exact Xbz h
def Ld {α:Type}(e:α->α->I)(z:α)(a0:O α):C (O α):=
 if (decide ((a0.length:Int)<2)) then
  some a0
 else
  AC (τ:=Unit) (λk1=>Ad (σ:=Int) (λH F=>if (decide (F<(a0.length:Int))) then AC (τ:=Unit) (λk4=>Xx (gN a0 F) λv5=>Xx (gN a0 (AG (F-1))) λv6=>if (e v5 v6) then Xx (Ch (0<=F/\F<=(a0.length:Int)/\(a0.length:Int)<=(a0.length:Int))) λ_=>AC (τ:=Int×(O α)) (λk7=>Ad (σ:=Int×Int×(O α)) (λJ (v9,v10,v11)=>if (decide (v10<(((Xa0 (a0.length:Int)-Xa0 F):Nat):Int))) then Xx (gN (Xb7 (Xa0 (a0.length:Int)-Xa0 F) (Xb8 (Xa0 F) v11)) v10) λM=>Xx (gN (Xb7 (Xa0 (a0.length:Int)-Xa0 F) (Xb8 (Xa0 F) v11)) (AG (v10-1))) λP=>AC (τ:=Int×(O α)) (λK=>if (!(e M P)) then Xx (gN (Xb7 (Xa0 (a0.length:Int)-Xa0 F) (Xb8 (Xa0 F) v11)) v10) λQ=>Xx (gN v11 v9) λa6=>Xx (Bu v11 v9 Q) λU=>K ((AG (v9+1)),U) else K (v9,v11) ) λ(V,Y)=>J (V,(AG (v10+1)),Y) else k7 (v9,v11) ) xv (F,1,a0) ) λ(v20,v21)=>Xx (Ch (0<=v20/\v20<=(v21.length:Int)/\(v21.length:Int)<=(v21.length:Int))) λ_=>Xx (part (Xb7 (Xa0 v20) v21++Xaa (Xa0 (v21.length:Int)-Xa0 v20) z++Xb8 ((Xa0 v20)+(Xa0 (v21.length:Int)-Xa0 v20)) v21) 0 v20) λZ=>some Z else k4 () ) λ_=>H (AG (F+1)) else k1 () ) xv 1
  ) λ_=>
  some a0
def eV {α:Type}{l:O α}{i:Int}{x:α}(F:0<=i)(h:l[i.toNat]?=some x):gN l i=some x:=by have:=(X13.1 h).1;unfold gN;rw[Xa2 (by omega),h]
def OS {α:Type}{l:O α}{i:Nat}{x:α}(h:i<l.length):(l.set i x).take (i+1)=l.take i++[x]:=by rw[Xbr,List.take_set_of_le (Xak _),Xe0 h];rfl
section
variable {α:Type} {lt:α->α->I} (hirr :∀a,lt a a=false) (htr :∀a b c,lt a b=true->lt b c=true->lt a c=true) (htot :∀a b,lt a b=false->a=b\/lt b a=true)
include htr htot
def cI {p q:O α}{y z:α}(P:p.Pairwise λa b=>lt a b=true)(J :∀x,x∈p↔x∈q)(Q :∀x∈q,lt z x=false)(F:lt y z=false)(H:y≠z) : (p++[y]).Pairwise (λa b=>lt a b=true)/\∀x,x∈p++[y]↔x∈q++[y]:=by
 refine⟨Xbj.2 ⟨P,by simp,λx U w K=>?_⟩,λx=>by rw[X20,X20,J]⟩;rw[X11] at K;subst K;have V:=Q x ((J x).1 U);have M:lt z w=true:=(htot _ _ F).resolve_left H;rcases htot _ _ V with e|e
 ·rw[<- e];exact M
 exact htr _ _ _ e M
include hirr
def LM {e:α->α->I}{zz:α}(he :∀a b,e a b=true↔a=b){l:O α}(hs:l.Pairwise λa b=>lt b a=false)(hl:l.length<=1000000000) : Ok (Ld e zz l) λc=>c.Pairwise (λa b=>lt a b=true)/\(∀x,x∈c↔x∈l):=by
 have J :∀(k:Nat) (z:α),l[k]?=some z->∀x∈l.take (k+1),lt z x=false:=by
  intro k z K x hx;obtain⟨i,hi,rfl⟩:=List.mem_iff_getElem.1 hx;rw[X15] at hi;obtain⟨M,rfl⟩:=X13.1 K;rw[Xc1];by_cases e:i=k
  ·subst e;exact hirr _
  exact List.pairwise_iff_getElem.1 hs i k (by omega) M (by omega)
 have P :∀(k:Nat) (z y:α),l[k]?=some z->l[k+1]?=some y->lt y z=false:=by intro k z y K hy;obtain⟨M,rfl⟩:=X13.1 K;obtain⟨ae,rfl⟩:=X13.1 hy;exact List.pairwise_iff_getElem.1 hs k (k+1) M ae (by omega)
 have Q :∀(k:Nat) (y:α),l[k]?=some y->l.take (k+1)=l.take k++[y]:=by intro k y K;rw[Xbr,K];rfl
 have Z :∀(k:Nat) (z:α),l[k]?=some z->z∈l.take (k+1):=by intro k z K;rw[Q k z K];simp
 unfold Ld;refine .ite (λh=>?_) λh=>?_
 ·simp only[Xy] at h;refine .ret ⟨?_,λ_=>Iff.rfl⟩;match l,h with
  | [],_=>exact .nil
  | [x],_=>simp
  | x::y::t,h=>simp at h;omega
 simp only[Xy] at h;refine .join (λ_=>l.Pairwise λa b=>lt a b=true) (λk1 M=>?_) λ_ h=>.ret ⟨h,λ_=>Iff.rfl⟩;refine .Dr (λv:Int=>1<=v/\v<=l.length/\(l.take v.toNat).Pairwise λa b=>lt a b=true) (λv=>(l.length-v).toNat) ⟨by omega,by omega,?_⟩ (BE (by omega)) λnext v hv af=>?_
 ·match l,h with
  | x::t,_=>simp
  | [],h=>simp at h
 obtain⟨v1,v2,v3⟩:=hv;refine .ite (λag=>?_) λah=>?_;rotate_left
 ·simp only[Xy] at ah;refine M () ?_;have:v.toNat=l.length:=by omega
  rw[this,Xd3] at v3;exact v3
 simp only[Xy] at ag;obtain⟨n,rfl⟩ :∃n:Nat,v=((n+1:Nat):Int):=⟨(v-1).toNat,by omega⟩;have hn:n+1<l.length:=by omega
 have gy:l[n+1]?=some l[n+1]:=X12 hn;have gz:l[n]?=some l[n]:=X12 (by omega);have e1:gN l ((n+1:Nat):Int)=some l[n+1]:=Ae hn;have e2:gN l (AG (((n+1:Nat):Int)-1))=some l[n]:=by rw[AK (by omega),show ((n+1:Nat):Int)-1=(n:Int) by omega];exact Ae (by omega)
 refine .join (λ_=>l[n+1]≠l[n]) (λk4 ai=>?_) λ_ F=>?_;rotate_left
 ·rw[AK (by omega)];refine af _ ⟨by omega,by omega,?_⟩ (by omega);have:=(cI htr htot (p:=l.take (n+1)) (q:=l.take (n+1)) v3 (λ_=>Iff.rfl) (J n _ gz) (P n _ _ gz gy) F).1;rw[<- Q _ _ gy] at this;have e:(((n+1:Nat):Int)+1).toNat=n+1+1:=by omega
  rw[e];exact this
 rw[e1,AA,e2,AA];refine .ite (λa7=>?_) λF=>ai _ λe=>F ((he _ _).2 e);have a7:=(he _ _).1 a7;refine .bind (Ok.Ch (by omega)) λ_ _=>?_;refine .join (λp:Int×O α=>0<=p.1/\p.1<=l.length/\p.2.length=l.length/\(p.2.take p.1.toNat).Pairwise (λa b=>lt a b=true)/\∀x,x∈p.2.take p.1.toNat↔x∈l) (λk7 aj=>?_) ?_
 ·refine .Dr (λp:Int×Int×O α=>0<=p.1/\1<=p.2.1/\p.1<=(n+1:Nat)+p.2.1-1/\(n+1:Nat)+p.2.1<=l.length/\p.2.2.length=l.length/\(∀j:Nat,p.1<=j->p.2.2[j]?=l[j]?)/\ (p.2.2.take p.1.toNat).Pairwise (λa b=>lt a b=true)/\∀x,x∈p.2.2.take p.1.toNat↔x∈l.take ((n+1:Nat)+p.2.1).toNat) (λp=>(l.length-p.2.1).toNat) ⟨by dsimp only;omega,by dsimp only;omega,by dsimp only;omega,by dsimp only;omega,rfl,λ_ _=>rfl,v3,λx=>?_⟩ (BE (by dsimp only;omega)) ?_
  ·dsimp only;have e:(((n+1:Nat):Int)+1).toNat=n+1+1:=by omega
   rw[e,Q _ _ gy,Xax];constructor
   ·exact λh=>Xcf _ h
   intro h;rcases X20.1 h with h|h
   ·exact h
   rw[X11] at h;rw[h,a7];exact Z n _ gz
  rintro next ⟨i,k,a⟩ ⟨q1,q2,q3,q4,q5,q6,q7,q8⟩ a8
  dsimp only at q1 q2 q3 q4 q5 q6 q7 q8⊢;refine .ite (λK=>?_) λK=>?_;rotate_left
  ·simp only[Xy] at K;refine aj (i,a) ⟨q1,by dsimp only;omega,q5,q7,λx=>?_⟩;dsimp only;rw[q8 x,show ((n+1:Nat)+k).toNat=l.length by omega,Xd3]
  simp only[Xy] at K;obtain⟨m,rfl⟩ :∃m:Nat,k=((m+1:Nat):Int):=⟨(k-1).toNat,by omega⟩;have aa:n+1+(m+1)<l.length:=by omega
  have U:l[n+1+(m+1)]?=some l[n+1+(m+1)]:=X12 aa;have V:l[n+1+m]?=some l[n+1+m]:=X12 (by omega);have ge :∀j:Nat,n+1+j<l.length->i<=((n+1+j:Nat):Int)->∀y,l[n+1+j]?=some y->gN (Xb7 (Xa0 (l.length:Int)-Xa0 ((n+1:Nat):Int)) (Xb8 (Xa0 ((n+1:Nat):Int)) a)) (j:Int)=some y:=by intro j hj ak y hy;refine eV (by omega) ?_;rw[Xax,Xax,Xax,List.getElem?_take_of_lt (by omega),List.getElem?_drop,q6 _ ak];exact hy
  have r1:=ge (m+1) aa (by omega) _ U;have r2:=ge m (by omega) (by omega) _ V;rw[r1,AA,AK (x:=((m+1:Nat):Int)-1) (by omega),show ((m+1:Nat):Int)-1=(m:Int) by omega,r2,AA];refine .join (λp:Int×O α=>0<=p.1/\p.1<=(n+1:Nat)+((m+1:Nat):Int)/\p.2.length=l.length/\(∀j:Nat,p.1<=j->p.2[j]?=l[j]?)/\ (p.2.take p.1.toNat).Pairwise (λa b=>lt a b=true)/\∀x,x∈p.2.take p.1.toNat↔x∈l.take (n+1+(m+1)+1)) (λal a6=>?_) ?_
  ·have et:((n+1:Nat)+((m+1:Nat):Int)).toNat=n+1+(m+1):=by omega
   rw[et] at q8;refine .ite (λF=>?_) λH=>?_
   ·have F:l[n+1+(m+1)]≠l[n+1+m]:=λe=>by rw[(he _ _).2 e] at F;simp at F
    rw[AA];have ab:i.toNat<a.length:=by omega
    refine .bind (Ok.gN (by omega)) λ_ _=>.bind (Ok.Bu (by omega)) λa' Y=>a6 _ ?_;rw[AK (by omega)];have ei:(i+1).toNat=i.toNat+1:=by omega
    have hc:=cI htr htot (y:=l[n+1+(m+1)]) (z:=l[n+1+m]) q7 q8 (by rw[show n+1+(m+1)=n+1+m+1 by omega];exact J _ _ V) (P _ _ _ V U) F;refine⟨by dsimp only;omega,by dsimp only;omega,Y.2.trans q5,λj hj=>?_,?_,?_⟩
    ·dsimp only at hj⊢;rw[Y.1,Xds (by omega)];exact q6 j (by omega)
    ·dsimp only;rw[ei,Y.1,OS ab];exact hc.1
    dsimp only;rw[ei,Y.1,OS ab,Q _ _ U];exact hc.2
   have H:l[n+1+(m+1)]=l[n+1+m]:=by
    refine (he _ _).1 ?_;cases h:e l[n+1+(m+1)] l[n+1+m]
    ·rw[h] at H;simp at H
    rfl
   refine a6 _ ⟨q1,by dsimp only;omega,q5,q6,q7,λx=>?_⟩;dsimp only;rw[q8 x,Q _ _ U];constructor
   ·exact λh=>Xcf _ h
   intro h;rcases X20.1 h with h|h
   ·exact h
   rw[X11] at h;rw[h,H];exact Z _ _ V
  rintro⟨i',a'⟩ ⟨p1,p2,p3,p4,p5,p6⟩;dsimp only at p1 p2 p3 p4 p5 p6⊢;rw[AK (by omega)];refine a8 _ ⟨p1,by dsimp only;omega,by dsimp only;omega,by dsimp only;omega,p3,p4,p5,λx=>?_⟩ (by dsimp only;omega);dsimp only;rw[p6 x,show ((n+1:Nat)+(((m+1:Nat):Int)+1)).toNat=n+1+(m+1)+1 by omega]
 rintro⟨i,a⟩ ⟨p1,p2,p3,p4,p5⟩;dsimp only at p1 p2 p3 p4 p5⊢;refine .bind (Ok.Ch (by omega)) λ_ _=>.bind (Ok.part ⟨by omega,by omega,by simp;omega⟩) λc hc=>.ret ?_;have:c=a.take i.toNat:=by rw[hc.1];simp only[Int.toNat_zero,Xer,Nat.sub_zero];rw[Xb9,List.take_append_of_le_length (by simp;omega),List.take_take,Nat.min_self]
 rw[this];exact⟨p4,p5⟩
end
def jw {l:O Int}(F:l.length<=1000000000):Ok (NQ l) λr=>r.Perm l/\r.Pairwise λa b=>decide (b<a)=false:=by unfold NQ;rw[Xa2 (by omega)];refine .ret ⟨List.mergeSort_perm _ _,?_⟩;refine (List.pairwise_mergeSort (le:=λx y:Int=>decide (x<=y)) (λa b c H J=>by simp only[Xy] at *;omega) (λa b=>by simp only[Xdp,Xy];omega) l).imp λ{a b} h=>?_;simp only[Xy,Xav] at *;omega
end Go.AX
end
section
namespace Go.AX
end Go.AX
end
section
namespace Go.AX.Q33
open Go Go.AX
def fl (t:Int):Int:=if t=1 then 64 else if t=2 then 64 else if t=3 then 64 else if t=4 then 128 else if t=5 then 64 else if t=8 then 192 else if t=32 then 192 else if t=35 then 192 else 0
def Lb (t:Int):I:=decide (fl t=0)&&(decide (t≠14)&&decide (t≠15))
def gU (t:Int):(A1 Oj t).getD 0=fl t:=by
 unfold Oj fl;simp only[A1,Xbh];repeat' (split;· rfl)
 rfl
def E2 (t:Int):(t=1/\fl t=64)\/(t=2/\fl t=64)\/(t=3/\fl t=64)\/(t=4/\fl t=128)\/(t=5/\fl t=64)\/(t=8/\fl t=192)\/(t=32/\fl t=192)\/(t=35/\fl t=192) \/ (t≠1/\t≠2/\t≠3/\t≠4/\t≠5/\t≠8/\t≠32/\t≠35/\fl t=0):=by unfold fl;by_cases h1:t=1<;>by_cases F:t=2<;>by_cases H:t=3<;>by_cases J:t=4<;>by_cases K:t=5<;>by_cases M:t=8<;>by_cases P:t=32<;>by_cases Q:t=35<;>first|(exfalso;omega)|simp[h1,F,H,J,K,M,P,Q]
def LP (t:Int):BH t=some (fl t):=by
 unfold BH;simp only[AB,Xbh];rcases E2 t with ⟨h,e⟩|⟨h,e⟩|⟨h,e⟩|⟨h,e⟩|⟨h,e⟩|⟨h,e⟩|⟨h,e⟩|⟨h,e⟩|⟨F,H,J,K,M,P,Q,U,e⟩<;>rw[e];iterate 8 (subst h;rfl)
 simp[F,H,J,K,M,P,Q,U]
def mc (t:Int)(k:I->C I):(if (fl t==0)=true then if (cond true (t !=14) false)=true then k (cond true (t !=15) false) else k false else k false)=k (Lb t):=by have e1:(t !=14)=!decide (t=14):=rfl;have e2:(t !=15)=!decide (t=15):=rfl;unfold Lb;rw[e1,e2];by_cases h1:fl t=0<;>by_cases F:t=14<;>by_cases H:t=15<;>simp[h1,F,H]
def IA (t:Int):BP t=some (Lb t):=by unfold BP;rw[AB,gU,AA];exact mc t some
def Jg (t:Int):C6 t=some (Lb t):=by unfold C6;rw[AB,LP,AA];exact mc t some
def jW (a b c:Int):CE a b c=some (decide (b<=a)&&decide (a<=c)):=by
 unfold CE;rw[AB];by_cases h:b<=a
 ·rw[Xa2 (by simpa using h),Xa4 h];rfl
 rw[Xa1 (by simpa using h),Xa9 h];rfl
def Kk (a:Int):Ei a=some (decide (1<=a)&&decide (a<=4294967295)):=by
 unfold Ei;rw[AB];by_cases h:1<=a
 ·rw[Xa2 (by simpa using h),Xa4 h];rfl
 rw[Xa1 (by simpa using h),Xa9 h];rfl
def bt (x m:Int):Int:=AG ((Xa3 64 x &&& Xa3 64 m).toNat:Int)
def cP {n m:Int}(h:n%(2^64:Int)=m%(2^64:Int)):AG n=AG m:=
 Xap (λq:Int=>if (Xda.signed&&decide (q≥(2^(Xda.bits-1):Int)))=true then q-(2^Xda.bits:Int) else q) h
def Wc (b:BitVec 64):AG (b.toNat:Int)=b.toInt:=by
 have h:=b.isLt;have F:=BitVec.toInt_eq_toNat_cond b;have H:(2:Int)^64=18446744073709551616:=by decide
 have J:((2^64:Nat):Int)=18446744073709551616:=by decide
 have K:(2:Nat)^64=18446744073709551616:=by decide
 rw[J] at F;rw[K] at h F;have M:-9223372036854775808<=b.toInt/\b.toInt<=9223372036854775807:=by rw[F];split<;>omega
 rw[cP (m:=b.toInt) (by rw[H,F];split<;>omega),AK M]
def VZ (b:BitVec 64):Xa3 64 (AG (b.toNat:Int))=b:=by rw[Wc,BitVec.ofInt_toInt]
def cX {f m:Int}(F:f=64\/f=128\/f=192):(AG ((Xa3 64 (AG ((Xa3 64 m ^^^ Xa3 64 f).toNat:Int)) &&& Xa3 64 192).toNat:Int)==0)=(bt m 192==f):=by
 unfold bt;rw[VZ,Wc,Wc,X25,Xbh,Xbh];have H:(0:Int)=(0#64).toInt:=by decide
 have J:f=(Xa3 64 f &&& Xa3 64 192).toInt:=by rcases F with rfl|rfl|rfl<;>decide
 have K:(Xa3 64 m ^^^ Xa3 64 f) &&& Xa3 64 192=(Xa3 64 m &&& Xa3 64 192) ^^^ (Xa3 64 f &&& Xa3 64 192):=by apply BitVec.eq_of_getLsbD_eq;intro i _;simp only[BitVec.getLsbD_and,BitVec.getLsbD_xor];generalize (Xa3 64 m).getLsbD i=x;generalize (Xa3 64 f).getLsbD i=y;generalize (Xa3 64 192).getLsbD i=z;cases x<;>cases y<;>cases z<;>rfl
 rw[K];conv=>rhs;rhs;rw[J]
 rw[H,BitVec.toInt_inj,BitVec.toInt_inj,BitVec.xor_eq_zero_iff]
def Ey (x:gL):I:=bt x.Flags 192==fl x.gE&&(fl x.gE==192 || bt x.Flags 32==0)
def BI (x:gL)(h:fl x.gE≠0):A4 x=some (Ey x):=by
 have F:fl x.gE=64\/fl x.gE=128\/fl x.gE=192:=by rcases E2 x.gE with ⟨_,e⟩|⟨_,e⟩|⟨_,e⟩|⟨_,e⟩|⟨_,e⟩|⟨_,e⟩|⟨_,e⟩|⟨_,e⟩|H<;>first|(rw[e];simp;done)|exact absurd H.2.2.2.2.2.2.2.2 h
 unfold A4 Ey;rw[AB,gU];simp only[AA,cX F];show (if (bt x.Flags 192==fl x.gE)=true then if (fl x.gE==192)=true then some true else some (cond true (cond false true (bt x.Flags 32==0)) false) else some false)=_;cases (bt x.Flags 192==fl x.gE)<;>cases (fl x.gE==192)<;>rfl
def ET (b:O S):Int:=b.foldl (λn x=>AG ((Xa3 64 (AG (n*(2^(min (Xa0 8) 64)))) ||| Xa3 64 (x.toNat:Int)).toNat:Int)) 0
def iM {α σ ρ:Type}{K:σ->C ρ}{g:σ->α->σ} :∀(l:O α) (i:Nat) (s:σ),AL K (λnext x _ s=>next (g s x)) l i s=K (l.foldl g s)
 | [],_,_=>rfl
 | x::t,i,s=>iM t (i+1) (g s x)
def CB (b:O S):BW b=some (ET b):=by unfold BW;rw[AB];exact iM (K:=some) b 0 0
def val (l:O S):Nat:=l.foldl (λm x=>m*256+x.toNat) 0
def OM (l:O S)(x:S):val (l++[x])=val l*256+x.toNat:=by simp[val]
def NX :∀l:O S,val l<256^l.length:=by
 intro l;rw[<- List.reverse_reverse l];generalize l.reverse=m;induction m with
 | nil=>decide
 | cons x t F=>rw[Xel,OM,X2,X19,Nat.pow_succ];have:=x.toNat_lt;omega
def oP {u v:Nat}(H:u<36028797018963968)(J:v<256):AG ((Xa3 64 (AG ((u:Int)*(2^(min (Xa0 8) 64)))) ||| Xa3 64 (v:Int)).toNat:Int)=((u*256+v:Nat):Int):=by
 have F:((u:Int)*(2^(min (Xa0 8) 64)))=((u*256:Nat):Int):=by have:min (Xa0 8) 64=8:=rfl;rw[this];omega
 rw[F,AK (x:=((u*256:Nat):Int)) (by omega),Xct,Xct,BitVec.toNat_or,BitVec.toNat_ofNat,BitVec.toNat_ofNat,Xbf (show u*256<2^64 by omega),Xbf (show v<2^64 by omega), show u*256=2^8*u by omega,<- Nat.two_pow_add_eq_or_of_lt (show v<2^8 by omega)];rw[AK (by omega)]
def Gw :∀{l:O S},l.length<=7->ET l=(val l:Int):=by
 intro l;rw[<- List.reverse_reverse l];generalize l.reverse=m;induction m with
 | nil=>intro _;rfl
 | cons x t F=>intro h;rw[Xel] at h⊢;simp only[X2,List.length_reverse,X19] at h;unfold ET at F⊢;rw[List.foldl_append,F (by simp;omega)];have H:=NX t.reverse;have J:256^t.reverse.length<=256^6:=Xdc (by omega) (by simp;omega);show AG _=_;rw[oP (by omega) x.toNat_lt,OM]
def Cn:O S->O Int
 | a::b::c::d::t=>ET [a,b,c,d]::Cn t
 | _=>[]
def MW (a b c d:S)(t:O S):Cn (a::b::c::d::t)=ET [a,b,c,d]::Cn t:=rfl
def bE :∀{l:O S},l.length<4->Cn l=[]
 | [],_=>rfl
 | [_],_=>rfl
 | [_,_],_=>rfl
 | [_,_,_],_=>rfl
 | _::_::_::_::_,h=>by simp at h;omega
def tA :∀{l:O S},4<=l.length->∃a b c d t,l=a::b::c::d::t
 | [],h=>by simp at h
 | [_],h=>by simp at h
 | [_,_],h=>by simp at h
 | [_,_,_],h=>by simp at h
 | a::b::c::d::t,_=>⟨a,b,c,d,t,rfl⟩
def H8 :∀l:O S,(Cn l).length=l.length/4
 | a::b::c::d::t=>by rw[MW,X3,H8 t];simp only[X3];omega
 | []=>rfl
 | [_]=>by simp[Cn]
 | [_,_]=>by simp[Cn]
 | [_,_,_]=>by simp[Cn]
def SQ :∀(l:O S),∀n∈Cn l,0<=n/\n<=4294967295
 | a::b::c::d::t=>by
  rw[MW];intro n F;rcases Xa7.1 F with h|h
  ·have H:=NX [a,b,c,d];rw[h,Gw (by simp)];simp only[X3,X10] at H;omega
  exact SQ t n h
 | []=>by intro n h;simp[Cn] at h
 | [_]=>by intro n h;simp[Cn] at h
 | [_,_]=>by intro n h;simp[Cn] at h
 | [_,_,_]=>by intro n h;simp[Cn] at h
def Es {b:O S}(F:b.length<=1000000000):Bl b=some (Cn b):=by
 unfold Bl;rw[AB,Bq (λs:O S×O Int=>s.1.length+4*s.2.length<=1000000000) (λs=>s.1.length) (λs=>some (s.2++Cn s.1)) ?_ xv (b,[]) (by simpa using F) (BE (by simp only;omega))]
 ·rfl
 rintro next ⟨v,o⟩ h H
 dsimp only at h⊢;by_cases J:4<=v.length
 ·obtain⟨x,y,z,w,t,rfl⟩:=tA J;simp only[X3] at h;rw[Xa2 (by simp only[X3,Xy];omega)];have e1:part (x::y::z::w::t) 0 4=some [x,y,z,w]:=by rw[show (0:Int)=((0:Nat):Int) by rfl,show (4:Int)=((4:Nat):Int) by rfl,Ds (by omega) (by simp)];rfl
  have e2:part (x::y::z::w::t) 4 ((x::y::z::w::t).length:Int)=some t:=by rw[show (4:Int)=((4:Nat):Int) by rfl,Ds (by simp) (by simp)];simp
  rw[e1,AA,CB,AA,AD (by decide) (by simp only[X19];omega),AA,e2,AA,H _ (by simp only[X2,X19];omega) (by simp only[X3];omega)];simp[MW]
 rw[Xa1 (by simp only[Xy];omega),bE (by omega)];simp
def Fk (a b:Int):I:=decide (a<b)
def MO (a:Int):Fk a a=false:=by simp[Fk]
def Nl (a b c:Int)(F:Fk a b=true)(H:Fk b c=true):Fk a c=true:=by simp only[Fk,Xy] at *;omega
def XS (a b:Int)(h:Fk a b=false):a=b\/Fk b a=true:=by simp only[Fk,Xy,Xav] at *;omega
def Cw (l r:O Int):Prop:=r.Pairwise (λa b=>Fk a b=true)/\∀x,x∈r↔x∈l
def Cw.uniq {l r s:O Int}(h:Cw l r)(k:Cw l s):r=s:=
 KN (lt:=λa b=>Fk a b=true) (λa=>by simp[MO]) Nl h.1 k.1 λx=>(h.2 x).trans (k.2 x).symm
def Py {l:O Int}(hl:l.length<=1000000):Ok (KZ l) (Cw l):=by
 unfold KZ;refine .join (Cw l) (λk H=>?_) λr hr=>.ret hr;refine .Gd (λi v=>v.Pairwise (λa b=>Fk a b=true)/\(∀x,x∈v↔x∈l.take i)/\v.length<=i) ⟨.nil,by simp,by simp⟩ (λv V=>H v ⟨V.1,by simpa using V.2.1⟩) λnext x i v Y hI hn=>?_;obtain⟨P,Q,i3⟩:=hI;have a6:=(X13.1 Y).1;have J :∀y,y∈l.take (i+1)↔y∈l.take i\/y=x:=by intro y;rw[Xbr,Y];simp
 refine .join (λM=>M.Pairwise (λa b=>Fk a b=true)/\(∀x,x∈M↔x∈l.take (i+1))/\M.length<=i+1) (λk6 K=>?_) λM h=>hn _ h;have Z:=B7 (Fk · x) v;rw[nu (p:=(Fk · x)) (λy k4=>k4 (cond true (decide (y<x)) false)) (by omega) (λy _ k=>rfl)];have hh:=ME Nl MO (x:=x) P;obtain⟨t1,t2⟩:=C1 (Fk · x) v;refine .join (λc=>c=true↔x∈v) (λa7 F=>?_) λc hc=>.ite (λh=>?_) λh=>?_
 ·by_cases H:(v.takeWhile (Fk · x)).length<v.length
  ·rw[Xa2 (by simpa using H),Ae H,AA];refine F _ ?_;rw[hh,X12 H];simp only[Xe1,Xbh,X21]
  rw[Xa1 (by simpa using H)];refine F _ ?_;rw[hh,Xdl (by omega)];simp
 ·refine K _ ⟨P,λy=>?_,by omega⟩;rw[J,Q y];refine⟨.inl,λq=>q.elim id λe=>?_⟩;rw[e];exact (Q x).1 (hc.1 h)
 have U:x∉v:=λq=>h (hc.2 q);simp only[Xax,Int.toNat_zero,Xer,Nat.sub_zero];refine .bind (Ok.Ch (by omega)) λ_ _=>.bind (Ok.gO (by decide) (by simp;omega)) λ_ _=>.bind (Ok.gO (by decide) (by simp;omega)) λa ha=>.bind (Ok.Ch (by omega)) λ_ _=>.bind (Ok.gO (by decide) (by rw[ha];simp;omega)) λb hb=>K _ ?_;have e:b=G7 Fk v x:=by
  have e2:(Xb8 (v.takeWhile (Fk · x)).length v).take (v.length-(v.takeWhile (Fk · x)).length)=v.dropWhile (Fk · x):=by rw[Xdh (by simp),t2]
  rw[hb,ha,e2,t1];unfold G7;simp
 rw[e];refine⟨H7 Nl XS P U,λy=>?_,by rw[G0];omega⟩;rw[D5,J,Q]
def SF (l:O Int):O Int:=(KZ l).getD []
def XE {l:O Int}(F:l.length<=1000000):Cw l (SF l):=by obtain⟨r,h,k⟩:=Py F;unfold SF;rw[h];exact k
def Z1 (l:O Int):BM l=Ld (λa b=>a==b) 0 l:=rfl
def VD {l:O Int}{ρ:Type}{K:O Int->C ρ}(H:l.length<=1000000):(Xx (NQ l) λv=>Xx (BM v) K)=K (SF l):=by obtain⟨r,h,F,J⟩:=jw (l:=l) (by omega);rw[h,AA,Z1];obtain⟨c,g,M,P⟩:=LM (lt:=Fk) (e:=λa b:Int=>a==b) (zz:=0) MO Nl XS (λa b=>Xbh) (l:=r) J (by rw[F.length_eq];omega);rw[g,AA,Cw.uniq (l:=l) ⟨M,λx=>(P x).trans F.mem_iff⟩ (XE H)]
def HV (p:O r8)(set:I)(l:O Int):O r8:=
 if set then p++[⟨true,SF l⟩] else match p.getLast? with
  | some s=>if s.Set then p++[⟨false,l⟩] else p.dropLast++[⟨false,s.qv++l⟩]
  | none=>[⟨false,l⟩]
def LZ:Nat->O S->O r8->C (O r8)
 | _,[],p=>some p
 | n+1,k::c::t,p=>if (k.toNat≠1/\k.toNat≠2)\/c.toNat=0\/t.length<4*c.toNat then none else LZ n (t.drop (4*c.toNat)) (HV p (k.toNat==1) (Cn (t.take (4*c.toNat))))
 | _,_,_=>none
def P4 (n:Nat)(p:O r8):LZ n [] p=some p:=by cases n<;>rfl
def Tm :∀(n m:Nat) (b:O S) (p:O r8),b.length<=n->b.length<=m->LZ n b p=LZ m b p
 | n,m,[],p,_,_=>by rw[P4,P4]
 | n+1,m+1,[x],p,_,_=>rfl
 | n+1,m+1,k::c::t,p,h1,F=>by
  simp only[X3] at h1 F;simp only[LZ];split
  ·rfl
  exact Tm n m _ _ (by simp only[X14];omega) (by simp only[X14];omega)
 | 0,_,_::_,_,h,_=>by simp at h
 | _,0,_::_,_,_,h=>by simp at h
def RM (b:O S)(p:O r8):C (O r8):=LZ b.length b p
def Lh (k c:S)(t:O S):I:=decide ((k.toNat≠1/\k.toNat≠2)\/c.toNat=0\/t.length<4*c.toNat)
def ii (p:O r8):RM [] p=some p:=rfl
def Zk (k c:S)(t:O S)(p:O r8):RM (k::c::t) p=if Lh k c t=true then none else RM (t.drop (4*c.toNat)) (HV p (k.toNat==1) (Cn (t.take (4*c.toNat)))):=by
 unfold RM Lh;simp only[X3,LZ,Xy];split
 ·rfl
 exact Tm _ _ _ _ (by simp only[X14];omega) (by simp only[X14];omega)
def Lk (p:O r8)(i:Nat)(l:O Int):Prop:=p=[] \/∃q s,p=q++[⟨s,l⟩]/\i=q.length
def Uu {x:S}{t:O S}:gN (x::t) 0=some x:=Ae (l:=x::t) (i:=0) (by simp)
def Wj {x y:S}{t:O S}:gN (x::y::t) 1=some y:=Ae (l:=x::y::t) (i:=1) (by simp)
def wU (c:S):AG (2+AG (4*(c.toNat:Int)))=((2+4*c.toNat:Nat):Int):=by have:=c.toNat_lt;rw[AK (x:=4*(c.toNat:Int)) (by omega),AK (by omega)];omega
def Tz (p:O r8)(l:O Int):HV p true l=p++[⟨true,SF l⟩]:=rfl
def UZ (l:O Int):HV [] false l=[⟨false,l⟩]:=rfl
def Kt (q:O r8)(m l:O Int):HV (q++[⟨true,m⟩]) false l=q++[⟨true,m⟩]++[⟨false,l⟩]:=by unfold HV;simp
def Q0 (q:O r8)(m l:O Int):HV (q++[⟨false,m⟩]) false l=q++[⟨false,m++l⟩]:=by unfold HV;simp
def fY {l:O Int}(F:l.length<=1000000):(SF l).length<=l.length:=by obtain⟨H,J⟩:=XE F;refine M3 (H.imp λ{a b} h e=>?_) λx K=>(J x).1 K;subst e;rw[MO] at h;simp at h
def fJ {α:Type}{q:O α}{x:α}(h:q.length<=1000000000):AG (((q++[x]).length:Int)-1)=(q.length:Int):=by rw[AK (by simp;omega)];simp
def sH {α:Type}(q:O α)(x y:α):Bu (q++[x]) (q.length:Int) y=some (q++[y]):=by unfold Bu;rw[Xa2 (by simp;omega)];simp
def pY {k c:S}{t:O S}(U:t.length<=1000000){ρ:Type}(K:I->C ρ) : AC (τ:=I) (λq=>if (decide (((k::c::t).length:Int)<2))=true then q true else Xx (gN (k::c::t) 0) λF=>if ((F.toNat:Int) !=1)=true then Xx (gN (k::c::t) 0) λH=>if (cond false true (cond true ((H.toNat:Int) !=2) false))=true then q true else Xx (gN (k::c::t) 1) λJ=>if (cond false true (decide (((k::c::t).length:Int)<(AG (2+(AG (4*(J.toNat:Int))))))))=true then q true else Xx (gN (k::c::t) 1) λM=>q (cond false true ((M.toNat:Int)==0)) else Xx (gN (k::c::t) 1) λP=>if (cond false true (decide (((k::c::t).length:Int)<(AG (2+(AG (4*(P.toNat:Int))))))))=true then q true else Xx (gN (k::c::t) 1) λQ=>q (cond false true ((Q.toNat:Int)==0))) K=K (Lh k c t):=by
 rw[AB,Xa1 (by simp;omega)];simp only[Uu,Wj,AA,wU,Xe1,Xc2];unfold Lh;have e1:((k.toNat:Int) !=1)=decide (k.toNat≠1):=by rw[X25];simp;omega
 have e2:((k.toNat:Int) !=2)=decide (k.toNat≠2):=by rw[X25];simp;omega
 have e3:((c.toNat:Int)==0)=decide (c.toNat=0):=by rw[X25];simp
 have e4:decide (((k::c::t).length:Int)<((2+4*c.toNat:Nat):Int))=decide (t.length<4*c.toNat):=by rw[X25];simp only[X3,Xy];omega
 rw[e1,e2,e3,e4];by_cases h1:k.toNat=1<;>by_cases V:k.toNat=2<;>by_cases Y:c.toNat=0<;>by_cases Z:t.length < 4*c.toNat<;>first|(exfalso;omega)|simp[h1,V,Y,Z]
def sd {p:O r8}(F:p.length<=1000000){ρ:Type}(K:I->C ρ) : AC (τ:=I) (λq=>if (decide ((p.length:Int)>0))=true then Xx (gN p (AG ((p.length:Int)-1))) λv=>q (cond true (!v.Set) false) else q false) K=K (match p.getLast? with|some s=>!s.Set|none=>false):=by
 rcases List.eq_nil_or_concat p with rfl|⟨q,s,rfl⟩
 ·rfl
 rw[List.concat_eq_append] at F⊢;rw[AB,Xa2 (by simp),fJ (by simp at F;omega),F5,AA];simp
def kU {k c:S}{t:O S}(h:4*c.toNat<=t.length):part (k::c::t) ((2+4*c.toNat:Nat):Int) ((k::c::t).length:Int)=some (t.drop (4*c.toNat)):=by rw[Ds (by simp;omega) (Xak _)];rw[show 2+4*c.toNat=4*c.toNat+1+1 by omega,List.drop_succ_cons,List.drop_succ_cons,Xdh (by simp)]
end Go.AX.Q33
end
section
namespace Go.AX
section
variable {α ρ:Type}
def zm (lt:α->α->I):O α->I
 | x::y::t=>lt x y&&zm lt (y::t)
 | _=>true
def H6 (lt:α->α->I)(x y:α)(t:O α):zm lt (x::y::t)=(lt x y&&zm lt (y::t)):=rfl
def T0 (lt:α->α->I)(x:α):zm lt [x]=true:=rfl
def Jj {lt:α->α->I}(F :∀a b c,lt a b=true->lt b c=true->lt a c=true) :∀{l:O α},zm lt l=true↔l.Pairwise λa b=>lt a b=true
 | []=>by simp[zm]
 | [x]=>by simp[zm]
 | x::y::t=>by
  rw[H6,X24,Jj F (l:=y::t),Xab (a:=x)];constructor
  ·rintro⟨H,J⟩;refine⟨λz K=>?_,J⟩;rcases Xa7.1 K with e|K
   ·rw[e];exact H
   exact F _ _ _ H ((Xab.1 J).1 z K)
  rintro⟨H,J⟩;exact⟨H y (by simp),J⟩
def tp {ok:α->I}{lt:α->α->I}{l:O α}{K:Unit->C ρ}{F:C ρ}{body:(Unit->C ρ)->α->Nat->Unit->C ρ}(Q:l.length<=4611686018427387904) (H :∀next x,x∈l->body next x 0 ()=if ok x then next () else F) (J :∀next x y i,x∈l->y∈l->gN l (AG (((i+1:Nat):Int)-1))=some y->body next x (i+1) ()=if ok x&&lt y x then next () else F) : AL K body l 0 ()=if l.all ok&&zm lt l then K () else F:=by
 have key :∀(t p:O α) (y:α),l=p++y::t->AL K body t (p.length+1) ()=if t.all ok&&zm lt (y::t) then K () else F:=by
  intro t;induction t with
  | nil=>intro p y _;rw[T0];rfl
  | cons x t P=>
   intro p y e;show body (λs=>AL K body t (p.length+1+1) s) x (p.length+1) ()=_;have M:p.length<l.length:=by rw[e];simp
   rw[J _ x y p.length (by rw[e];simp) (by rw[e];simp) (by
    rw[AK (by omega),show ((p.length+1:Nat):Int)-1=(p.length:Int) by omega,e]
    exact F5 p y (x::t))]
   have:=P (p++[y]) x (by rw[e];simp);rw[X2,X19] at this;rw[this,H6,Xd5];generalize zm lt (x::t)=c1;generalize t.all ok=c2;cases ok x<;>cases lt y x<;>cases c1<;>cases c2<;>rfl
 match l,H,J,key with
 | [],_,_,_=>rfl
 | x::t,H,_,key=>show body (λs=>AL K body t (0+1) s) x 0 ()=_;rw[H _ x (by simp)];have:=key t [] x rfl;rw[X10] at this;rw[this,Xd5];generalize zm lt (x::t)=c1;generalize t.all ok=c2;cases ok x<;>cases c1<;>cases c2<;>rfl
def xO {σ:Type}{g:σ->α->σ}{ok:α->I}{lt:α->α->I}{l:O α}{H:σ}{K:σ->C ρ}{F:C ρ}{body:(σ->C ρ)->α->Nat->σ->C ρ}(U:l.length<=4611686018427387904) (J :∀next x s,x∈l->body next x 0 s=if ok x then next (g s x) else F) (M :∀next x y i s,x∈l->y∈l->gN l (AG (((i+1:Nat):Int)-1))=some y->body next x (i+1) s=if ok x&&lt y x then next (g s x) else F) : AL K body l 0 H=if l.all ok&&zm lt l then K (l.foldl g H) else F:=by
 have key :∀(t p:O α) (y:α) (s:σ),l=p++y::t->AL K body t (p.length+1) s=if t.all ok&&zm lt (y::t) then K (t.foldl g s) else F:=by
  intro t;induction t with
  | nil=>intro p y s _;rw[T0];rfl
  | cons x t Q=>
   intro p y s e;show body (λs=>AL K body t (p.length+1+1) s) x (p.length+1) s=_;have P:p.length<l.length:=by rw[e];simp
   rw[M _ x y p.length s (by rw[e];simp) (by rw[e];simp) (by
    rw[AK (by omega),show ((p.length+1:Nat):Int)-1=(p.length:Int) by omega,e]
    exact F5 p y (x::t))]
   have:=Q (p++[y]) x (g s x) (by rw[e];simp);rw[X2,X19] at this;rw[this,H6,Xd5,Xaj];generalize zm lt (x::t)=c1;generalize t.all ok=c2;cases ok x<;>cases lt y x<;>cases c1<;>cases c2<;>rfl
 match l,J,M,key with
 | [],_,_,_=>rfl
 | x::t,J,_,key=>show body (λs=>AL K body t (0+1) s) x 0 H=_;rw[J _ x H (by simp)];have:=key t [] x (g H x) rfl;rw[X10] at this;rw[this,Xd5,Xaj];generalize zm lt (x::t)=c1;generalize t.all ok=c2;cases ok x<;>cases c1<;>cases c2<;>rfl
def jt {F:Type}{g:F->O α}{N:Nat}{body:(O α->C ρ)->F->Nat->O α->C ρ}{K:O α->C ρ} :∀{l:O F} {i:Nat} {v:O α},v.length+(l.flatMap g).length<=N-> (∀next x i v,x∈l->v.length+(g x).length<=N->body next x i v=next (v++g x))->AL K body l i v=K (v++l.flatMap g)
 | [],i,v,_,_=>by rw[List.flatMap_nil,Xb1];rfl
 | x::t,i,v,h,H=>by rw[Xat,X2] at h;show body (λs=>AL K body t (i+1) s) x i v=_;rw[H _ x i v (by simp) (by omega),jt (l:=t) (by rw[X2];omega) λnext y j w J M=>H next y j w (X16 _ J) M,Xat,Xb9]
def Fi (e lt:α->α->I)(l:O α):O α:=l.foldl (λF x=>if F.any (λy=>e y x) then F else G7 lt F x) []
def dK (e lt:α->α->I)(l:O α)(x:α):Fi e lt (l++[x])=if (Fi e lt l).any (λy=>e y x) then Fi e lt l else G7 lt (Fi e lt l) x:=by unfold Fi;rw[List.foldl_append];rfl
def N5 {e lt:α->α->I}(P :∀a b,e a b=true↔a=b)(J :∀a b c,lt a b=true->lt b c=true->lt a c=true)(H :∀a b,lt a b=false->a=b\/lt b a=true)(l:O α) : (Fi e lt l).Pairwise (λa b=>lt a b=true)/\(∀x,x∈Fi e lt l↔x∈l)/\(Fi e lt l).length<=l.length:=by
 rw[<- List.reverse_reverse l];generalize l.reverse=m;induction m with
 | nil=>exact⟨.nil,by simp[Fi],by simp[Fi]⟩
 | cons x t U=>
  obtain⟨Q,K,Y⟩:=U;rw[Xel,dK];by_cases F:(Fi e lt t.reverse).any (λy=>e y x)=true
  ·rw[Xa2 F];obtain⟨y,V,M⟩:=Xeg.1 F;have:=(P _ _).1 M;subst this;refine⟨Q,λz=>?_,by simp only[X2];omega⟩;rw[X20,K z,X11];refine⟨.inl,λq=>q.elim id λe=>?_⟩;rw[e];exact (K _).1 V
  rw[Xa1 F];have F:x∉Fi e lt t.reverse:=λq=>F (Xeg.2 ⟨x,q,(P _ _).2 rfl⟩);refine⟨H7 J H Q F,λz=>?_,by rw[G0];simp only[X2,X19];omega⟩;rw[D5,X20,K z,X11]
def KJ {e lt:α->α->I}(K :∀a b,e a b=true↔a=b)(F :∀a,lt a a=false)(H :∀a b c,lt a b=true->lt b c=true->lt a c=true)(J :∀a b,lt a b=false->a=b\/lt b a=true) {l r:O α} (M:r.Pairwise λa b=>lt a b=true) (P :∀x,x∈r↔x∈l):r=Fi e lt l:=by obtain⟨Q,U,_⟩:=N5 K H J l;exact KN (lt:=λa b=>lt a b=true) (λa h=>by rw[F] at h;simp at h) H M Q λx=>(P x).trans (U x).symm
end
end Go.AX
end
