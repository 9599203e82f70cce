/-
  Texts of one proof, packed.
-/
import Derived.Test.YtppcmaidcgimpaaGreatDoorU16
import Derived.Test.YtppcmaidcgimpaaGreatDoorU17
import Derived.Test.YtppcmaidcgimpaaGreatDoorU18
import Derived.KernelRfl
set_option linter.all false
set_option maxRecDepth 100000
set_option maxHeartbeats 4000000
open List renaming length_map→X10,length_append→X11,length_nil→X13,mem_singleton→X14,getElem?_eq_getElem→X15,getElem?_eq_some_iff→X16,length_drop→X17,length_take→X18,mem_cons_of_mem→X19,length_replicate→X20,length_set→X21,length_singleton→X22,mem_append→X23
open Option.some renaming inj→X25
open Bool renaming and_eq_true→X27,eq_iff_iff→X28
open Nat renaming add_mul→X32
open Int renaming toNat→Wo,fdiv→Xas,tmod→Xed
open List renaming cons→Xa8,toArray→Xcc,nil→Xej
open BitVec renaming ofInt→Xa2
open ByteArray renaming mk→Xc5
open UInt64 renaming ofNat→Xaq
open UInt8 renaming ofNat→Xbb
section
namespace Go.AX
def bT (a b:Int):Int:=if a<b then -1 else if b<a then 1 else 0
def zG:I Int->Int
 | []=>0
 | x::t=>if x=0 then zG t else x
def DV:I Int->I Int->Int
 | x::s,y::t=>if x<y then -1 else if y<x then 1 else DV s t
 | _,_=>0
def aS (x:Int)(t:I Int):zG (x::t)=if x=0 then zG t else x:=rfl
def fb (x y:Int)(t:I Int):zG (bT x y::t)=if x<y then -1 else if y<x then 1 else zG t:=by
 rw[aS];unfold bT;split
 ·rfl
 split<;>simp
def gq (x y:Int)(s t:I Int):DV (x::s) (y::t)=if x<y then -1 else if y<x then 1 else DV s t:=rfl
def nE:DV [] []=0:=rfl
def La :∀a:I Int,DV a a=0
 | []=>rfl
 | x::t=>by unfold DV;simp[La t]
def Ln :∀{a b:I Int},a.length=b.length->DV a b=0->a=b
 | [],[],_,_=>rfl
 | [],_::_,h,_=>by simp at h
 | _::_,[],h,_=>by simp at h
 | x::s,y::t,h,e=>by
  unfold DV at e;split at e
  ·simp at e
  split at e
  ·simp at e
  rw[Ln (by simpa using h) e,show x=y by omega]
def Qm :∀a b:I Int,DV b a=- DV a b
 | [],[]=>rfl
 | [],_::_=>rfl
 | _::_,[]=>rfl
 | x::s,y::t=>by unfold DV;have:=Qm s t;split<;>split<;>first|omega|(split<;>omega)
def UH :∀{a b c:I Int},a.length=b.length->b.length=c.length->DV a b<0->DV b c<0->DV a c<0
 | [],_,_,_,_,h,_=>by simp[DV] at h
 | _::_,[],_,h,_,_,_=>by simp at h
 | _::_,_::_,[],_,h,_,_=>by simp at h
 | x::s,y::t,z::u,h1,J,H,F=>by
  have K:=@UH s t u (by simpa using h1) (by simpa using J);unfold DV at H F⊢;by_cases M:x<y
  ·by_cases a2:y<z
   ·rw[Wr (by omega)];omega
   rw[Wm a2] at F;by_cases a3:z<y
   ·rw[Wr a3] at F;omega
   rw[Wr (by omega)];omega
  rw[Wm M] at H;by_cases a4:y<x
  ·rw[Wr a4] at H;omega
  rw[Wm a4] at H;have:x=y:=by omega
  subst this;by_cases a2:x<z
  ·rw[Wr a2];omega
  rw[Wm a2] at F⊢;by_cases a3:z<x
  ·rw[Wr a3] at F;omega
  rw[Wm a3] at F⊢;exact K H F
section
variable {X:Type} {key:X->I Int}
def xK (key:X->I Int)(a b:X):C:=decide (DV (key a) (key b)<0)
def YA (a:X):xK key a a=false:=by unfold xK;rw[La];rfl
def SY (F :∀a b:X,(key a).length=(key b).length)(a b c:X)(H:xK key a b=true)(J:xK key b c=true):xK key a c=true:=by unfold xK at *;simp only[Wd] at *;exact UH (F _ _) (F _ _) H J
def X7 (F :∀a b:X,(key a).length=(key b).length)(a b:X)(h:xK key a b=false):key a=key b\/xK key b a=true:=by
 unfold xK at *;simp only[Xb0,Wd] at *;have:=Qm (key a) (key b);by_cases H:DV (key a) (key b)=0
 ·exact .inl (Ln (F _ _) H)
 exact .inr (by omega)
def Z7 (F :∀a b:X,(key a).length=(key b).length)(a b:X)(h:xK key a b=true):xK key b a=false:=by
 cases h1:xK key b a
 ·rfl
 have:=SY F _ _ _ h h1;rw[YA] at this;simp at this
def oZ (F :∀a b:X,(key a).length=(key b).length)(a b c:X)(H:xK key a b=false)(J:xK key b c=false):xK key a c=false:=by
 rcases X7 F _ _ H with e|H
 ·unfold xK at *;rw[e];exact J
 rcases X7 F _ _ J with e|J
 ·refine Z7 F _ _ ?_;unfold xK at *;rw[<- e];exact H
 exact Z7 F _ _ (SY F _ _ _ J H)
variable {cmp:X->X->O Int}
def fS (F :∀a b,cmp a b=some (DV (key a) (key b)))(a b:X):xO cmp a b=xK key a b:=by unfold xO;rw[F];rfl
def fg (K :∀a b:X,(key a).length=(key b).length)(F :∀a b,cmp a b=some (DV (key a) (key b))){l:I X}(P:l.length<=1000000000) : Ok (Gv cmp l) λr=>r.Perm l/\r.Pairwise λa b=>xK key b a=false:=by obtain⟨r,M⟩:=Vv (cmp:=cmp) (l:=l) (fJ (λa _ b _=>⟨_,F a b⟩) (λa _=>by rw[fS F,YA]) (λa _ b _ c _ H J=>by rw[fS F] at *;exact SY K _ _ _ H J) (λa _ b _ c _ H J=>by rw[fS F] at *;exact oZ K _ _ _ H J) P);obtain⟨H,J⟩:=M3 M;exact⟨r,M,H,J.imp λh=>by rw[fS F] at h;exact h⟩
def Wn {l:I X}(F :∀a b:X,(key a).length=(key b).length)(H:l.Pairwise λa b=>xK key b a=false)(J:l.Pairwise λa b=>key a≠key b):l.Pairwise λa b=>xK key a b=true:=
 (H.and J).imp λ{a b} h=>(X7 F b a h.1).resolve_left λe=>h.2 e.symm
def fP (F :∀a b:X,(key a).length=(key b).length){l m:I X}(H:l.Pairwise λa b=>xK key a b=true)(J:m.Pairwise λa b=>xK key a b=true)(h :∀x,x∈l↔x∈m):l=m:=
 J3 (lt:=λa b=>xK key a b=true) (λa h=>by rw[YA] at h;simp at h) (λa b c=>SY F a b c) H J h
end
def RH {α:Type}{lt:α->α->C}(htr :∀a b c,lt a b=true->lt b c=true->lt a c=true)(hirr :∀a,lt a a=false){l:I α}{x:α}(M:l.Pairwise λa b=>lt a b=true) : x∈l↔l[(l.takeWhile (lt · x)).length]?=some x:=by
 constructor
 ·intro F;rw[<- Xet (p:=(lt · x)) (l:=l),X23] at F;rcases F with F|F
  ·have:=Ip (lt · x) F;rw[hirr] at this;simp at this
  have P:=(wH (lt · x) l).2;cases H:l.dropWhile (lt · x) with
  | nil=>rw[H] at F;simp at F
  | cons y t=>
   have Q:lt y x=false:=by have:=List.head?_dropWhile_not (lt · x) l;rw[H] at this;simpa using this
   have hp:(y::t).Pairwise λa b=>lt a b=true:=by rw[<- H];exact M.sublist (List.dropWhile_sublist _)
   rw[H] at F;have J:x=y:=by
    rcases Xa3.1 F with e|e
    ·exact e
    have:=(Xb4.1 hp).1 x e;rw[Q] at this;simp at this
   have K:(l.drop (l.takeWhile (lt · x)).length)[0]?=some x:=by rw[P,H,J];rfl
   rw[Xeu] at K;simpa using K
 intro h;exact Xcb h
def Xi {α:Type}{l:I α}{i:Int}{x:α}(F:0<=i)(h:l[i.toNat]?=some x):mu l i=some x:=by have:=(X16.1 h).1;unfold mu;rw[Wr (by omega),h]
def LL {α:Type}{l:I α}{i:Nat}{x:α}(h:i<l.length):(l.set i x).take (i+1)=l.take i++[x]:=by rw[Xbz,List.take_set_of_le (Xam _),List.getElem?_set_self h];rfl
section
variable {α:Type} {lt:α->α->C} (hirr :∀a,lt a a=false) (htr :∀a b c,lt a b=true->lt b c=true->lt a c=true) (htot :∀a b,lt a b=false->a=b\/lt b a=true)
include htr htot
def cL {p q:I α}{y z:α}(hp:p.Pairwise λa b=>lt a b=true)(J :∀x,x∈p↔x∈q)(P :∀x∈q,lt z x=false)(F:lt y z=false)(H:y≠z) : (p++[y]).Pairwise (λa b=>lt a b=true)/\∀x,x∈p++[y]↔x∈q++[y]:=by
 refine⟨Xbm.2 ⟨hp,by simp,λx Q w K=>?_⟩,λx=>by rw[X23,X23,J]⟩;rw[X14] at K;subst K;have U:=P x ((J x).1 Q);have M:lt z w=true:=(htot _ _ F).resolve_left H;rcases htot _ _ U with e|e
 ·rw[<- e];exact M
 exact htr _ _ _ e M
include hirr
end
end Go.AX
end
section
namespace Go.AX.Q25
open Go Go.AX
def fl (t:Int):Int:=if t=1 then 64 else if t=2 then 64 else if t=3 then 64 else if t=4 then 128 else if t=5 then 64 else if t=8 then 192 else if t=32 then 192 else if t=35 then 192 else 0
def yP (t:Int):C:=decide (fl t=0)&&(decide (t≠14)&&decide (t≠15))
def QJ (t:Int):(A7 EB t).getD 0=fl t:=by
 unfold EB fl;simp only[A7,Xbr];repeat' (split;· rfl)
 rfl
def Nb (t:Int):(t=1/\fl t=64)\/(t=2/\fl t=64)\/(t=3/\fl t=64)\/(t=4/\fl t=128)\/(t=5/\fl t=64)\/(t=8/\fl t=192)\/(t=32/\fl t=192)\/(t=35/\fl t=192) \/ (t≠1/\t≠2/\t≠3/\t≠4/\t≠5/\t≠8/\t≠32/\t≠35/\fl t=0):=by unfold fl;by_cases h1:t=1<;>by_cases F:t=2<;>by_cases H:t=3<;>by_cases J:t=4<;>by_cases K:t=5<;>by_cases M:t=8<;>by_cases P:t=32<;>by_cases Q:t=35<;>first|(exfalso;omega)|simp[h1,F,H,J,K,M,P,Q]
def NX (t:Int):Bl t=some (fl t):=by
 unfold Bl;simp only[AC,Xbr];rcases Nb t with ⟨h,e⟩|⟨h,e⟩|⟨h,e⟩|⟨h,e⟩|⟨h,e⟩|⟨h,e⟩|⟨h,e⟩|⟨h,e⟩|⟨F,H,J,K,M,P,Q,U,e⟩<;>rw[e];iterate 8 (subst h;rfl)
 simp[F,H,J,K,M,P,Q,U]
def kx (t:Int)(k:C->O C):(if (fl t==0)=true then if (cond true (t !=14) false)=true then k (cond true (t !=15) false) else k false else k false)=k (yP t):=by have e1:(t !=14)=!decide (t=14):=rfl;have e2:(t !=15)=!decide (t=15):=rfl;unfold yP;rw[e1,e2];by_cases h1:fl t=0<;>by_cases F:t=14<;>by_cases H:t=15<;>simp[h1,F,H]
def I8 (t:Int):EN t=some (yP t):=by unfold EN;rw[AC,QJ,AA];exact kx t some
def LG (t:Int):Di t=some (yP t):=by unfold Di;rw[AC,NX,AA];exact kx t some
def HJ (a b c:Int):Bg a b c=some (decide (b<=a)&&decide (a<=c)):=by
 unfold Bg;rw[AC];by_cases h:b<=a
 ·rw[Wr (by simpa using h),Wz h];rfl
 rw[Wm (by simpa using h),Xa5 h];rfl
def xI (a:Int):CO a=some (decide (1<=a)&&decide (a<=4294967295)):=by
 unfold CO;rw[AC];by_cases h:1<=a
 ·rw[Wr (by simpa using h),Wz h];rfl
 rw[Wm (by simpa using h),Xa5 h];rfl
def bt (x m:Int):Int:=AO ((Xa2 64 x &&& Xa2 64 m).toNat:Int)
def mD {α σ ρ:Type}{K:σ->O ρ}{g:σ->α->σ} :∀(l:I α) (i:Nat) (s:σ),AI K (λnext x _ s=>next (g s x)) l i s=K (l.foldl g s)
 | [],_,_=>rfl
 | x::t,i,s=>mD t (i+1) (g s x)
def val (l:I S):Nat:=l.foldl (λm x=>m*256+x.toNat) 0
def Y1 (l:I S)(x:S):val (l++[x])=val l*256+x.toNat:=by simp[val]
instance (F:Addr):Tt (CX F):=by unfold CX;exact Tt.wT
instance (F:Addr):Tt (C6 F):=by unfold C6;exact Tt.wT
instance (F:I S):Tt (CE F):=by unfold CE;exact Tt.wT
instance (F:Int):Tt (Bl F):=by unfold Bl;exact Tt.wT
instance (F:Int):Tt (Di F):=by unfold Di;exact Tt.wT
instance (F:qv):Tt (Fg F):=by unfold Fg;exact Tt.wT
instance (F:qv) (H:qv):Tt (G4 F H):=by unfold G4;exact Tt.wT
instance (F:oB):Tt (Ce F):=by unfold Ce;exact Tt.wT
instance (F:oB) (H:oB):Tt (DK F H):=by unfold DK;exact Tt.wT
instance (F:I qv) (H:qv):Tt (IX F H):=by unfold IX;exact Tt.wT
instance:Tt (EJ):=by unfold EJ;exact Tt.wT
instance (F:I qv) (H:I qv):Tt (FM F H):=by unfold FM;exact Tt.wT
instance (F:I oB) (H:I oB):Tt (CC F H):=by unfold CC;exact Tt.wT
instance (F:I gH) (H:I gH):Tt (CS F H):=by unfold CS;exact Tt.wT
instance (F:Addr):Tt (BZ F):=by unfold BZ;exact Tt.wT
instance (F:Int):Tt (Gg F):=by unfold Gg;exact Tt.wT
instance (F:Addr) (H:Int):Tt (EQ F H):=by unfold EQ;exact Tt.wT
def cM {a k:Nat}(J:a<2^64)(K:k<=64):(Xa2 64 (a:Int) &&& ~~~Xa2 64 ((2^k-1:Nat):Int)).toNat=a/2^k*2^k:=by
 apply Nat.eq_of_testBit_eq;intro i;rw[Xbn,Xbn,BitVec.testBit_toNat];simp only[BitVec.getLsbD_and,BitVec.getLsbD_not,BitVec.getLsbD_ofNat,Nat.testBit_mul_two_pow,Nat.testBit_div_two_pow,Nat.testBit_two_pow_sub_one];by_cases H:i<64
 ·by_cases F:k<=i
  ·simp[H,F,Nat.not_lt.2 F]
  simp[H,F,Xby F]
 have:a.testBit i=false:=Nat.testBit_lt_two_pow (Xbd J (Nat.pow_le_pow_right (by omega) (by omega)));by_cases F:k<=i
 ·simp[H,F,this]
 omega
def By (n:Nat):AT (n:Int)=Xaq n:=by unfold AT;apply Xdg.1;simp only[Xag];omega
def Addr.n (a:Addr):Nat:=a.Hi.toNat*2^64+a.Lo.toNat
def Addr.w (a:Addr):Nat:=if a.V6 then 128 else 32
def Addr.ok (a:Addr):C:=cond a.V6 true (cond ((a.Hi.toNat:Int)==0) (decide ((a.Lo.toNat:Int)<4294967296)) false)
def zo (F:C)(n:Nat):Addr:=⟨F,Xaq (n/2^64),Xaq n⟩
def Addr.cut (a:Addr)(n:Nat):Addr:=zo a.V6 (a.n/2^(a.w-n)*2^(a.w-n))
def mo (b:C)(m:Nat):(zo b m).V6=b:=by unfold zo;rfl
def qO (a:Addr)(n:Nat):(a.cut n).V6=a.V6:=mo _ _
def uT (h l k:Nat)(F:l<2^64)(H:k<=64):(h*2^64+l)/2^k*2^k=h*2^64+l/2^k*2^k:=by
 have:(2:Nat)^64=2^(64-k)*2^k:=by rw[<- Nat.pow_add];congr 1;omega
 rw[this,<- Nat.mul_assoc,Xe0,Nat.add_mul_div_right _ _ (Xe4 k),X32,Xe0]
def qG:AT (((0:Nat):Int)-1)=Xaq 18446744073709551615:=by unfold AT;congr 1
def rf {k:Nat}(J:k<64):AT (((Xaq (2^k)).toNat:Int)-1)=Xaq (2^k-1):=by
  have K:(2:Nat)^k<2^64:=Nat.pow_lt_pow_right (by omega) (by omega);have M:0<(2:Nat)^k:=Xe4 k;have F:(Xaq (2^k)).toNat=2^k:=by simp only[Xag];omega
  rw[F];have H:((2^k:Nat):Int)-1=((2^k-1:Nat):Int):=by omega
  rw[H,By]
def rH:AT (((Xaq (2^64)).toNat:Int)-1)=Xaq (2^64-1):=by
  have F:(Xaq (2^64)).toNat=0:=by simp only[Xag,Nat.mod_self]
  rw[F];exact qG
def rQ {k:Nat}(F:k<=64):AT (1*(2^(min (Wo ((AT (k:Int)).toNat:Int)) 64)))=Xaq (2^k):=by
 rw[By];have H:(Xaq k).toNat=k:=by simp;omega
 rw[H,Xaa,Xcw F,Int.one_mul];have J:((2:Int)^k)=((2^k:Nat):Int):=by simp
 rw[J,By]
def Y6 {k:Nat}(F:k<=64):AT (((AT (1*(2^(min (Wo ((AT (k:Int)).toNat:Int)) 64)))).toNat:Int)-1)=Xaq (2^k-1):=by
 rw[rQ F];rcases Nat.lt_or_eq_of_le F with h|h
 ·exact rf h
 rw[h];exact rH
def Pn {x:j}{k:Nat}(F:k<=64):AT ((Xa2 64 (x.toNat:Int) &&& ~~~Xa2 64 ((Xaq (2^k-1)).toNat:Int)).toNat:Int)=Xaq (x.toNat/2^k*2^k):=by
 have h:(Xaq (2^k-1)).toNat=2^k-1:=by have:(2:Nat)^k<=2^64:=Nat.pow_le_pow_right (by omega) F;have H:0<(2:Nat)^k:=Xe4 k;simp only[Xag];omega
 rw[h,cM x.toNat_lt F,By]
def JL (a:Addr){n:Nat}(hn:n<=a.w):EQ a (n:Int)=some (a.cut n):=by
 have Q:BZ a=some (a.w:Int):=by unfold BZ Addr.w;split<;>rfl
 have J:AO ((a.w:Int)-(n:Int))=((a.w-n:Nat):Int):=by
  have:a.w<=128:=by unfold Addr.w;split<;>omega
  rw[AG (by omega)];omega
 have H:=a.Lo.toNat_lt;have U:=a.Hi.toNat_lt;unfold EQ;rw[Q,AA,J];have K:a.w-n<=128:=by unfold Addr.w;split<;>omega
 generalize hk:a.w-n=k at *;unfold Gg;by_cases V:k>64
 ·rw[Wr (by simp;omega),AA];have e:AO ((k:Int)-64)=((k-64:Nat):Int):=by rw[AG (by omega)];omega
  rw[e,Y6 (by omega)];simp only[Pn (show k-64<=64 by omega)];have M:(18446744073709551615:j)=Xaq (2^64-1):=rfl;rw[M,Pn (Xam 64)];have P:a.Lo.toNat/2^64=0:=Nat.div_eq_of_lt H;unfold Addr.cut zo Addr.n;rw[hk];have F:(2:Nat)^k=2^64*2^(k-64):=by rw[<- Nat.pow_add];congr 1;omega
  have Y:(a.Hi.toNat*2^64+a.Lo.toNat)/2^k=a.Hi.toNat/2^(k-64):=by rw[F,<- Nat.div_div_eq_div_mul,Xe0,Nat.add_mul_div_right _ _ (Xe4 64),P,Xbk]
  rw[Y];have Z:a.Hi.toNat/2^(k-64)*2^k=a.Hi.toNat/2^(k-64)*2^(k-64)*2^64:=by rw[F,Xct (2^64),Nat.mul_assoc]
  rw[Z,Nat.mul_div_cancel _ (Xe4 64),P];have e0:Xaq (a.Hi.toNat/2^(k-64)*2^(k-64)*2^64)=Xaq 0:=by apply Xdg.1;simp only[Xag,Nat.mul_mod_left,Nat.zero_mod]
  rw[e0,Nat.zero_mul]
 rw[Wm (by simp;omega),AA,Y6 (by omega)];simp only[Pn (show k<=64 by omega)];have M:(0:j)=Xaq (2^0-1):=rfl;rw[M,Pn (Xd7 64)];unfold Addr.cut zo Addr.n;rw[hk,uT _ _ _ H (by omega)];have a1:a.Lo.toNat/2^k*2^k<2^64:=Nat.lt_of_le_of_lt (Nat.div_mul_le_self _ _) H;have e1:Xaq (a.Hi.toNat/2^0*2^0)=Xaq ((a.Hi.toNat*2^64+a.Lo.toNat/2^k*2^k)/2^64):=by congr 1;omega
 have e2:Xaq (a.Lo.toNat/2^k*2^k)=Xaq (a.Hi.toNat*2^64+a.Lo.toNat/2^k*2^k):=by apply Xdg.1;simp only[Xag];omega
 rw[e1,e2]
def FP (n:Nat):A4 (n:Int)=Xbb n:=by unfold A4;apply UInt8.toNat_inj.1;simp only[Xd8];omega
def Addr.L (a:Addr):Nat:=if a.V6 then 16 else 4
def QV (a:Addr)(k:Nat):S:=Xbb (a.n/2^(8*k))
def Ew (a:Addr):CX a=some a.ok:=by unfold CX Addr.ok;rw[AC];generalize ((a.Hi.toNat:Int)==0)=x;generalize decide ((a.Lo.toNat:Int)<4294967296)=y;generalize a.V6=z;cases z<;>cases x<;>rfl
def ce {w:j}{k:Nat}(M:k<8) : A4 ((AT (Xas (w.toNat:Int) (2^(min (Wo ((AT (8*((AT (k:Int)).toNat:Int))).toNat:Int)) 64)))).toNat:Int)=Xbb (w.toNat/2^(8*k)):=by
 have F:(AT (k:Int)).toNat=k:=by rw[By];simp;omega
 have H:(AT (8*((AT (k:Int)).toNat:Int))).toNat=8*k:=by
  rw[F];have:(8*(k:Int))=((8*k:Nat):Int):=by omega
  rw[this,By];simp;omega
 have J:Xas (w.toNat:Int) ((2:Int)^(8*k))=((w.toNat/2^(8*k):Nat):Int):=by
  have:((2:Int)^(8*k))=((2^(8*k):Nat):Int):=by simp
  rw[this,Xcp _ (Xc4 _),Int.natCast_ediv]
 rw[H,Xaa,Xcw (by omega),J,By,FP];have:(Xaq (w.toNat/2^(8*k))).toNat=w.toNat/2^(8*k):=by have K:w.toNat/2^(8*k)<2^64:=Nat.lt_of_le_of_lt (Nat.div_le_self _ _) w.toNat_lt;rw[Xag,Xb9 K]
 rw[this]
def YT {a b:Nat}(h:a%256=b%256):Xbb a=Xbb b:=by apply UInt8.toNat_inj.1;simp only[Xd8];exact h
def Xx {a:Addr}{k:Nat}(J:k<16)(K:a.ok=true)(M:a.V6=false->k<4) : Xbb ((if k≥8 then a.Hi else a.Lo).toNat/2^(8*(k%8)))=QV a k:=by
 unfold QV Addr.n;have F:=a.Lo.toNat_lt;by_cases H:k≥8
 ·rw[Wr H];have e:8*k=64+8*(k%8):=by omega
  rw[e,Nat.pow_add,<- Nat.div_div_eq_div_mul,Xe0 (a.Hi.toNat*2^64),Nat.add_mul_div_right _ _ (Xe4 64),Nat.div_eq_of_lt F,Xbk]
 rw[Wm H];have e:k%8=k:=Xb9 (by omega);rw[e];apply YT;have e2:(2:Nat)^64=2^(8*k)*2^(64-8*k):=by rw[<- Nat.pow_add];congr 1;omega
 have e3:(2:Nat)^(64-8*k)=256*2^(56-8*k):=by have:(256:Nat)=2^8:=rfl;rw[this,<- Nat.pow_add];congr 1;omega
 have e4:a.Hi.toNat*2^64=a.Hi.toNat*2^(56-8*k)*256*2^(8*k):=by rw[e2,e3,Nat.mul_assoc,Nat.mul_assoc];congr 1;rw[Xct (2^(56-8*k)),Xct (2^(8*k))];rw[Nat.mul_assoc,Xct (2^(56-8*k)),Nat.mul_assoc]
 rw[e4,Xe0,Nat.add_mul_div_right _ _ (Xe4 _),Nat.add_mul_mod_self_right]
def KA {a:Addr}(U:a.ok=true):Ok (Bq a) λl=>l.length=a.L/\∀j,j<a.L->l[j]?=some (QV a (a.L-1-j)):=by
 unfold Bq;rw[Ew,AA,U];refine .ite (λh=>by simp at h) λ_=>?_;refine .join (λn:Int=>n=a.L) (λk K=>.ite (λh=>K _ (by unfold Addr.L;rw[Wr h];rfl)) λh=>K _ (by unfold Addr.L;rw[Wm h];rfl)) λn M=>?_;have hL:a.L=16\/a.L=4:=by unfold Addr.L;split<;>simp
 subst M;refine .join (λl:I S=>l.length=a.L/\∀j,j<a.L->l[j]?=some (QV a (a.L-1-j))) (λk K=>?_) λl Y=>.ret Y;refine .wA (λs:Int×I S=>-1<=s.1/\s.1=a.L-1-s.2.length/\∀j,j<s.2.length->s.2[j]?=some (QV a (a.L-1-j))) (λs=>(s.1+1).toNat) ?_ ?_ ?_
 ·rw[AG (by omega)];simp;omega
 ·rw[AG (by omega)];exact BW (by omega)
 rintro next ⟨p,l⟩ ⟨Z,P,Q⟩ M
 simp only at Z P Q;refine .ite (λh=>?_) λh=>K _ ⟨by simp at h;omega,λj V=>Q j (by simp at h;omega)⟩;simp only[Wd] at h;obtain⟨k,rfl⟩ :∃k:Nat,p=k:=⟨p.toNat,by omega⟩;refine .join (λw:UInt64=>w=if k≥8 then a.Hi else a.Lo) (λk' F=>.ite (λh=>F _ (by rw[Wr (by simp at h;omega)]) ) λh=>F _ (by rw[Wm (by simp at h;omega)])) λw hw=>?_;refine .bind (Ok.gN (by decide) (by simp;omega)) λl' H=>?_;have hb:k<16:=by omega
 have ht:Xed (k:Int) 8=((k%8:Nat):Int):=by rw[Int.tmod_eq_emod_of_nonneg (by omega)];omega
 rw[ht,ce (Nat.mod_lt _ (by omega)),hw,Xx hb U (λh4=>by unfold Addr.L at P;simp[h4] at P;omega)] at H;subst H;rw[AG (by omega)];refine M _ ⟨by simp only;omega,by simp;omega,λj V=>?_⟩ (by simp only;omega);simp only[X11,X22] at V;by_cases J:j<l.length
 ·simp only;rw[Xai J];exact Q j J
 have:j=l.length:=by omega
 subst this;simp only[Xap (Xam _),Nat.sub_self,List.getElem?_cons_zero];congr 2;omega
def fN {u v:Nat}(K:u<2^64)(M:v<256):AT ((Xa2 64 ((AT ((u:Int)*(2^(min (Wo 8) 64)))).toNat:Int) ||| Xa2 64 ((AT (v:Int)).toNat:Int)).toNat:Int)=Xaq (u*256+v):=by
 have F:((u:Int)*(2^(min (Wo 8) 64)))=((u*256:Nat):Int):=by have:min (Wo 8) 64=8:=rfl;rw[this];omega
 rw[F,By,By,By];have H:(Xaq v).toNat=v:=by simp only[Xag];omega
 have J:(Xaq (u*256)).toNat=2^8*(u%2^56):=by simp only[Xag];omega
 rw[H,J,Xbn,Xbn,BitVec.toNat_or,Xda,Xda,Xb9 (show 2^8*(u%2^56)<2^64 by omega),Xb9 (show v<2^64 by omega), ← Nat.two_pow_add_eq_or_of_lt (show v<2^8 by omega)];apply Xdg.1;simp only[Xag];omega
def PR {l:I S}(Q:l.length=4\/l.length=16):Ok (CE l) λr=>r=(zo (l.length==16) (val l%2^128),0):=by
 unfold CE;refine .join (λb=>b=false) (λk F=>.ite (λh=>F _ ?_) λ_=>F _ rfl) λb U=>?_
 ·rcases Q with M|M<;>simp[M] at h⊢
 subst U;refine .ite (λh=>by simp at h) λ_=>?_;refine .join (λa=>a=zo (l.length==16) (val l%2^128)) (λk F=>?_) λa V=>.ret (by rw[V]);refine .xL (λi s=>s=zo (l.length==16) (val (l.take i)%2^128)) ?_ (λs Y=>F _ (by rw[Y,Xcj])) ?_
 ·have:((l.length:Int)==16)=(l.length==16):=by rw[X28];simp only[Xbr];omega
  rw[this,List.take_zero];have e0:val []%2^128=0:=by simp[val]
  rw[e0];unfold zo;rfl
 rintro next x i s P rfl Z
 refine Z _ ?_;have a1:=(X16.1 P).1;have ht:l.take (i+1)=l.take i++[x]:=by rw[Xbz,P];rfl
 rw[ht,Y1];generalize val (l.take i)=m;have H:=x.toNat_lt;have J:(zo (l.length==16) (m%2^128)).Lo.toNat=m%2^64:=by unfold zo;simp only[Xag];omega
 have K:(zo (l.length==16) (m%2^128)).Hi.toNat=m/2^64%2^64:=by unfold zo;simp only[Xag];omega
 have h1:=fN (u:=m%2^64) (v:=x.toNat) (by omega) H;have h2:=fN (u:=m/2^64%2^64) (v:=m%2^64/2^56) (by omega) (by omega);have h3:Xas ((m%2^64:Nat):Int) (2^(min (Wo 56) 64))=((m%2^64/2^56:Nat):Int):=by
  have:min (Wo 56) 64=56:=rfl;have e5:((2:Int)^56)=((2^56:Nat):Int):=by simp
  rw[this,e5,Xcp _ (Xc4 _),Int.natCast_ediv]
 rw[J,K,h3,h1,h2,mo];unfold zo;have e1:Xaq (m/2^64%2^64*256+m%2^64/2^56)=Xaq ((m*256+x.toNat)%2^128/2^64):=by apply Xdg.1;simp only[Xag];omega
 have e2:Xaq (m%2^64*256+x.toNat)=Xaq ((m*256+x.toNat)%2^128):=by apply Xdg.1;simp only[Xag];omega
 rw[e1,e2]
def ZC :∀(l:I S) (q:Nat),(val l).testBit q=if q<8*l.length then (l.getD (l.length-1-q/8) 0).toNat.testBit (q%8) else false:=by
 intro l;induction h:l.length generalizing l with
 | zero=>intro q;have:l=[]:=Xar h;subst this;simp[val]
 | succ n P=>
  intro q;obtain⟨F,x,rfl⟩ :∃F x,l=F++[x]:=by
   rcases List.eq_nil_or_concat l with H|⟨F,x,H⟩
   ·subst H;simp at h
   exact⟨F,x,by simpa using H⟩
  have J:F.length=n:=by simpa using h
  rw[Y1,Xct,show (256:Nat)=2^8 from rfl,Nat.testBit_two_pow_mul_add _ (show x.toNat<2^8 from x.toNat_lt)];by_cases K:q<8
  ·rw[Wr K,Wr (by omega)];have e1:n+1-1-q/8=F.length:=by omega
   rw[e1,Xb9 K];simp[Xa6]
  rw[Wm K,P F J];by_cases M:q-8<8*n
  ·rw[Wr M,Wr (by omega)];have e1:n-1-(q-8)/8=n+1-1-q/8:=by omega
   have e2:(q-8)%8=q%8:=by omega
   rw[e1,e2,Xa6,Xa6,Xai (by omega)]
  rw[Wm M,Wm (by omega)]
def io {x:S}{r:Nat}(M:r<8){s:Nat}(F:s<8) : (A4 ((Xa2 8 (x.toNat:Int) &&& ~~~Xa2 8 ((A4 (Xas 128 (2^(min (Wo ((AT (r:Int)).toNat:Int)) 8)))).toNat:Int)).toNat:Int)).toNat.testBit s=(x.toNat.testBit s&&!decide (7-r=s)):=by
 have H:(AT (r:Int)).toNat=r:=by rw[By];simp;omega
 have J:Xas 128 ((2:Int)^r)=((2^(7-r):Nat):Int):=by
  have e1:((2:Int)^r)=((2^r:Nat):Int):=by simp
  have e2:(128:Int)=((128:Nat):Int):=rfl;rw[e1,e2,Xcp _ (Xc4 _),<- Int.natCast_ediv];congr 1;have e3:(128:Nat)=2^(7-r)*2^r:=by rw[<- Nat.pow_add,show 7-r+r=7 by omega]
  rw[e3,Nat.mul_div_cancel _ (Xe4 r)]
 rw[H,Xaa,Xcw (by omega),J,FP,FP,Xbn,Xbn];have hp:2^(7-r)<256:=Nat.lt_of_le_of_lt (Nat.pow_le_pow_right (by omega) (show 7-r<=7 by omega)) (by decide);have K:(Xbb (2^(7-r))).toNat=2^(7-r):=by simp only[Xd8];exact Xb9 hp
 rw[K,Xd8,Nat.testBit_mod_two_pow,BitVec.testBit_toNat];simp only[BitVec.getLsbD_and,BitVec.getLsbD_not,BitVec.getLsbD_ofNat,F,decide_true,Xce,Nat.testBit_two_pow]
def Addr.Cn (a:Addr){n q:Nat}(F:n<=a.w):(a.n/2^(a.w-n)*2^(a.w-n)).testBit q=(a.n.testBit q&&decide (a.w-n<=q)):=by
 rw[Nat.testBit_mul_two_pow,Nat.testBit_div_two_pow];by_cases h:a.w-n<=q
 ·simp[h]
 simp[h]
def mH {b c:C}(h:cond b c false=true):b=true/\c=true:=by cases b<;>simp at h⊢;exact h
def Addr.My {a:Addr}(F:a.ok=true)(K:a.V6=false):a.Hi.toNat=0/\a.Lo.toNat<2^32:=by unfold Addr.ok at F;rw[K] at F;obtain⟨H,J⟩:=mH F;have J:=Xen J;have H:=eq_of_beq H;omega
def Addr.FF {a:Addr}(J:a.ok=true):a.n<2^a.w:=by
 have Q:=a.Lo.toNat_lt;have U:=a.Hi.toNat_lt;cases F:a.V6
 ·obtain⟨K,M⟩:=Addr.My J F;have H:a.w=32:=by unfold Addr.w;rw[F];rfl
  have P:a.n=a.Lo.toNat:=by unfold Addr.n;rw[K,Nat.zero_mul,Xbk]
  rw[H,P];exact M
 have H:a.w=128:=by unfold Addr.w;rw[F];rfl
 rw[H];unfold Addr.n;omega
def WA {a:Addr}{n:Nat}(U:a.ok=true)(hn:n<=a.w):Ok (D1 a (n:Int)) λr=>r=(⟨a.cut n,n⟩,0):=by
 have hw:a.w=8*a.L:=by unfold Addr.w Addr.L;split<;>rfl
 have hL:a.L=16\/a.L=4:=by unfold Addr.L;split<;>simp
 unfold D1;rw[Ew,AA,U];refine .ite (λh=>by simp at h) λ_=>?_;have J:C6 a=some (a.w:Int):=by unfold C6 Addr.w;split<;>rfl
 refine .join (λb=>b=false) (λk hk=>.ite (λh=>by simp at h;omega) λ_=>?_) λb V=>?_
 ·rw[J,AA];refine hk _ ?_;simp only[Xcn,Xb0];omega
 subst V;refine .ite (λh=>by simp at h) λ_=>?_;refine .bind (KA U) λl hl=>?_;refine .join (λl:I S=>l.length=a.L/\val l=a.n/2^(a.w-n)*2^(a.w-n)) (λk hk=>?_) λY F=>?_
 ·refine .wA (λs:Int×I S=>∃P:Nat,s.1=P/\n<=P/\P<=8*a.L/\s.2.length=a.L/\∀q,q<8*a.L->(s.2.getD (a.L-1-q/8) 0).toNat.testBit (q%8)=(a.n.testBit q&&!decide (8*a.L-P<=q/\q<8*a.L-n)))
   (λs=>(8*a.L-s.1).toNat) ⟨n,rfl,Xam _,by omega,hl.1,λq H=>?_⟩ (BW (by simp only;omega)) ?_
  ·have Z:a.L-1-q/8<a.L:=by omega
   have h2:=hl.2 _ Z;have h3:a.L-1-(a.L-1-q/8)=q/8:=by omega
   have K:¬ (8*a.L-n<=q/\q<8*a.L-n):=by omega
   rw[Xa6,h2,h3];simp only[Xb7,K,decide_false,Bool.not_false,Xdb];unfold QV;rw[Xd8,Nat.testBit_mod_two_pow,Nat.testBit_div_two_pow,Nat.mod_add_div];simp[Nat.mod_lt]
  rintro next ⟨p,l⟩ ⟨P,Z,h2,h3,K,h5⟩ a1
  simp only at Z K h5;subst Z;have e8:AO (8*(l.length:Int))=((8*a.L:Nat):Int):=by rw[AG (by omega)];omega
  refine .ite (λh=>?_) λh=>hk _ ?_
  ·rw[e8] at h;simp only[Wd] at h;have ed:AO (Int.tdiv (P:Int) 8)=((P/8:Nat):Int):=by rw[Int.tdiv_eq_ediv_of_nonneg (by omega),AG (by omega)];omega
   have et:Xed (P:Int) 8=((P%8:Nat):Int):=by rw[Int.tmod_eq_emod_of_nonneg (by omega)];omega
   have M:P/8<l.length:=by omega
   rw[ed,BY M,AA,AA];refine .bind (Ok.wj (by omega)) λY F=>?_;rw[Xaa,et] at F;rw[AG (by omega)];refine a1 _ ⟨P+1,by simp only;omega,by omega,by omega,by simp only;omega,λq H=>?_⟩ (by simp only;omega);simp only;rw[F.1];by_cases V:a.L-1-q/8=P/8
   ·have Q:=h5 q H;rw[V,Xa6,X15 M,Xb7] at Q;rw[V,Xa6,List.getElem?_set_self (by omega),Xb7,io (Nat.mod_lt _ (by omega)) (Nat.mod_lt _ (by omega)),Q,Bool.and_assoc];congr 1;rw[X28];simp only[X27,Xbj,Xb0];omega
   have Q:=h5 q H;rw[Xa6] at Q;rw[Xa6,Xde (by omega),Q];congr 2;rw[Xek];omega
  rw[e8] at h;simp only[Wd] at h;have hP:P=8*a.L:=by omega
  subst hP;refine⟨K,?_⟩;apply Nat.eq_of_testBit_eq;intro q;rw[ZC,a.Cn hn,K];by_cases H:q<8*a.L
  ·rw[Wr H,h5 q H];congr 1;rw[X28];simp only[Xbj,Xb0,Wd];omega
  rw[Wm H];have:a.n.testBit q=false:=Nat.testBit_lt_two_pow (Xbd (Addr.FF U) (Nat.pow_le_pow_right (by omega) (by omega)));rw[this,Bool.false_and]
 refine .bind (PR (by omega)) λr hr=>?_;subst hr;refine .ret ?_;have e1:(Y.length==16)=a.V6:=by rw[F.1];unfold Addr.L;cases a.V6<;>rfl
 have e2:val Y%2^128=val Y:=by refine Xb9 ?_;rw[F.2];exact Nat.lt_of_le_of_lt (Nat.div_mul_le_self _ _) (Xbd (Addr.FF U) (Nat.pow_le_pow_right (by omega) (by rw[hw];omega)))
 rw[e1,e2,F.2,Addr.cut]
def UO {a:Addr}{n:Int}(K:¬ (a.ok=true/\0<=n/\n<=a.w)):Ok (D1 a n) λr=>r.2≠0:=by
 have F:C6 a=some (a.w:Int):=by unfold C6 Addr.w;split<;>rfl
 unfold D1;rw[Ew,AA];refine .ite (λ_=>.ret (by decide)) λH=>?_;have H:a.ok=true:=by simpa using H
 refine .join (λb=>b=true) (λk J=>.ite (λ_=>J _ rfl) λh=>?_) λb M=>?_
 ·rw[F,AA];refine J _ ?_;show decide (n>(a.w:Int))=true;simp at h⊢;have:¬ (0<=n/\n<=a.w):=λq=>K ⟨H,q⟩;omega
 subst M;exact .ite (λ_=>.ret (by decide)) λh=>absurd rfl h
def Im (a:Addr)(n:Int) :∃r e,D1 a n=some (r,e)/\((a.ok=true/\0<=n/\n<=a.w)/\e=0/\r=⟨a.cut n.toNat,n⟩\/¬ (a.ok=true/\0<=n/\n<=a.w)/\e≠0):=by
 by_cases h:a.ok=true/\0<=n/\n<=a.w
 ·obtain⟨k,rfl⟩ :∃k:Nat,n=k:=⟨n.toNat,by omega⟩;obtain⟨r,F,H⟩:=WA h.1 (n:=k) (by omega);exact⟨_,_,by rw[F,H],.inl ⟨h,rfl,by rw[Xaa]⟩⟩
 obtain⟨r,F,H⟩:=UO h;exact⟨r.1,r.2,F,.inr ⟨h,H⟩⟩
instance (a:Addr) (n:Int):Tt (D1 a n):=by obtain⟨r,e,h,_⟩:=Im a n;exact⟨_,h⟩
def Cr (p:fI)(x:Addr):C:=decide (0<=p.vg/\p.vg<=x.w)&&Addr.wa (x.cut p.vg.toNat) p.Addr
instance (p:fI):Tt (A8 p):=by unfold A8;exact Tt.wT
structure zJ (n:Nat)(a:gE):Prop where
 p:a.Path.length<=n
 s :∀s∈a.Path,s.o3.length<=n
 c:a.cW.length<=n
 l:a.oB.length<=n
 o:a.iX.length<=n
 d :∀u∈a.iX,u.Data.length<=n
def zJ.mono {n m:Nat}{a:gE}(h:zJ n a)(F:n<=m):zJ m a:=
 ⟨Xb1 h.p F,λs H=>Xb1 (h.s s H) F,Xb1 h.c F,Xb1 h.l F,Xb1 h.o F,λu J=>Xb1 (h.d u J) F⟩
def zJ.zero (n:Nat)(x:Addr)(a b c d:Int):zJ n ⟨a,[],x,b,c,d,[],[],[]⟩:=⟨Xd7 _,λ_ h=>absurd h (by simp),Xd7 _,Xd7 _,Xd7 _,λ_ h=>absurd h (by simp)⟩
instance (a b:I oF):Tt (FH a b):=by
 unfold FH;refine Ok.tt (Q:=λ_=>True) (.ite (λ_=>.ret trivial) λV=>.join (λ_=>True) (λk Y=>?_) λ_ _=>.ret trivial);have V:a.length=b.length:=by simp at V;omega
 refine .for_ (λ_=>Y _ trivial) λnext x i s hi hx J=>.join (λ_=>True) (λk2 K=>?_) λ_ _=>J _;have F:i<b.length:=by omega
 refine .join (λc=>c=false->x.o3.length=b[i].o3.length) (λk3 H=>?_) λc Z=>.ite (λ_=>.ret trivial) λM=>.join (λ_=>True) (λk4 P=>?_) λ_ _=>K _ trivial
 ·rw[BY F,AA];refine .ite (λ_=>H _ (by simp)) λ_=>?_;rw[AA];exact H _ λh=>by simp at h;omega
 have:=Z (by simpa using M);refine .for_ (λ_=>P _ trivial) λnext y j s hj hy U=>?_;rw[BY F,AA];refine .bind (.mu (by omega)) λ_ _=>.ite (λ_=>.ret trivial) λ_=>U _
instance (a b:gE):Tt (Dv a b):=by unfold Dv;exact Tt.wT
def dG {K V:Type}[BEq K](H :∀a b:K,(a==b)=true↔a=b){l:I (K×V)}{k F:K}{v:V}:A7 (BN l k v) F=cond (F==k) (some v) (A7 l F):=by
 induction l with
 | nil=>simp only[BN,A7];cases F==k<;>rfl
 | cons p l J=>
  simp only[BN];cases h:(k==p.1)
  ·simp only[Xds,Xe7,A7,J];cases M:(F==p.1)
   ·simp
   have P:(F==k)=false:=by
    cases Q:(F==k)
    ·rfl
    have e1:=(H _ _).1 M;have e2:=(H _ _).1 Q;rw[<- e2,e1,(H _ _).2 rfl] at h;simp at h
   rw[P];simp
  simp only[Xeq,A7];have e:=(H _ _).1 h;rw[<- e];cases F==k<;>simp
def wV {V:Type}{l:I (Int×V)}{k F:Int}{v:V}:A7 (BN l k v) F=if F=k then some v else A7 l F:=by
 rw[dG (λa b=>Xbr)];by_cases h:F=k
 ·rw[Wr h,h];simp
 rw[Wm h,show (F==k)=false by simpa using h];rfl
def Mb (n:Nat)(F:I Int)(m:I (Int×I S)):Prop:=(∀k v,A7 m k=some v->v.length<=n)/\∀k∈F,A7 m k=none
def Mb.set {n:Nat}{J H:I Int}{m:I (Int×I S)}{k:Int}{v:I S}(h:Mb n J m)(M:v.length<=n)(K :∀q∈H,q∈J/\q≠k):Mb n H (BN m k v):=by
 refine⟨λq u F=>?_,λq F=>?_⟩
 ·rw[wV] at F;split at F
  ·obtain rfl:=X25 F;exact M
  exact h.1 _ _ F
 rw[wV,Wm (K q F).2];exact h.2 q (K q F).1
def Mb.sub {n:Nat}{H F:I Int}{m:I (Int×I S)}(h:Mb n H m)(J :∀q∈F,q∈H):Mb n F m:=⟨h.1,λq K=>h.2 q (J q K)⟩
def B5 (p:fI):Prop:=p.Addr.ok=true/\0<=p.vg/\p.vg<=p.Addr.w/\p.Addr.cut p.vg.toNat=p.Addr
def Addr.vR (a b:Addr):Addr.wa a b=true↔a=b:=by
 unfold Addr.wa;simp only[X27,Xbr,Xdb,Int.natCast_inj,Xdg];constructor
 ·rintro⟨F,H,J⟩;cases a;cases b;simp_all
 rintro rfl;exact⟨rfl,rfl,rfl⟩
def fI.vR (a b:fI):fI.wa a b=true↔a=b:=by
 have h:=Addr.vR a.Addr b.Addr;unfold Addr.wa at h;unfold fI.wa;rw[X27,h];simp only[Xdb,Xbr];constructor
 ·rintro⟨F,H⟩;cases a;cases b;simp_all
 rintro rfl;exact⟨rfl,rfl⟩
def Hk (p:fI):Ok (A8 p) λb=>b=true↔B5 p:=by
 obtain⟨r,e,K,M⟩:=Im p.Addr p.vg;unfold A8;rw[K,AA];dsimp only;unfold B5;rcases M with ⟨F,rfl,rfl⟩|⟨F,P⟩
 ·refine .join (λb=>b=true↔p.Addr.cut p.vg.toNat=p.Addr) (λk H=>.ite (λ_=>H _ ?_) λh=>absurd rfl h) λb J=>.ret (by rw[J];exact⟨λh=>⟨F.1,F.2.1,F.2.2,h⟩,λh=>h.2.2.2⟩);show fI.wa p _=true↔_;rw[fI.vR];exact⟨λh=>(Xa4 fI.Addr h).symm,λh=>by rw[h]⟩
 refine .join (λb=>b=false) (λk H=>.ite (λh=>absurd (by simpa using h) P) λ_=>H _ rfl) λb J=>.ret ⟨λh=>by rw[J] at h;simp at h,λh=>absurd ⟨h.1,h.2.1,h.2.2.1⟩ F⟩
def Dk (d:r9):Prop:=0<=d.At/\d.L.length<=9223372036854775807
def Er (p:fI):Prop:=A8 p=some true/\(p.vg=16/\p.Addr.V6=false\/p.vg=48/\p.Addr.V6=true)
def Er.Ca {p:fI}(h:Er p):B5 p:=by obtain⟨b,F,H⟩:=Hk p;rw[h.1] at F;exact H.1 (X25 F).symm
def sq:T:=Xc5 (Xcc (Xa8 65 (Xa8 76 (Xa8 76 Xej))))
def su:T:=Xc5 (Xcc (Xa8 79 (Xa8 78 (Xa8 69 Xej))))
def Qq:EJ=some ⟨-1,[],⟨false,0,0⟩,-1,-1,-1,[],[],[]⟩:=rfl
def Sh (p:I oF)(o:I gH):Prop:=(p.length<=4/\∀s∈p,s.o3.length<=20)/\o.length<=4/\∀u∈o,u.Data.length<=4
def Sh.a {p:I oF}{o:I gH}(h:Sh p o){a b c d:Int}{x:Addr}{e:I qv}{f:I oB}(J:e.length<=8)(K:f.length<=8):zJ 1000 ⟨a,p,x,b,c,d,e,f,o⟩:=
 ⟨by have:=h.1.1;simp only;omega,λs F=>by have:=h.1.2 s F;omega,by simp only;omega,by simp only;omega,by have:=h.2.1;simp only;omega,λu H=>by have:=h.2.2 u H;omega⟩
def Kc {b:C}{l:I Int}(h:l.length<=20):Sh [⟨b,l⟩] []:=⟨⟨by simp,by simpa using h⟩,by simp,by simp⟩
def xF (a b:Int):C:=decide (a<b)
def X9 (a:Int):xF a a=false:=by simp[xF]
def cF (a b c:Int)(F:xF a b=true)(H:xF b c=true):xF a c=true:=by simp only[xF,Wd] at *;omega
def o8 (a b:Int)(h:xF a b=false):a=b\/xF b a=true:=by simp only[xF,Wd,Xb0] at *;omega
def xP (l r:I Int):Prop:=r.Pairwise (λa b=>xF a b=true)/\∀x,x∈r↔x∈l
end Go.AX.Q25
end
section
namespace Go.AX
section
variable {α ρ:Type}
def vQ (lt:α->α->C):I α->C
 | x::y::t=>lt x y&&vQ lt (y::t)
 | _=>true
def Nl (lt:α->α->C)(x y:α)(t:I α):vQ lt (x::y::t)=(lt x y&&vQ lt (y::t)):=rfl
def VL (lt:α->α->C)(x:α):vQ lt [x]=true:=rfl
def ON {lt:α->α->C}(F :∀a b c,lt a b=true->lt b c=true->lt a c=true) :∀{l:I α},vQ lt l=true↔l.Pairwise λa b=>lt a b=true
 | []=>by simp[vQ]
 | [x]=>by simp[vQ]
 | x::y::t=>by
  rw[Nl,X27,ON F (l:=y::t),Xb4 (a:=x)];constructor
  ·rintro⟨H,J⟩;refine⟨λz K=>?_,J⟩;rcases Xa3.1 K with e|K
   ·rw[e];exact H
   exact F _ _ _ H ((Xb4.1 J).1 z K)
  rintro⟨H,J⟩;exact⟨H y (by simp),J⟩
def nt {ok:α->C}{lt:α->α->C}{l:I α}{K:Unit->O ρ}{F:O ρ}{body:(Unit->O ρ)->α->Nat->Unit->O ρ}(Q:l.length<=4611686018427387904) (H :∀next x,x∈l->body next x 0 ()=if ok x then next () else F) (J :∀next x y i,x∈l->y∈l->mu l (AO (((i+1:Nat):Int)-1))=some y->body next x (i+1) ()=if ok x&&lt y x then next () else F) : AI K body l 0 ()=if l.all ok&&vQ lt l then K () else F:=by
 have key :∀(t p:I α) (y:α),l=p++y::t->AI K body t (p.length+1) ()=if t.all ok&&vQ lt (y::t) then K () else F:=by
  intro t;induction t with
  | nil=>intro p y _;rw[VL];rfl
  | cons x t P=>
   intro p y e;show body (λs=>AI K body t (p.length+1+1) s) x (p.length+1) ()=_;have M:p.length<l.length:=by rw[e];simp
   rw[J _ x y p.length (by rw[e];simp) (by rw[e];simp) (by
    rw[AG (by omega),show ((p.length+1:Nat):Int)-1=(p.length:Int) by omega,e]
    exact JY p y (x::t))]
   have:=P (p++[y]) x (by rw[e];simp);rw[X11,X22] at this;rw[this,Nl,Xc3];generalize vQ lt (x::t)=c1;generalize t.all ok=c2;cases ok x<;>cases lt y x<;>cases c1<;>cases c2<;>rfl
 match l,H,J,key with
 | [],_,_,_=>rfl
 | x::t,H,_,key=>show body (λs=>AI K body t (0+1) s) x 0 ()=_;rw[H _ x (by simp)];have:=key t [] x rfl;rw[X13] at this;rw[this,Xc3];generalize vQ lt (x::t)=c1;generalize t.all ok=c2;cases ok x<;>cases c1<;>cases c2<;>rfl
def t8 {σ:Type}{g:σ->α->σ}{ok:α->C}{lt:α->α->C}{l:I α}{H:σ}{K:σ->O ρ}{F:O ρ}{body:(σ->O ρ)->α->Nat->σ->O ρ}(U:l.length<=4611686018427387904) (J :∀next x s,x∈l->body next x 0 s=if ok x then next (g s x) else F) (M :∀next x y i s,x∈l->y∈l->mu l (AO (((i+1:Nat):Int)-1))=some y->body next x (i+1) s=if ok x&&lt y x then next (g s x) else F) : AI K body l 0 H=if l.all ok&&vQ lt l then K (l.foldl g H) else F:=by
 have key :∀(t p:I α) (y:α) (s:σ),l=p++y::t->AI K body t (p.length+1) s=if t.all ok&&vQ lt (y::t) then K (t.foldl g s) else F:=by
  intro t;induction t with
  | nil=>intro p y s _;rw[VL];rfl
  | cons x t Q=>
   intro p y s e;show body (λs=>AI K body t (p.length+1+1) s) x (p.length+1) s=_;have P:p.length<l.length:=by rw[e];simp
   rw[M _ x y p.length s (by rw[e];simp) (by rw[e];simp) (by
    rw[AG (by omega),show ((p.length+1:Nat):Int)-1=(p.length:Int) by omega,e]
    exact JY p y (x::t))]
   have:=Q (p++[y]) x (g s x) (by rw[e];simp);rw[X11,X22] at this;rw[this,Nl,Xc3,Xbh];generalize vQ lt (x::t)=c1;generalize t.all ok=c2;cases ok x<;>cases lt y x<;>cases c1<;>cases c2<;>rfl
 match l,J,M,key with
 | [],_,_,_=>rfl
 | x::t,J,_,key=>show body (λs=>AI K body t (0+1) s) x 0 H=_;rw[J _ x H (by simp)];have:=key t [] x (g H x) rfl;rw[X13] at this;rw[this,Xc3,Xbh];generalize vQ lt (x::t)=c1;generalize t.all ok=c2;cases ok x<;>cases c1<;>cases c2<;>rfl
def WO {F:Type}{g:F->I α}{N:Nat}{body:(I α->O ρ)->F->Nat->I α->O ρ}{K:I α->O ρ} :∀{l:I F} {i:Nat} {v:I α},v.length+(l.flatMap g).length<=N-> (∀next x i v,x∈l->v.length+(g x).length<=N->body next x i v=next (v++g x))->AI K body l i v=K (v++l.flatMap g)
 | [],i,v,_,_=>by rw[List.flatMap_nil,Xaj];rfl
 | x::t,i,v,h,H=>by rw[Xaw,X11] at h;show body (λs=>AI K body t (i+1) s) x i v=_;rw[H _ x i v (by simp) (by omega),WO (l:=t) (by rw[X11];omega) λnext y j w J M=>H next y j w (X19 _ J) M,Xaw,Xak]
end
end Go.AX
end
