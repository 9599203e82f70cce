/-
  Texts of one proof, packed.
-/
import Derived.Test.YtppcmaidcgimpaaGreatDoorU35
set_option linter.all false
set_option maxRecDepth 100000
set_option maxHeartbeats 4000000
open List renaming length_map→X10,length_append→X11,length_cons→X12,length_nil→X13,mem_singleton→X14,getElem?_eq_some_iff→X16,length_drop→X17,length_take→X18,mem_cons_of_mem→X19,length_replicate→X20,length_set→X21,mem_append→X23
open Option.some renaming inj→X25
open Bool renaming and_eq_true→X27
open Nat renaming mul_le_mul_right→X31
open Option renaming bind→Wb
open Int renaming toNat→Wo,fdiv→Xas,tmod→Xed
open List renaming take→Xbx
open BitVec renaming ofInt→Xa2
open Go renaming maxLen→Xb3
section
namespace Go.AX.Q25
open Go Go.AX Go.AX.xP
def kf {α:Type}:I α->I (I α)
 | []=>[[]]
 | x::t=>kf t++(kf t).map (x::·)
def aR {α:Type}{l m:I α}(h:l.Sublist m):l∈kf m:=by
 induction h with
 | slnil=>exact X14.2 rfl
 | cons a _ F=>exact Xcr _ F
 | cons_cons a _ F=>exact Xdp _ (Xaf.2 ⟨_,F,rfl⟩)
def fx {α:Type}{l m:I α}{i:Nat}{x:α}(h:l.Sublist (m.take i))(F:m[i]?=some x):l.Sublist (m.take (i+1))/\(l++[x]).Sublist (m.take (i+1)):=by rw[JD F];exact⟨h.trans (List.sublist_append_left _ _),List.Sublist.append h (List.Sublist.refl _)⟩
def iZ {d:r9}(F:Dk d):Ok (Bh d) λr=>IW r.1=true/\r.1.length<=8/\Dk r.2:=by
 unfold Bh;refine .bind (AH F (by omega)) ?_;rintro⟨a,d⟩ ⟨_,_,F⟩;dsimp only at F⊢;refine .join (λx:r9×I qv=>Dk x.1/\x.2.Sublist ([⟨0,99⟩,⟨0,101⟩,⟨0,102⟩,⟨99,101⟩,⟨99,103⟩,⟨500,1⟩,⟨65535,666⟩,⟨65535,65282⟩]:I qv)) (λk V=>?_) (λ⟨d,l⟩ ⟨F,H⟩=>.ret ⟨?_,by have:=H.length_le;simpa using this,F⟩)
 ·refine .xL (λi (x:r9×I qv)=>Dk x.1/\x.2.Sublist (Xbx i ([⟨0,99⟩,⟨0,101⟩,⟨0,102⟩,⟨99,101⟩,⟨99,103⟩,⟨500,1⟩,⟨65535,666⟩,⟨65535,65282⟩]:I qv))) ⟨F,by simp⟩ (λx K=>V _ ⟨K.1,by simpa using K.2⟩) ?_;rintro next x i ⟨d,l⟩ K ⟨F,H⟩ P
  have Y:i<8:=(X16.1 K).1;have Q:l.length<=8:=by have:=H.length_le;rw[X18] at this;simp at this;omega
  dsimp only at F H⊢;have U:=fx H K;refine .join (λx:C×r9=>Dk x.2) (λk2 J=>.ite (λ_=>.ite (λ_=>J _ F) λ_=>.bind (AH F (by omega)) ?_) λ_=>J _ F) ?_
  ·rintro⟨b,d⟩ ⟨_,_,F⟩;exact J _ F
  rintro⟨c,d⟩ F;dsimp only at F⊢;refine .join (λZ:I qv=>Z.Sublist _) (λk3 M=>.ite (λ_=>.bind (.gN (by decide) (by simp;omega)) λw hw=>M _ (by rw[hw];exact U.2)) λ_=>M _ U.1) λl H=>P _ ⟨F,H⟩
 exact Xa0.1 (show (kf ([⟨0,99⟩,⟨0,101⟩,⟨0,102⟩,⟨99,101⟩,⟨99,103⟩,⟨500,1⟩,⟨65535,666⟩,⟨65535,65282⟩]:I qv)).all IW=true by kernel_rfl) _ (aR H)
def hZ {d:r9}(J:Dk d):Ok (DI d) λr=>Ib r.1=true/\r.1.length<=7/\Dk r.2:=by
 unfold DI;refine .bind (AH J (by omega)) ?_;rintro⟨a,d⟩ ⟨_,_,J⟩;dsimp only at J⊢;refine .join (λx:I oB=>x.Sublist ([⟨5,5,5⟩,⟨99,0,0⟩,⟨99,0,103⟩,⟨99,1,102⟩,⟨99,101,0⟩,⟨99,102,104⟩,⟨99,103,101⟩]:I oB)) (λk U=>?_) (λl F=>.ret ⟨?_,by have:=F.length_le;simpa using this,J⟩)
 ·refine .xL (λi (x:I oB)=>x.Sublist (Xbx i ([⟨5,5,5⟩,⟨99,0,0⟩,⟨99,0,103⟩,⟨99,1,102⟩,⟨99,101,0⟩,⟨99,102,104⟩,⟨99,103,101⟩]:I oB))) (by simp) (λx K=>U _ (by simpa using K)) ?_;intro next x i l K F M
  have V:i<7:=(X16.1 K).1;have P:l.length<=7:=by have:=F.length_le;rw[X18] at this;simp at this;omega
  have Q:=fx F K;refine .join (λY:I oB=>Y.Sublist _) (λk3 H=>.ite (λ_=>.bind (.gN (by decide) (by simp;omega)) λw Z=>H _ (by rw[Z];exact Q.2)) λ_=>H _ Q.1) λl F=>M _ F
 exact Xa0.1 (show (kf ([⟨5,5,5⟩,⟨99,0,0⟩,⟨99,0,103⟩,⟨99,1,102⟩,⟨99,101,0⟩,⟨99,102,104⟩,⟨99,103,101⟩]:I oB)).all Ib=true by kernel_rfl) _ (aR F)
structure PL (l:List Int):Prop where
 ne:l≠[]
 len:l.length<=10
 num :∀x∈l,Bv x=true
def Z6 {α:Type}{r:α->α->C}(h :∀a b,r a b=true) :∀l:I α,vQ r l=true
 | []=>rfl
 | [_]=>rfl
 | a::b::t=>by unfold vQ;rw[h,Z6 h (b::t)];rfl
def PL.Lv {l:I Int}(h:PL l):N4 ⟨false,l⟩=true:=by have e:vQ (λa b=>!(oF.mk false l).Set || xF a b) l=true:=Z6 (λ_ _=>rfl) l;have e1:l.all Bv=true:=Xa0.2 h.num;have e2:decide (l.length≠0)=true:=Wz (by have:=h.ne;simpa using this);show (decide (l.length≠0)&&(l.all Bv&&vQ (λa b=>!(oF.mk false l).Set || xF a b) l))=true;rw[e,e1,e2];rfl
def PL.v1 {l:I Int}(h:PL l):Dc [⟨false,l⟩]=true:=by unfold Dc;have:=h.len;rw[Wz (by simp[xm];omega)];simp[h.Lv,vQ]
def PL.v2 {l:I Int}(h:PL l):Dc [⟨false,l⟩,⟨true,[7,9]⟩]=true:=by
 unfold Dc;have:=h.len;rw[Wz (by simp[xm];omega)];have e:N4 ⟨true,[7,9]⟩=true:=by decide +kernel
 simp[h.Lv,e,vQ,Gc]
def aM {n:Int}(h:101<=n/\n<=105)(b:C):Ok (FS n b) λa=>a.ok=true/\a.V6=b/\Addr.wa a ⟨false,0,0⟩=false:=by
 have:n=101\/n=102\/n=103\/n=104\/n=105:=by omega
 rcases this with rfl|rfl|rfl|rfl|rfl<;>cases b<;>exact⟨_,rfl,by show Addr.ok _=true;kernel_rfl,rfl,by kernel_rfl⟩
structure GA (b:Bool)(p:List oF)(v6:Bool)(hi lo:UInt64)(o:List gH):Prop where
 path:Dc p=true/\p.length<=2/\∀s∈p,s.o3.length<=10
 next:(Addr.mk v6 hi lo).ok=true/\v6=b/\Addr.wa ⟨v6,hi,lo⟩ ⟨false,0,0⟩=false
 zn:ET o=true/\o.length<=1/\∀u∈o,u.Data.length<=2
def LR {l:I Int}(h:PL l):Dc [⟨false,l⟩]=true/\[(⟨false,l⟩:oF)].length<=2/\∀s ∈ [(⟨false,l⟩:oF)],s.o3.length<=10:=⟨h.v1,by simp,by simpa using h.len⟩
def di:ET []=true/\([]:I gH).length<=1/\∀u∈([]:I gH),u.Data.length<=2:=⟨rfl,by simp,by simp⟩
def dH {x:Int}(h:1<=x/\x<=4294967295):Bv x=true:=by unfold Bv;rw[Wz h.1,Wz h.2];rfl
def aB {d:r9}{n:Int}{b:C}(F:Dk d)(hn:101<=n/\n<=105):Ok (DO d n b) λr=>(EY r.1=true/\r.1.gO≠-1/\GA b r.1.Path r.1.Next.V6 r.1.Next.Hi r.1.Next.Lo r.1.iX/\r.1.cW.length<=8/\r.1.oB.length<=7)/\Dk r.2:=by
 unfold DO;rw[Qq,AA];dsimp only;refine .bind (AH F (by omega)) ?_;rintro⟨og,d⟩ ⟨ai,aj,F⟩;dsimp only at ai aj F⊢;refine .bind (AH F (by omega)) ?_;rintro⟨m,d⟩ ⟨m1,m2,F⟩;dsimp only at m1 m2 F⊢;refine .join (λx:r9×I Int=>Dk x.1/\x.2≠[]/\x.2.length<=5/\∀y∈x.2,Bv y=true) (λk P=>?_) ?_
 ·refine .wA (λs:Int×r9×I Int=>0<=s.1/\s.1<=3/\Dk s.2.1/\s.2.2≠[]/\s.2.2.length+s.1.toNat<=5/\∀y∈s.2.2,Bv y=true) (λs=>s.1.toNat) ⟨m1,by dsimp only;omega,F,by simp,by simp;omega,by simpa using dH (by omega)⟩ (BW (by dsimp only;omega)) ?_;rintro next ⟨i,d,l⟩ ⟨i1,i2,F,V,l2,Q⟩ ak
  dsimp only at i1 i2 F V l2 Q⊢;refine .ite (λhc=>.bind (AH F (by omega)) ?_) λ_=>P _ ⟨F,V,by dsimp only;omega,Q⟩;rintro⟨c,d⟩ ⟨c1,c2,F⟩;simp only[Wd] at hc;dsimp only at c1 c2 F⊢;refine .bind (.mu (by simp;omega)) λv hv=>.bind (.gN (by decide) (by simp;omega)) λw J=>?_;rw[AG (by omega)];have al:Bv v=true:=by have h1:=hv.1;simp only[Xa3,Xbs,Xel] at h1;exact dH (by omega)
  exact ak _ ⟨by dsimp only;omega,by dsimp only;omega,F,by rw[J];simp,by rw[J];simp;omega,λy hy=>by
   rw[J] at hy;rcases X23.1 hy with h|h
   ·exact Q y h
   rw[X14.1 h];exact al⟩ (by dsimp only;omega)
 rintro⟨d,l⟩ ⟨F,V,l2,Q⟩;dsimp only at F V l2 Q⊢;have M:PL l:=⟨V,by omega,Q⟩;refine .bind (aM hn b) λU K=>.bind (AH F (by omega)) ?_;rintro⟨c,d⟩ ⟨_,_,F⟩;dsimp only at F⊢;refine .join (λx:r9×Int=>Dk x.1/\-1<=x.2/\x.2<=3) (λk P=>.ite (λ_=>.bind (AH F (by omega)) λ⟨y,d⟩ ⟨y1,y2,F⟩=>P _ ⟨F,by dsimp only at y1⊢;omega,by dsimp only at y2⊢;omega⟩) λ_=>P _ ⟨F,by dsimp only;omega,by dsimp only;omega⟩) ?_;rintro⟨d,ay⟩ ⟨F,an,ao⟩;dsimp only at F an ao⊢;refine .bind (AH F (by omega)) ?_;rintro⟨c,d⟩ ⟨_,_,F⟩;dsimp only at F⊢;refine .join (λx:r9×Int=>Dk x.1/\-1<=x.2/\x.2<=300) (λk P=>.ite (λ_=>.bind (AH F (by omega)) λ⟨y,d⟩ ⟨y1,y2,F⟩=>P _ ⟨F,by dsimp only at y1⊢;omega,by dsimp only at y2⊢;omega⟩) λ_=>P _ ⟨F,by dsimp only;omega,by dsimp only;omega⟩) ?_;rintro⟨d,au⟩ ⟨F,ap,aq⟩;dsimp only at F ap aq⊢;refine .bind (iZ F) ?_;rintro⟨co,d⟩ ⟨Y,Z,F⟩;dsimp only at Y Z F⊢;refine .bind (hZ F) ?_;rintro⟨la,d⟩ ⟨a1,a6,F⟩;dsimp only at a1 a6 F⊢;refine .bind (AH F (by omega)) ?_;rintro⟨q,d⟩ ⟨_,_,F⟩;dsimp only at F⊢;have g0:GA b [⟨false,l⟩] U.V6 U.Hi U.Lo []:=⟨LR M,K,di⟩;refine .join (λx:r9×I oF×C×j×j×Int×I gH=>Dk x.1/\GA b x.2.1 x.2.2.1 x.2.2.2.1 x.2.2.2.2.1 x.2.2.2.2.2.2/\(x.2.2.2.2.2.1=-1\/Bv x.2.2.2.2.2.1=true)) (λk P=>?_) ?_
 ·refine .ite (λ_=>.bind (AH F (by omega)) λ⟨y,d⟩ ⟨y1,y2,F⟩=>P _ ⟨F,g0,.inr (by dsimp only at y1 y2⊢;rw[AG (by omega)];exact dH (by omega))⟩) λ_=>?_;refine .join (λx:r9×I oF×C×j×j×I gH=>Dk x.1/\GA b x.2.1 x.2.2.1 x.2.2.2.1 x.2.2.2.2.1 x.2.2.2.2.2) (λk2 a7=>?_) λx H=>P _ ⟨H.1,H.2,.inl rfl⟩;have ax:0<l.length:=Xch.2 V;refine .ite (λ_=>.bind (.mu (by omega)) λ_ _=>.bind (.wj (by omega)) λw J=>a7 _ ⟨F,⟨LR ⟨?_,?_,?_⟩,K,di⟩⟩) λ_=>?_
  ·intro e;have:=J.2;rw[e] at this;simp at this;omega
  ·have:=J.2;omega
  ·intro x H;rw[J.1] at H;rcases List.mem_or_eq_of_mem_set H with h|h
   ·exact Q x h
   rw[h];decide
  refine .join (λx:r9×I oF×C×j×j×I gH=>Dk x.1/\GA b x.2.1 x.2.2.1 x.2.2.2.1 x.2.2.2.2.1 x.2.2.2.2.2) (λk3 a8=>?_) λx H=>a7 _ H;refine .ite (λ_=>a8 _ ⟨F,⟨⟨M.v2,by simp,λs hs=>?_⟩,K,di⟩⟩) λ_=>?_
  ·simp only[Xa3,Xbs,Xel] at hs;rcases hs with rfl|rfl
   ·exact M.len
   decide
  refine .join (λx:r9×I oF×C×j×j×I gH=>Dk x.1/\GA b x.2.1 x.2.2.1 x.2.2.2.1 x.2.2.2.2.1 x.2.2.2.2.2) (λk4 aa=>?_) λx H=>a8 _ H;refine .ite (λ_=>.bind (.gN (by decide) (by simp;omega)) λw J=>aa _ ⟨F,⟨LR ⟨by rw[J];simp,by rw[J];simp;omega,λx H=>?_⟩,K,di⟩⟩) λ_=>?_
  ·rw[J] at H;rcases X23.1 H with h|h
   ·exact Q x h
   rw[X14.1 h];decide
  refine .join (λx:r9×I oF×C×j×j×I gH=>Dk x.1/\GA b x.2.1 x.2.2.1 x.2.2.2.1 x.2.2.2.2.1 x.2.2.2.2.2) (λk5 ab=>?_) λx H=>aa _ H;refine .ite (λ_=>.bind (aM (by omega) b) λp2 ar=>ab _ ⟨F,⟨LR M,ar,di⟩⟩) λ_=>?_;refine .join (λx:r9×I oF×I gH=>Dk x.1/\GA b x.2.1 U.V6 U.Hi U.Lo x.2.2) (λk6 ae=>?_) λx H=>ab _ H;refine .ite (λ_=>.bind (.gN (by decide) (by simp;omega)) λw J=>ae _ ⟨F,⟨LR ⟨by rw[J];simp,by rw[J];simp;omega,λx H=>?_⟩,K,di⟩⟩) λ_=>?_
  ·rw[J] at H;rcases X23.1 H with h|h
   ·exact Q x h
   simp only[Xa3,Xbs,Xel] at h;rcases h with rfl|rfl<;>decide
  refine .join (λx:r9×I oF×I gH=>Dk x.1/\GA b x.2.1 U.V6 U.Hi U.Lo x.2.2) (λk7 af=>?_) λx H=>ae _ H;refine .ite (λ_=>af _ ⟨F,⟨⟨by show Dc []=true;decide,by simp,by simp⟩,K,di⟩⟩) λ_=>?_;refine .join (λx:r9×I gH=>Dk x.1/\ET x.2=true/\x.2.length<=1/\∀u∈x.2,u.Data.length<=2) (λk8 ag=>?_) λx H=>af _ ⟨H.1,⟨LR M,K,H.2⟩⟩;refine .ite (λ_=>.bind (AH F (by omega)) λ⟨y,d⟩ ⟨y1,y2,F⟩=>ag _ ⟨F,?_,by simp,by simp⟩) λ_=>ag _ ⟨F,di⟩;rfl
 rintro⟨d,p,v6,hi,lo,ot,o⟩ ⟨F,g,ah⟩;dsimp only at F g ah⊢;refine .ret ⟨⟨?_,by show og≠-1;omega,g,Z,a6⟩,F⟩;unfold EY;dsimp only;rw[g.zn.1,g.path.1,g.next.1,Y,a1,Wz (by omega),Wz (by omega),Wz (by omega),Wz (p:=o.length<=8) (by have:=g.zn.2.1;omega)];rcases ah with e|e
 ·rw[e];rfl
 rw[e];cases decide (ot=-1)<;>rfl
structure SV (b:Bool)(a:gE):Prop where
 v:EY a=true
 o:a.gO≠-1
 n:a.Next.V6=b/\Addr.wa a.Next zI=false
 p:a.Path.length<=2/\∀s∈a.Path,s.o3.length<=10
 c:a.cW.length<=8
 l:a.oB.length<=7
 u :∀x∈a.iX,x.Data.length<=2
def pq {d:r9}{n:Int}(F:Dk d)(J:101<=n/\n<=105):Ok (DL d n) λr=>(B5 r.1.fI/\SV r.1.fI.Addr.V6 r.1.gE)/\Dk r.2:=by unfold DL;refine .bind (C0 F) ?_;rintro⟨p,d⟩ ⟨hp,F⟩;dsimp only at hp F⊢;refine .bind (aB F J) ?_;rintro⟨a,d⟩ ⟨⟨K,M,H,P,Q⟩,F⟩;exact .ret ⟨⟨hp,K,M,⟨H.next.2.1,H.next.2.2⟩,H.path.2,P,Q,H.zn.2.2⟩,F⟩
def oR {p:I oF}{n:Nat}(h :∀s∈p,s.o3.length<=n):xm p<=n*p.length:=by
 induction p with
 | nil=>exact Xd7 _
 | cons s t F=>have J:=F λx H=>h x (X19 _ H);have K:=h s (by simp);rw[Fe,X12,Nat.mul_add];omega
def pM {b:C}{a:gE}(s:SV b a){k:Int}{d:I S}(h:G a k=some d):d.length<=100:=by
 have F:=s.p.1;have H:=oR s.p.2;have J:=s.c;have K:=s.l;unfold G at h;split at h
 ·split at h
  ·obtain rfl:=X25 h;simp
  cases h
 split at h
 ·split at h
  ·obtain rfl:=X25 h;rw[OS];omega
  cases h
 split at h
 ·split at h
  ·obtain rfl:=X25 h;simp[b4]
  cases h
 split at h
 ·split at h
  ·obtain rfl:=X25 h;rw[PO];omega
  cases h
 split at h
 ·split at h
  ·obtain rfl:=X25 h;rw[PO];omega
  cases h
 split at h
 ·split at h
  ·obtain rfl:=X25 h;rw[Ob];omega
  cases h
 split at h
 ·split at h
  ·obtain rfl:=X25 h;rw[OQ];omega
  cases h
 split at h
 ·split at h
  ·obtain rfl:=X25 h;rw[PO];omega
  cases h
 cases h
def Yi {x:gH}(h:(0<=x.Flags/\x.Flags<=255)/\0<=x.iB/\x.iB<=255)(F:x.Data.length<=200):z8 x=true:=by unfold z8;rw[Wz h.1.1,Wz h.1.2,Wz h.2.1,Wz h.2.2,Wz (by omega)];rfl
def j7 {b:C}{a:gE}(s:SV b a){x:gH}(h:x∈yz a):z8 x=true/\x.Data.length<=100:=by
 have v:=Ns.1 s.v;rcases (X3 v.O).1 h with ⟨k,q⟩|q
 ·have H:=XZ q;obtain⟨d,J,rfl⟩:=Ko.1 q;have F:=pM s J;have key :∀k∈PE,(0<=fl k/\fl k<=255)/\0<=k/\k<=255:=by decide
  exact⟨Yi (key k H) (by dsimp only;omega),F⟩
 have F:=s.u x q;obtain⟨_,K,M,P,_⟩:=Ig v.O q;exact⟨Yi ⟨by omega,by omega,by omega⟩ (by omega),by omega⟩
def sL {u:tT}{b:C}(s:SV b u.gE)(gw :∀p∈u.gS,B5 p)(ga :∀p∈u.fT,B5 p)(w:u.gS.length<=3)(n:u.fT.length<=4):YX u=true:=by
 have v:=Ns.1 s.v;have P:=Bo (six:=true) gw;have Q:=Bo (six:=false) gw;have U:=Bo (six:=true) ga;have V:=Bo (six:=false) ga;have hL:(yx u.gE.Next).length<=16:=by have:=(MI v.n).2;have:=(DA u.gE.Next).2;omega
 have K:(w9 u).length<=16/\∀x∈w9 u,z8 x=true/\x.Data.length<=100:=by
  unfold w9;split
  ·exact⟨Ur v,λx F=>j7 s F⟩
  simp
 have M:(Kx u).length<=17/\∀x∈Kx u,z8 x=true/\x.Data.length<=100:=by
  unfold Kx;split
  ·refine⟨by rw[Hw];omega,λx F=>?_⟩;rcases Fq.1 F with F|rfl
   ·exact K.2 x F
   have H:([0,2,1,16]++yx u.gE.Next++[0]++BB true u.fT:I S).length<=100:=by simp only[X11,X12,X13];omega
   exact⟨Yi (by dsimp only;omega) (by dsimp only;omega),H⟩
  exact⟨by omega,K.2⟩
 have J:(Eb u).length<=18/\∀x∈Eb u,z8 x=true/\x.Data.length<=100:=by
  unfold Eb;split
  ·refine⟨by rw[Hw];omega,λx F=>?_⟩;rcases Fq.1 F with F|rfl
   ·exact M.2 x F
   have H:([0,2,1]++BB true u.gS:I S).length<=100:=by simp only[X11,X12,X13];omega
   exact⟨Yi (by dsimp only;omega) (by dsimp only;omega),H⟩
  exact⟨by omega,M.2⟩
 have hj:=Rt (N:=100) λx F=>(J.2 x F).2;have Y:(Eb u).length*(100+4)<=18*104:=X31 _ J.1;have e:Dx (Eb u)=(Gh (Eb u),0):=by unfold Dx;rw[Wr (Xa0.2 λx F=>(J.2 x F).1),Wm (by omega)]
 unfold YX E5;rw[e,Wm (by simp)];have t :∀n,(two n).length=2:=λn=>rfl;have Z:(M9 u (Gh (Eb u))).length<=4077:=by unfold M9;simp only[X11,t];omega
 rw[Wz Z];rfl
def UV (a:gE)(l:I fI):Prop:=(l=[]/\a=eA)\/(l≠[]/\l.length<=4/\∃b,SV b a/\∀p∈l,B5 p/\p.Addr.V6=b)
def SV.fit {b:C}{a:gE}(s:SV b a){p:fI}(h:p.Addr.V6=b):QI a p=true:=by
 unfold QI;rw[s.n.2,s.v,h,s.n.1];have:(a.gO !=-1)=true:=by simpa using s.o
 rw[this];cases b<;>rfl
def UV.valid {u:tT}(h:UV u.gE u.fT)(gw :∀p∈u.gS,B5 p)(w:u.gS.length<=3):yU u/\Em u=true:=by
 obtain⟨W,a,l⟩:=u;dsimp only at h gw w;rcases h with ⟨rfl,rfl⟩|⟨K,M,b,s,J⟩
 ·exact⟨⟨⟨by simp[eA],by simp[eA,xm],by simp[eA],by simp[eA],by simp[eA],by simp[eA]⟩,by dsimp only;omega,by simp⟩,qj gw (by omega)⟩
 have F:YX ⟨W,a,l⟩=true:=sL (u:=⟨W,a,l⟩) s gw (λp hp=>(J p hp).1) w M;have H:l.all (QI a)=true:=Xa0.2 λp hp=>s.fit (J p hp).2
 have hg:(W++l).all IF=true:=Xa0.2 λp hp=>(Lx p).2.2 (by
  rcases X23.1 hp with q|q
  ·exact gw p q
  exact (J p q).1)
 refine⟨⟨(Ns.1 s.v).sm,by dsimp only;omega,by dsimp only;omega⟩,?_⟩;unfold Em;dsimp only;rw[F,H,hg,Wz (p:=W.length<=256) (by omega),Wz (p:=l.length<=256) (by omega),Xa5 K];rfl
def Zo {d:r9}{n:Int}(F:Dk d)(hn:101<=n/\n<=105):Ok (Bf d n) λr=>(yU r.1/\Em r.1=true/\UV r.1.gE r.1.fT)/\Dk r.2:=by
 unfold Bf;rw[Qq,AA];refine .bind (AH F (by omega)) ?_;rintro⟨a,d⟩ ⟨a1,a2,F⟩;dsimp only at a1 a2 F⊢;refine .join (λq:r9×I fI=>Dk q.1/\q.2.length<=3/\∀p∈q.2,B5 p) (λk Z=>?_) ?_
 ·refine .wA (λq:Int×r9×I fI=>0<=q.1/\q.1+q.2.2.length<=3/\Dk q.2.1/\∀p∈q.2.2,B5 p) (λq=>q.1.toNat) ⟨a1,by dsimp only[X13];omega,F,by simp⟩ (BW (by dsimp only;omega)) ?_;rintro next ⟨i,d,l⟩ ⟨i1,i2,F,J⟩ P
  dsimp only at i1 i2 F J P⊢;refine .join (λq:C×r9=>(q.1=true->0<i)/\Dk q.2) (λk2 H=>.ite (λh=>?_) λh=>H _ ⟨λe=>(by cases e),F⟩) ?_
  ·refine .bind (AH F (by omega)) ?_;rintro⟨b,d⟩ ⟨b1,b2,F⟩;exact H _ ⟨λ_=>by simpa using h,F⟩
  rintro⟨b,d⟩ ⟨hb,F⟩;dsimp only at hb F⊢;refine .ite (λh=>?_) λh=>Z _ ⟨F,by dsimp only;omega,J⟩;have hi:=hb h;refine .bind (C0 F) ?_;rintro⟨p,d⟩ ⟨hp,F⟩;dsimp only at hp F⊢;refine .bind (.gN (by decide) (by simp;omega)) λw M=>P _ ⟨?_,?_,F,?_⟩ ?_
  ·dsimp only;rw[AG (by omega)];omega
  ·dsimp only;rw[AG (by omega),M];simp;omega
  ·intro q Q;rw[M] at Q;rcases X23.1 Q with h|h
   ·exact J q h
   rw[X14.1 h];exact hp
  dsimp only;rw[AG (by omega)];omega
 rintro⟨d,wd⟩ ⟨F,w1,w2⟩;dsimp only at F w1 w2⊢;refine .bind (AH F (by omega)) ?_;rintro⟨b,d⟩ ⟨b1,b2,F⟩;dsimp only at F⊢;refine .join (λq:r9×Int×(I oF)×C×j×j×Int×Int×Int×(I qv)×(I oB)×(I gH)×(I fI)=>Dk q.1/\UV ⟨q.2.1,q.2.2.1,⟨q.2.2.2.1,q.2.2.2.2.1,q.2.2.2.2.2.1⟩,q.2.2.2.2.2.2.1,q.2.2.2.2.2.2.2.1,q.2.2.2.2.2.2.2.2.1,q.2.2.2.2.2.2.2.2.2.1,q.2.2.2.2.2.2.2.2.2.2.1,q.2.2.2.2.2.2.2.2.2.2.2.1⟩ q.2.2.2.2.2.2.2.2.2.2.2.2) (λk Z=>?_) ?_
 ·refine .ite (λh=>?_) λh=>Z _ ⟨F,.inl ⟨rfl,rfl⟩⟩;refine .bind (pq F hn) ?_;rintro⟨r,d⟩ ⟨⟨U,V⟩,F⟩;dsimp only at U V F⊢;refine .bind (AH F (by omega)) ?_;rintro⟨c,d⟩ ⟨c1,c2,F⟩;dsimp only at c1 c2 F⊢;refine .join (λq:r9×I fI=>Dk q.1/\q.2≠[]/\q.2.length<=4/\∀p∈q.2,B5 p/\p.Addr.V6=r.fI.Addr.V6) (λk2 H=>?_) ?_
  ·refine .wA (λq:Int×r9×I fI=>0<=q.1/\q.1+q.2.2.length<=4/\q.2.2≠[]/\Dk q.2.1/\∀p∈q.2.2,B5 p/\p.Addr.V6=r.fI.Addr.V6) (λq=>q.1.toNat) ⟨c1,by simp;omega,by simp,F,by simpa using U⟩ (BW (by dsimp only;omega)) ?_;rintro next ⟨i,d,l⟩ ⟨i1,i2,i3,F,J⟩ P
   dsimp only at i1 i2 i3 F J P⊢;refine .ite (λh=>?_) λh=>H _ ⟨F,i3,by dsimp only;omega,J⟩;have hi:0<i:=by simpa using h
   refine .bind (C0 F) ?_;rintro⟨p,d⟩ ⟨hp,F⟩;dsimp only at hp F⊢;refine .join (λl':I fI=>l'.length<=l.length+1/\l'≠[]/\∀p∈l',B5 p/\p.Addr.V6=r.fI.Addr.V6) (λk3 Y=>.ite (λh=>?_) λh=>Y _ ⟨by omega,i3,J⟩) λl' K=>P _ ⟨?_,?_,K.2.1,F,K.2.2⟩ ?_
   ·refine .bind (.gN (by decide) (by simp;omega)) λw M=>Y _ ⟨by rw[M];simp,by rw[M];simp,λq Q=>?_⟩;rw[M] at Q;rcases X23.1 Q with h'|h'
    ·exact J q h'
    rw[X14.1 h'];exact⟨hp,by simpa using h⟩
   ·dsimp only;rw[AG (by omega)];omega
   ·dsimp only;rw[AG (by omega)];have:=K.1;omega
   dsimp only;rw[AG (by omega)];omega
  rintro⟨d,an⟩ ⟨F,n1,n2,n3⟩;exact Z _ ⟨F,.inr ⟨n1,n2,_,V,n3⟩⟩
 rintro⟨d,o,pa,nv,nh,nl,me,pr,ot,co,la,un,an⟩ ⟨F,hu⟩;obtain⟨g1,g2⟩:=UV.valid (u:=⟨wd,⟨o,pa,⟨nv,nh,nl⟩,me,pr,ot,co,la,un⟩,an⟩) hu w2 w1;exact .ret ⟨⟨g1,g2,hu⟩,F⟩
def LQ {l:I gD}{h x:gD}:x∈ID l h↔x=h\/(x∈l/\kH x≠kH h):=by
 unfold ID;simp only[X23,Xbl,Xa3,Wd];constructor
 ·rintro (⟨F,H⟩|F|⟨F,H⟩)
  ·exact .inr ⟨F,BQ.ne H⟩
  ·exact .inl F
  exact .inr ⟨F,BQ.ne' H⟩
 rintro (F|⟨F,H⟩)
 ·exact .inr (.inl F)
 have K:BU (kH x) (kH h)≠0:=λe=>H (BQ.eq.1 e);by_cases J:BU (kH x) (kH h)<0
 ·exact .inl ⟨F,J⟩
 exact .inr (.inr ⟨F,by omega⟩)
def ZX {g:fI->gD}(hg :∀p,kH (g p)=p){x:gD} :∀(t:I fI) (l:I gD),x∈t.foldl (λl p=>ID l (g p)) l↔(∃p∈t,x=g p)\/(x∈l/\kH x∉t)
 | [],l=>by simp
 | p::t,l=>by
  rw[Xbh,ZX hg t,LQ,hg];constructor
  ·rintro (⟨q,H,e⟩|⟨e|⟨K,J⟩,M⟩)
   ·exact .inl ⟨q,X19 _ H,e⟩
   ·exact .inl ⟨p,by simp,e⟩
   exact .inr ⟨K,λF=>(Xa3.1 F).elim J M⟩
  rintro (⟨q,H,e⟩|⟨K,J⟩)
  ·by_cases F:kH x∈t
   ·exact .inl ⟨kH x,F,by rw[e,hg]⟩
   refine .inr ⟨.inl ?_,F⟩;rcases Xa3.1 H with rfl|H
   ·exact e
   exact absurd (by rw[e,hg];exact H) F
  exact .inr ⟨.inr ⟨K,λe=>J (by rw[e];simp)⟩,λF=>J (X19 _ F)⟩
def dj {x:gD} :∀(t:I fI) (l:I gD),x∈t.foldl Ht l↔x∈l/\kH x∉t
 | [],l=>by simp
 | p::t,l=>by rw[Xbh,dj t];unfold Ht;rw[Xbl,lr,Xa3,not_or,Xes]
def LF {f:vV}{b:ls}{u:tT}{x:gD}:x∈EZ f b u↔(∃p∈u.fT,x=xY f b u p)\/(x∈b.gD/\kH x∉u.gS/\kH x∉u.fT):=by unfold EZ Cz;rw[ZX (g:=xY f b u) (λ_=>rfl),dj,Xes]
def OD {f:vV}{b:ls}{u:tT}(h:wI kH BU b.gD):wI kH BU (EZ f b u):=(QC (xY f b u) (Qf h).1 u.fT).1
def bN {f:vV}{b c:ls}{u:tT}(h:wI kH BU b.gD)(hp:c.lf=b.lf)(H:c.gD=EZ f b u):EZ f c u=EZ f b u:=by
 refine oM BQ (OD (by rw[H];exact OD h)) (OD h) λx=>?_;have e :∀p,xY f c u p=xY f b u p:=λp=>by unfold xY;rw[hp]
 rw[LF,H,LF];simp only[e];constructor
 ·rintro (F|⟨F|⟨F,_⟩,J⟩)
  ·exact .inl F
  ·exact .inl F
  exact .inr ⟨F,J⟩
 rintro (F|F)
 ·exact .inl F
 exact .inr ⟨.inr F,F.2⟩
def gu (b:ls):F5 (F5 b)=F5 b:=by unfold F5;cases xT b.gD<;>rfl
def NV {l:I gD}(K:wI kH BU l){x:gD}(H:x∈l):IS l (kH x)=(x,true):=by
 rcases split BQ K (kH x) with ⟨M,y,P,J,e,F⟩|⟨M,P,J,F⟩
 ·rw[J] at H⊢;rcases X23.1 H with h|h
  ·exact absurd rfl (BQ.ne (F.1 x h))
  rcases Xa3.1 h with rfl|h
  ·exact XU F e
  exact absurd rfl (BQ.ne' (F.2 x h))
 rw[J] at H;rcases X23.1 H with h|h
 ·exact absurd rfl (BQ.ne (F.1 x h))
 exact absurd rfl (BQ.ne' (F.2 x h))
def ic {l m:I gD}(K:wI kH BU l)(M:wI kH BU m){p:fI}(h :∀x,kH x=p->(x∈l↔x∈m)):IS l p=IS m p:=by
 by_cases F :∃x∈l,kH x=p
 ·obtain⟨x,J,rfl⟩:=F;rw[NV K J,NV M ((h x rfl).1 J)]
 rw[K2 λy H e=>F ⟨y,H,e⟩,K2 λy H e=>F ⟨y,(h y e).2 H,e⟩]
structure Lk (f:vV)(b:ls)(u:tT)(c:ls):Prop where
 peer:c.lf=b.lf
 held:c.gD=EZ f b u
 v:WR c
 again:D3 f c u=(c,0)
def Zg {f:vV}{b:ls}{u:tT}(K:Rf f=true)(J:WR b)(M:Em u=true) : ((D3 f b u).2=31/\b.Up=false)\/(D3 f b u).2=34\/((D3 f b u).2=0/\b.Up=true/\Lk f b u (D3 f b u).1):=by
 have F:=J.apply (f:=f) (u:=u);unfold D3 at F⊢;rw[K,J.v.to,M,Wr (by rfl)] at F⊢;cases H:b.Up
 ·exact .inl ⟨by rw[Wm (by simp)],rfl⟩
 rw[H,Wr rfl] at F;rw[Wr rfl];cases P:(Pj (CY f b u)&&(PT (CY f b u)&&decide (((CY f b u).gD.length:Int)<=256)))
 ·exact .inr (.inl (by rw[Wm (by simp)]))
 rw[P,Wr rfl] at F;rw[Wr rfl];have w:=F rfl;refine .inr (.inr ⟨rfl,rfl,rfl,rfl,w,?_⟩);dsimp only at w⊢;have Q:EZ f (F5 (CY f b u)) u=EZ f b u:=bN J.v.wI rfl rfl;have U:CY f (F5 (CY f b u)) u=F5 (CY f b u):=by show ({ F5 (CY f b u) with gD:=EZ f (F5 (CY f b u)) u }:ls)=_;rw[Q];rfl
 unfold D3;rw[K,w.v.to,M,Wr (by rfl),Wr (show (F5 (CY f b u)).Up=true from H),U];rw[Wr (show (Pj (F5 (CY f b u))&&(PT (F5 (CY f b u))&&decide (((F5 (CY f b u)).gD.length:Int)<=256)))=true from P),gu]
structure WV (f:vV)(b:ls):Prop where
 w:WR b
 h :∀x∈b.gD,x.vj=zu f b.lf x.oA/\UV x.oA.gE [x.oA.fI]
def WV.of {f:vV}{b c:ls}(h:WV f b)(w:WR c)(hp:c.lf=b.lf)(F :∀x∈c.gD,∃y∈b.gD,x.vj=y.vj/\x.oA=y.oA):WV f c:=
 ⟨w,λx q=>by
  obtain⟨y,H,J,K⟩:=F x q;rw[J,K,hp]
  exact h.h y H⟩
def jH {b:ls}(F:(H3 b).2=0):(H3 b).1={ b with Up:=true }:=by
 unfold H3 at F⊢;split at F
 ·rename_i h1;rw[Wr h1];split at F
  ·exact absurd F (by decide)
  rename_i H;rw[Wm H]
 exact absurd F (by decide)
def my {b:ls}{now grace:Int}(F:(KJ b now grace).2=0):(KJ b now grace).1=F5 ⟨b.lf,false,(cond (grace==0) [] b.gD).map yc,now+grace⟩:=by
 unfold KJ at F⊢;split at F
 ·rename_i h1;rw[Wr h1];split at F
  ·rename_i H;rw[Wr H]
  exact absurd F (by decide)
 exact absurd F (by decide)
def jL {f:vV}{b:ls}{u:tT}(F:(D3 f b u).2=0):(D3 f b u).1=F5 (CY f b u):=by
 unfold D3 at F⊢;split at F
 ·rename_i h1;rw[Wr h1];split at F
  ·rename_i H;rw[Wr H];split at F
   ·rename_i J;rw[Wr J]
   exact absurd F (by decide)
  exact absurd F (by decide)
 exact absurd F (by decide)
def WV.raise {f:vV}{b:ls}(h:WV f b)(F:(H3 b).2=0):WV f (H3 b).1:=by have w:=h.w.raise F;rw[jH F] at w⊢;exact h.of w rfl λx H=>⟨x,H,rfl,rfl⟩
def WV.down {f:vV}{b:ls}(h:WV f b){now grace:Int}(H:(KJ b now grace).2=0):WV f (KJ b now grace).1:=by
 have w:=h.w.down H;rw[my H] at w⊢;refine h.of w rfl λx J=>?_;obtain⟨y,F,rfl⟩:=Xaf.1 (show x∈(cond (grace==0) [] b.gD).map yc from J);refine⟨y,?_,rfl,rfl⟩;cases hg:grace==0
 ·rw[hg] at F;exact F
 rw[hg] at F;exact absurd F (by simp)
def WV.yE {f:vV}{b:ls}(h:WV f b)(w:Int):WV f (KB b w):=h.of (h.w.yE w) rfl λx F=>⟨x,(Xbl.1 (show x∈b.gD.filter (JR w) from F)).1,rfl,rfl⟩
def UV.one {a:gE}{l:I fI}(h:UV a l){p:fI}(hp:p∈l):UV a [p]:=by
 rcases h with ⟨rfl,_⟩|⟨_,_,b,s,h⟩
 ·exact absurd hp (by simp)
 exact .inr ⟨by simp,by simp,b,s,by simpa using h p hp⟩
def WV.apply {f:vV}{b:ls}{u:tT}(h:WV f b)(H:UV u.gE u.fT)(F:(D3 f b u).2=0):WV f (D3 f b u).1:=by
 have w:=h.w.apply F;rw[jL F] at w⊢;refine⟨w,λx J=>?_⟩;show x.vj=zu f b.lf x.oA/\_;rcases LF.1 (show x∈EZ f b u from J) with ⟨p,hp,rfl⟩|⟨K,_⟩
 ·exact⟨rfl,H.one hp⟩
 exact h.h x K
def aJ {d:r9}(F:Dk d):Ok (Cj d) λr=>MF r.1/\WV r.1 r.2.1/\Dk r.2.2:=by
 unfold Cj;refine .bind (N9 F) ?_;rintro⟨f,d⟩ ⟨hf,F⟩;dsimp only at hf F⊢;refine .bind (AH F (by omega)) ?_;rintro⟨a,d⟩ ⟨a1,a2,F⟩;dsimp only at a1 a2 F⊢;rw[AG (by omega)];refine .bind (Va F (by omega)) ?_;rintro⟨p,d⟩ ⟨⟨p1,p2,Z⟩,F⟩;dsimp only at p1 p2 Z F⊢;have a8:p.oT.length<=8:=by have:=Z;rw[Lh] at this;simp only[X27,Wd] at this;omega
 have hm:=UQ Z;have P:FV p=some ⟨p,false,[],0⟩:=by unfold FV;rw[AD (by decide) (by simp;omega),AA]
 rw[P,AA];refine .bind (AH F (by omega)) ?_;rintro⟨k,d⟩ ⟨k1,k2,F⟩;dsimp only at k1 k2 F⊢;refine .join (λq:r9×ls=>Dk q.1/\WV f q.2) (λkk a6=>?_) λq M=>.ret ⟨hf,M.2,M.1⟩;refine .wA (λq:Int×r9×ls=>-1<=q.1/\q.1<=8/\Dk q.2.1/\WV f q.2.2) (λq=>(q.1+1).toNat) ⟨by dsimp only;omega,by dsimp only;omega,F,?_⟩ (BW (by dsimp only;omega)) ?_
 ·refine⟨⟨⟨Z,by simp,Int.le_refl _,by show (0:Int)<=1073745919;decide,rfl,List.Pairwise.nil,by simp,Wz hm.1,Wz hm.2⟩,by dsimp only;omega,p2⟩,by simp⟩
 rintro next ⟨i,d,b⟩ ⟨i1,i2,F,K⟩ ih
 dsimp only at i1 i2 F K ih⊢;refine .ite (λh=>?_) λh=>a6 _ ⟨F,K⟩;have hi:0<=i:=by simpa using h
 have hr:=K.w.v.zA;refine .bind (AH F (by omega)) ?_;rintro⟨c,d⟩ ⟨c1,c2,F⟩;dsimp only at c1 c2 F⊢;refine .join (λq:Int×r9×ls=>Dk q.2.1/\(q.1=0->WV f q.2.2)) (λk2 H=>?_) ?_
 ·refine .ite (λh=>?_) λh=>?_
  ·refine .bind (AH F (by omega)) ?_;rintro⟨x,d⟩ ⟨x1,x2,F⟩;dsimp only at x1 x2 F⊢;refine .bind (AH F (by omega)) ?_;rintro⟨y,d⟩ ⟨y1,y2,F⟩;dsimp only at y1 y2 F⊢;refine .bind (.mu (by simp;omega)) λg hg=>?_;rw[VK hr,AA];exact H _ ⟨F,λe=>K.down e⟩
  refine .join (λq:Int×r9×ls=>Dk q.2.1/\(q.1=0->WV f q.2.2)) (λk3 Q=>?_) λq M=>H _ M;refine .ite (λh=>?_) λh=>?_
  ·refine .bind (AH F (by omega)) ?_;rintro⟨x,d⟩ ⟨x1,x2,F⟩;dsimp only at x1 x2 F⊢;rw[OA hr.zh,AA];exact Q _ ⟨F,λ_=>K.yE x⟩
  refine .join (λ_=>True) (λk4 J=>.ite (λ_=>J _ trivial) λ_=>J _ trivial) λz _=>?_;refine .join (λq:Int×r9×ls=>Dk q.2.1/\(q.1=0->WV f q.2.2)) (λk4 J=>?_) λq M=>Q _ M;refine .ite (λ_=>?_) λ_=>?_
  ·rw[TE hr,AA];exact J _ ⟨F,λe=>K.raise e⟩
  refine .bind (Zo F (by omega)) ?_;rintro⟨u,d⟩ ⟨⟨hu,_,U⟩,F⟩;dsimp only at hu U F⊢;rw[NT hf.CD hr K.w.sz hu,AA];exact J _ ⟨F,λe=>K.apply U e⟩
 rintro⟨e,d',b'⟩ ⟨V,Y⟩;dsimp only at V Y⊢;refine .join (λb2=>WV f b2) (λk2 H=>.ite (λh=>H _ (Y (by simpa using h))) λ_=>H _ K) λb2 a7=>ih _ ⟨?_,?_,V,a7⟩ ?_
 ·dsimp only;rw[AG (by omega)];omega
 ·dsimp only;rw[AG (by omega)];omega
 dsimp only;rw[AG (by omega)];omega
def sY {ρ:Type}{l:I fI}{p:fI}{Q:ρ->Prop}{K:C->O ρ}(M :∀v,(v=true↔p∈l)->Ok (K v) Q) : Ok (AI (σ:=C) (λv=>K v) (λnext x _ v=>AB (τ:=C) (λk=>if v=true then k true else k (cond false true (fI.wa p x))) λw=>next w) l 0 false) Q:=by
 refine .xL (λi v=>v=true↔p∈l.take i) (by simp) (λv F=>M v (by simpa using F)) ?_;intro next x i v H F J
 rw[AC];refine .ite (λh=>J _ ?_) λh=>J _ ?_
 ·rw[JD H];simp[F.1 h]
 have P:p∉l.take i:=λU=>h (F.2 U);rw[JD H,X23,X14,Xcn,fI.vR];simp[P]
def qq {f:vV}{b:ls}{u:tT}{p:fI}(F:wI kH BU b.gD)(h:p∈u.fT):IS (EZ f b u) p=(xY f b u p,true):=
 NV (x:=xY f b u p) (OD F) (LF.2 (.inl ⟨p,h,rfl⟩))
def pT {f:vV}{b:ls}{u:tT}{p:fI}(h:p∉u.fT)(F:p∈u.gS):IS (EZ f b u) p=(zH,false):=
 K2 λy H e=>by
  rcases LF.1 H with ⟨q,J,e2⟩|⟨_,K,_⟩
  ·rw[e2] at e;exact h (e▸J)
  exact K (by rw[e];exact F)
def pD {f:vV}{b:ls}{u:tT}{p:fI}(F:wI kH BU b.gD)(h:p∉u.fT)(H:p∉u.gS):IS (EZ f b u) p=IS b.gD p:=
 ic (OD F) F λx e=>by
  rw[LF];constructor
  ·rintro (⟨q,J,e2⟩|⟨K,_⟩)
   ·rw[e2] at e;exact absurd (e▸J) h
   exact K
  exact λM=>.inr ⟨M,by rw[e];exact H,by rw[e];exact h⟩
def rB (a0:I Int)(h0:a0.length<=Xb3/\a0.length<=1048576/\∀a∈a0,wv a):GU a0=some true:=by
 refine ok_eq ?_;unfold GU Gp;rw[AA];refine .bind (aJ (YL h0.1)) ?_;rintro⟨f,b,d⟩ ⟨Z,⟨P,_⟩,hd⟩;dsimp only at Z P hd⊢;have a1:=P.v.zA;refine .bind (Zo hd P.n) ?_;rintro⟨u,d⟩ ⟨⟨V,hv,_⟩,hd⟩;dsimp only at V hv hd⊢;rw[Qp Z.CD a1 P.sz V,AA];have hA:=Zg Z.Mt P hv;generalize D3 f b u=r at hA⊢;obtain⟨c,e⟩:=r;dsimp only at hA⊢;rcases hA with ⟨rfl,h2⟩|rfl|⟨rfl,ab,Y⟩
 ·rw[Wr (by decide),AC,Wr (by decide),h2,Wr (by rfl),G1,AA];exact .ret rfl
 ·rw[Wr (by decide),AC,Wm (by decide),Wr (by decide),G1,AA];exact .ret rfl
 have M:=Y.v.v.zA;rw[Wm (by decide),Qp Z.CD M Y.v.sz V,Y.again,AA];dsimp only;refine .join (λv=>v=false) (λk F=>?_) ?_
 ·rw[Wm (by decide),PH,AA,Wm (by decide),Jz M,AA,Y.v.v.to,Wm (by decide),S7 V.a V.w V.n Ur,AA,hv];exact F _ rfl
 rintro v rfl;rw[Wm (by decide)];refine .bind (Zx P.v.keys Y.v.v.keys a1.h M.h) λps _=>?_;refine .join (λ_=>True) (λae a6=>.for_ (λ_=>a6 _ trivial) λnext p i s hi hp hn=>?_) λ_ _=>.ret rfl;refine .join (λ_=>True) (λaf J=>?_) λ_ _=>hn _;rw[Xq M.zh Y.v.v.wI,AA,Rx,AA,Y.held];have ha:=P.v.wI;have Q:=qq (f:=f) (b:=b) (u:=u) (p:=p) ha;have K:=pT (f:=f) (b:=b) (u:=u) (p:=p);have H:=pD (f:=f) (b:=b) (u:=u) (p:=p) ha;generalize IS (EZ f b u) p=g at Q K H⊢;generalize IS b.gD p=g2 at H⊢;obtain⟨x,ok⟩:=g;obtain⟨y,ag⟩:=g2;dsimp only;refine .join (λv=>v=true↔p∈u.fT) (λk F=>sY F) λaa a7=>?_;refine .join (λv=>v=true↔p∈u.gS) (λk F=>sY F) λa8 U=>?_;cases aa
 ·have n1:p∉u.fT:=λhm=>Bool.noConfusion (a7.2 hm);refine .join (λv=>v=false) (λk F=>by rw[Wm (by decide)];exact F _ rfl) ?_;rintro v rfl;rw[Wm (by decide)];cases a8
  ·have n2:p∉u.gS:=λhm=>Bool.noConfusion (U.2 hm);cases H n1 n2;refine .join (λv=>v=false) (λk F=>by rw[Wr (by decide),Wm (by decide)];exact F _ rfl) ?_;rintro v rfl;rw[Wm (by decide)];refine .join (λv=>v=false) (λk F=>?_) ?_
   ·rw[Wr (by decide),Wr (by decide),Wm (by simp),Wm (by simp),Ef,AA];exact F _ rfl
   rintro v rfl;rw[Wm (by decide)];exact J _ trivial
  cases K n1 (U.1 rfl);refine .join (λv=>v=false) (λk F=>by rw[Wr (by decide),Wr (by decide)];exact F _ rfl) ?_;rintro v rfl;rw[Wm (by decide)];refine .join (λv=>v=false) (λk F=>by rw[Wr (by decide),Wm (by decide)];exact F _ rfl) ?_;rintro v rfl;rw[Wm (by decide)];exact J _ trivial
 cases Q (a7.1 rfl);refine .join (λv=>v=false) (λk F=>?_) ?_
 ·rw[Wr rfl,Wm (by decide),Wm (by simp[xY]),TM Z.CD P.sz (show xH (xY f b u p).oA.gE from V.a),AA,Wm (by simp[xY])];show Ok (Wb (DN u.gE u.gE) _) _;rw[OF,AA];exact F _ rfl
 rintro v rfl;rw[Wm (by decide)];refine .join (λv=>v=false) (λk F=>by rw[Wm (by decide)];exact F _ rfl) ?_;rintro v rfl;rw[Wm (by decide)];refine .join (λv=>v=false) (λk F=>by rw[Wm (by decide)];exact F _ rfl) ?_;rintro v rfl;rw[Wm (by decide)];exact J _ trivial
def gC (F:Int)(i:Nat):C:=(AO ((Xa2 64 (Xas F (2^(min (Wo ((AT (Xed (i:Int) 60)).toNat:Int)) 64))) &&& Xa2 64 1).toNat:Int))==1
def qF (F:Int)(i:Nat):((AO ((Xa2 64 (Xas F (2^(min (Wo ((AT (Xed (i:Int) 60)).toNat:Int)) 64))) &&& Xa2 64 1).toNat:Int))==1)=gC F i:=rfl
def fh (x:gD):JR 2 x=!x.vq:=by unfold JR;cases x.vq<;>rfl
def tl {l:I gD}(M:wI kH BU l){x y:gD}(J:y∈l)(K:kH y=kH x):n0 (ID l x)=n0 l/\n1 (ID l x)=n1 l/\(ID l x).length=l.length:=by
 rcases split BQ M (kH x) with ⟨P,z,Q,H,e,F⟩|⟨P,Q,H,F⟩
 ·have U:z.oA.fI=x.oA.fI:=e;rw[H,Lj F e];unfold n0 n1;simp only[List.countP_append,List.countP_cons,X11,X12,U,and_self]
 rw[H] at J;rcases X23.1 J with h|h
 ·exact absurd K (BQ.ne (F.1 y h))
 exact absurd K (BQ.ne' (F.2 y h))
def kG {l:I gD}(h:wI kH BU l){i j:Nat}{x y:gD}(J:l[j]?=some y)(K:l[i]?=some x)(e:kH y=kH x):j=i:=by
 obtain⟨F,rfl⟩:=X16.1 J;obtain⟨H,rfl⟩:=X16.1 K;have hp:=Xcy.1 h;rcases Nat.lt_trichotomy j i with q|q|q
 ·exact absurd e (BQ.ne (hp j i F H q))
 ·exact q
 exact absurd e.symm (BQ.ne (hp i j H F q))
def lw {f:vV}{r:ls}{x:gD}(F:x.oA.vY=r.lf.tS)(H:x.vj=zu f r.lf x.oA)(J:x.vq=false):xY f r ⟨[],x.oA.gE,[x.oA.fI]⟩ x.oA.fI=x:=by obtain⟨⟨p,fr,a⟩,K,st⟩:=x;dsimp only at F H J⊢;subst J;unfold xY;dsimp only;rw[<- F,<- H]
def mU {f:vV}{s:ls}{u:tT}(H:Rf f=true)(J:WR s)(K:Em u=true)(F:s.Up=true) (M:Pj (CY f s u)=true) (P:PT (CY f s u)=true) (Q:((CY f s u).gD.length:Int)<=256):D3 f s u=(F5 (CY f s u),0):=by unfold D3;rw[H,J.v.to,K,Wr (by rfl),Wr F,M,P,Wz Q];rfl
structure zK (s:ls)(bit:Nat->Bool)(i:Nat)(r:ls):Prop where
 w:WR r
 up:r.Up=true
 peer:r.lf=s.lf
 a :∀y∈r.gD,y.vq=false->∃j,j<i/\s.gD[j]?=some y/\bit j=true
 b :∀j x,j<i->s.gD[j]?=some x->bit j=true->x∈r.gD
 c :∀x∈s.gD,∃y∈r.gD,kH y=kH x
def zK.skip {s r:ls}{F:Nat->C}{i:Nat}(h:zK s F i r)(M:¬ F i=true):zK s F (i+1) r:=
 ⟨h.w,h.up,h.peer,λy J H=>by
  obtain⟨j,Q,P⟩:=h.a y J H
  exact⟨j,by omega,P⟩,λj x J H K=>h.b j x (by
   have:j≠i:=λe=>M (e▸K)
   omega) H K,h.c⟩
def zK.step {f:vV}{s r:ls}{H:Nat->C}{i:Nat}(hf:Rf f=true)(Y:WV f s)(Z :∀x∈s.gD,x.vq=false)(h:zK s H i r){x:gD}(Q:s.gD[i]?=some x)(hb:H i=true) : yU ⟨[],x.oA.gE,[x.oA.fI]⟩/\∃r',D3 f r ⟨[],x.oA.gE,[x.oA.fI]⟩=(r',0)/\zK s H (i+1) r':=by
 have U:x∈s.gD:=Xcb Q;obtain⟨q1,q2⟩:=Y.h x U;obtain⟨g1,g2⟩:=UV.valid (u:=⟨[],x.oA.gE,[x.oA.fI]⟩) q2 (by simp) (by simp);refine⟨g1,?_⟩;have J:x.oA.vY=s.lf.tS:=by have:=(Y.w.v.ok x U).2;simp only[Cu,X27,Xbj,bne_eq_false_iff_eq] at this;exact this.2.1
 have ho:=lw (f:=f) (r:=r) (x:=x) (by rw[h.peer];exact J) (by rw[h.peer];exact q1) (Z x U);generalize hu:(⟨[],x.oA.gE,[x.oA.fI]⟩:tT)=u at g1 g2 ho⊢;have K:EZ f r u=ID r.gD x:=by subst hu;show ID r.gD (xY f r _ x.oA.fI)=_;rw[ho]
 obtain⟨y,hy,V⟩:=h.c x U;obtain⟨c1,c2,c3⟩:=tl h.w.v.wI hy V;have M:=mU (f:=f) (u:=u) hf h.w g2 h.up
  (by show decide ((n0 (EZ f r u):Int)<=r.lf.tb)=true;rw[K,c1];exact h.w.v.f4)
  (by show decide ((n1 (EZ f r u):Int)<=r.lf.tv)=true;rw[K,c2];exact h.w.v.f6)
  (by show ((EZ f r u).length:Int)<=256;rw[K,c3];have:=h.w.v.len;omega)
 have hw:=h.w.apply (f:=f) (u:=u) (by rw[M]);rw[M] at hw;refine⟨_,M,hw,h.up,h.peer,?_,?_,?_⟩
 ·intro z F a1;have P:z∈EZ f r u:=F;rw[K] at P;rcases LQ.1 P with rfl|⟨h1,_⟩
  ·exact⟨i,Nat.lt_succ_self i,Q,hb⟩
  obtain⟨j,j1,j2⟩:=h.a z h1 a1;exact⟨j,by omega,j2⟩
 ·intro j z hj F a6;show z∈EZ f r u;rw[K];by_cases e:j=i
  ·subst e;rw[Q] at F;cases F;exact LQ.2 (.inl rfl)
  exact LQ.2 (.inr ⟨h.b j z (by omega) F a6,λek=>e (kG Y.w.v.wI F Q ek)⟩)
 intro z F;by_cases e:kH z=kH x
 ·exact⟨x,by show x∈EZ f r u;rw[K];exact LQ.2 (.inl rfl),e.symm⟩
 obtain⟨y,hy,V⟩:=h.c z F;exact⟨y,by show y∈EZ f r u;rw[K];exact LQ.2 (.inr ⟨hy,by rw[V];exact e⟩),V⟩
def zK.fin {s r:ls}{F:Nat->C}{n:Nat}(U:wI kH BU s.gD)(J :∀x∈s.gD,x.vq=false)(h:zK s F n r)(hn:n=s.gD.length){i:Nat}{x:gD}(H:s.gD[i]?=some x) : IS (KB r 2).gD x.oA.fI=if F i=true then (x,true) else (zH,false):=by
 have hi:=(X16.1 H).1;have V:wI kH BU (r.gD.filter (JR 2)):=PV h.w.v.wI;show IS (r.gD.filter (JR 2)) (kH x)=_;split
 ·rename_i K;exact NV V (Xbl.2 ⟨h.b i x (by omega) H K,by rw[fh,J x (Xcb H)];rfl⟩)
 rename_i K;refine K2 λy Y e=>?_;obtain⟨Z,Q⟩:=Xbl.1 Y;rw[fh] at Q;obtain⟨j,hj,M,P⟩:=h.a y Z (by simpa using Q);exact K (kG U M H e▸P)
def j5 (a0:I Int)(Q:Int)(h0:a0.length<=Xb3/\a0.length<=1048576/\∀a∈a0,wv a)(_:wv Q):FC a0 Q=some true:=by
 refine ok_eq ?_;unfold FC Gp;rw[AA];refine .bind (aJ (YL h0.1)) ?_;rintro⟨f,b,d⟩ ⟨hf,F,hd⟩;dsimp only at hf F hd⊢;refine .ite (λh=>by rw[G1,AA];exact .ret rfl) λh=>?_;have a7:(KB b 2).Up=true:=show b.Up=true by simpa using h
 rw[OA F.w.v.zA.zh,AA];have h1:=F.yE 2;have K :∀x∈(KB b 2).gD,x.vq=false:=λx M=>by have:=(Xbl.1 (show x∈b.gD.filter (JR 2) from M)).2;rw[fh] at this;simpa using this
 generalize KB b 2=s at a7 h1 K⊢;have V:KJ s 10 30=(F5 ⟨s.lf,false,s.gD.map yc,10+30⟩,0):=by unfold KJ;rw[h1.w.v.to,a7];rfl
 have P:=h1.down (now:=10) (grace:=30) (by rw[V]);rw[pK h1.w.v.zA,AA,V];rw[V] at P;dsimp only at P⊢;rw[Wm (by decide)];have Y:(F5 ⟨s.lf,false,s.gD.map yc,10+30⟩).gD=s.gD.map yc:=rfl;have a8:(F5 ⟨s.lf,false,s.gD.map yc,10+30⟩).lf=s.lf:=rfl;have aa:(F5 ⟨s.lf,false,s.gD.map yc,10+30⟩).Up=false:=rfl;generalize F5 ⟨s.lf,false,s.gD.map yc,10+30⟩=c at P Y a8 aa⊢;have ab :∀x∈s.gD,yc x∈c.gD:=λx M=>by rw[Y];exact Xaf.2 ⟨x,M,rfl⟩
 refine .join (λ_=>True) (λk9 aj=>.for_ (λ_=>aj _ trivial) λnext x i st hi M hn=>?_) λ_ _=>?_
 ·rw[Xq P.w.v.zA.zh P.w.v.wI,AA,show IS c.gD x.oA.fI=(yc x,true) from NV P.w.v.wI (ab x M)];dsimp only;refine .join (λv=>v=false) (λap ae=>?_) ?_
  ·rw[Wm (by decide),Wm (by simp[yc])];show Ok (Wb (Bd x.oA x.oA) _) _;rw[Ef,AA];exact ae _ rfl
  rintro v rfl;rw[Wm (by decide)];exact hn _
 have Z:H3 c=({ c with Up:=true },0):=by unfold H3;rw[P.w.v.to,aa];rfl
 have hR:=P.raise (by rw[Z]);rw[kZ P.w.v.zA,AA,Z];rw[Z] at hR;dsimp only at hR⊢;rw[Wm (by decide)];have I0:zK s (gC Q) 0 { c with Up:=true }:=by refine⟨hR.w,rfl,a8,λy hy a6=>?_,λj x hj=>absurd hj (Nat.not_lt_zero j),λx M=>⟨yc x,ab x M,rfl⟩⟩;have af:y∈c.gD:=hy;rw[Y] at af;obtain⟨z,_,rfl⟩:=Xaf.1 af;exact Bool.noConfusion a6
 refine .join (λr=>zK s (gC Q) s.gD.length r) (λaq ag=>.xL (λi r=>zK s (gC Q) i r) I0 (λr H=>ag _ H) λnext x i r M H hn=>?_) λr H=>?_
 ·refine .join (λr'=>zK s (gC Q) (i+1) r') (λar U=>.ite (λF=>?_) λF=>U _ (H.skip F)) λr' ak=>hn _ ak;obtain⟨g1,r',g2,g3⟩:=H.step hf.Mt h1 K M F;rw[Qp hf.CD H.w.v.zA H.w.sz g1,AA,g2];dsimp only;rw[Wm (by decide)];exact U _ g3
 have hW:=H.w.yE 2;rw[B3 H.w.v.zA.zh,AA];have a6:xT (r.gD.filter (JR 2))=false:=by unfold xT;rw[List.any_eq_false];intro y hy;have:=(Xbl.1 hy).2;rw[fh] at this;simpa using this
 have al:(KB r 2).oX=0:=by show cond (xT (r.gD.filter (JR 2))) r.oX 0=0;rw[a6];rfl
 have an:(KB r 2).Up=true:=H.up;refine .join (λv=>v=false) (λau ah=>?_) ?_
 ·rw[al,Wm (by decide),an];exact ah _ rfl
 rintro v rfl;rw[Wm (by decide)];refine .join (λ_=>True) (λax ai=>.xL (λ_ _=>True) trivial (λ_ _=>ai _ trivial) λnext x i st hi _ hn=>?_) λ_ _=>.ret rfl;rw[Xq hW.v.zA.zh hW.v.wI,AA,H.fin h1.w.v.wI K rfl hi];rw[qF];by_cases F:gC Q i=true;case neg=>
  rw[Wm F];dsimp only;rw[show gC Q i=false by simpa using F];refine .join (λv=>v=false) (λao J=>?_) ?_
  ·rw[Wm (by decide),Wm (by decide)];exact J _ rfl
  rintro v rfl;rw[Wm (by decide)];exact hn _ trivial
 case pos=>
  rw[Wr F];dsimp only;rw[F];refine .join (λv=>v=false) (λao J=>?_) ?_
  ·rw[Wm (by decide),Wr rfl,Wm (by rw[K x (Xcb hi)];decide),Wm (by simp),Ef,AA];exact J _ rfl
  rintro v rfl;rw[Wm (by decide)];exact hn _ trivial
end Go.AX.Q25
end
