/-
  Texts of one proof, packed.
-/
import Derived.Test.YthbbpeeghmpcfaaGreatDoorR22
import Derived.Test.YthbbpeeghmpcfaaGreatDoorR23
set_option linter.all false
set_option maxRecDepth 100000
set_option maxHeartbeats 4000000
open List renaming length_map→X1,length_append→X2,length_cons→X3,length_nil→X10,length_drop→X14,length_take→X15,mem_cons_of_mem→X16,length_replicate→X17,length_set→X18,length_singleton→X19
open Option.some renaming inj→X22
open Bool renaming and_eq_true→X24,eq_iff_iff→X25
open Nat renaming mul_le_mul_right→X28,add_mul→X29
open Option renaming bind→Xx
open Int renaming toNat→Xa0,fdiv→Xc4,tdiv→Xd7
open BitVec renaming ofInt→Xa3
open List renaming replicate→Xaa,take→Xb7,drop→Xb8
open UInt64 renaming ofNat→Xao
section
namespace Go.AX.Q33
open Go Go.AX
def XB (a:gH):gH:={ a with Next:=if a.Next.V6=true then ⟨false,0,0⟩ else a.Next }
def K1 (s a:gH)(k:Int):gH:=
 if k=1 then { s with o3:=a.o3 } else
 if k=2 then { s with Path:=a.Path } else
 if k=3 then { s with Next:=a.Next } else
 if k=4 then { s with AF:=a.AF } else
 if k=5 then { s with xL:=a.xL } else
 if k=8 then { s with fT:=a.fT } else
 if k=32 then { s with iX:=a.iX } else
 if k=35 then { s with zy:=a.zy } else s
def Zj {t:Int}{d:O S}(h:fl t≠0):Ey ⟨fl t,t,d⟩=true:=by
 unfold Ey;dsimp only;rcases E2 t with ⟨_,e⟩|⟨_,e⟩|⟨_,e⟩|⟨_,e⟩|⟨_,e⟩|⟨_,e⟩|⟨_,e⟩|⟨_,e⟩|e;iterate 8 (rw[e];decide)
 exact absurd e.2.2.2.2.2.2.2.2 h
def O2 {a:gH}{k:Int}{b:O S}(h:G a k=some b):fl k≠0:=by intro e;rw[PW e] at h;cases h
def ub {s a:gH}(v:VA a){k:Int}{b:O S}(h:G a k=some b):Jx s k b=some (K1 s a k):=by
 unfold Jx K1;unfold G at h;split at h
 ·rename_i hk;subst hk;split at h
  ·obtain rfl:=X22 h;have:=v.o;rw[Xa2 rfl,Xa2 rfl,bv (by omega)];rfl
  cases h
 rename_i h1;rw[Xa1 h1,Xa1 h1];split at h
 ·rename_i hk;subst hk;split at h
  ·obtain rfl:=X22 h;rw[Xa2 rfl,Xa2 rfl,nC v.p];rfl
  cases h
 rename_i K;rw[Xa1 K,Xa1 K];split at h
 ·rename_i hk;subst hk;split at h
  ·rename_i H;obtain rfl:=X22 h;have J:a.Next.V6=false:=by
    unfold IV at H;cases J:a.Next.V6
    ·rfl
    rw[J] at H;simp at H
   rw[Xa2 rfl,Xa2 rfl,mg v.n J];rfl
  cases h
 rename_i M;rw[Xa1 M,Xa1 M];split at h
 ·rename_i hk;subst hk;split at h
  ·obtain rfl:=X22 h;have:=v.m;rw[Xa2 rfl,Xa2 rfl,ta (by omega)];rfl
  cases h
 rename_i P;rw[Xa1 P,Xa1 P];split at h
 ·rename_i hk;subst hk;split at h
  ·obtain rfl:=X22 h;have:=v.r;rw[Xa2 rfl,Xa2 rfl,ta (by omega)];rfl
  cases h
 rename_i Q;rw[Xa1 Q,Xa1 Q];split at h
 ·rename_i hk;subst hk;split at h
  ·obtain rfl:=X22 h;rw[Xa2 rfl,Xa2 rfl,ol v.c ‹_›];rfl
  cases h
 rename_i U;rw[Xa1 U,Xa1 U];split at h
 ·rename_i hk;subst hk;split at h
  ·obtain rfl:=X22 h;rw[Xa2 rfl,Xa2 rfl,jB v.l ‹_›];rfl
  cases h
 rename_i F;rw[Xa1 F,Xa1 F];split at h
 ·rename_i hk;subst hk;split at h
  ·obtain rfl:=X22 h;have:=v.t;rw[Xa2 rfl,Xa2 rfl,qw (by omega)];rfl
  cases h
 cases h
def rV {s a:gH}(v:VA a){x:gL}(h:x∈Kc a):AR s x=some (K1 s a x.gE):=by
 unfold AR;rcases (JY v.O).1 h with ⟨k,h⟩|h
 ·obtain⟨b,F,rfl⟩:=FT.1 h;dsimp only;rw[Xa1 (O2 F),Xa2 (Zj (O2 F)),ub v F]
 have H:=XH (DL v.O h).1;rw[Xa2 H];rcases E2 x.gE with ⟨_,e⟩|⟨_,e⟩|⟨_,e⟩|⟨_,e⟩|⟨_,e⟩|⟨_,e⟩|⟨_,e⟩|⟨_,e⟩|⟨e1,e2,e3,e4,J,K,M,P,_⟩;iterate 8 (rw[e] at H;exact absurd H (by decide))
 unfold K1;rw[Xa1 e1,Xa1 e2,Xa1 e3,Xa1 e4,Xa1 J,Xa1 K,Xa1 M,Xa1 P]
def fM {a:gH}(v:VA a) :∀(l:O gL) (s:gH),(∀x∈l,x∈Kc a)->MA s l=some (l.foldl (λs x=>K1 s a x.gE) s)
 | [],_,_=>rfl
 | x::t,s,h=>by unfold MA;rw[rV v (h x (by simp)),Xby,fM v t _ λy F=>h y (X16 _ F)];rfl
def jX (s a:gH)(k:Int):(K1 s a k).o3=(if k=1 then a.o3 else s.o3)/\(K1 s a k).Path=(if k=2 then a.Path else s.Path)/\(K1 s a k).Next=(if k=3 then a.Next else s.Next)/\(K1 s a k).AF=(if k=4 then a.AF else s.AF)/\ (K1 s a k).xL=(if k=5 then a.xL else s.xL)/\(K1 s a k).fT=(if k=8 then a.fT else s.fT)/\(K1 s a k).iX=(if k=32 then a.iX else s.iX)/\(K1 s a k).zy=(if k=35 then a.zy else s.zy)/\(K1 s a k).oE=s.oE:=by
 unfold K1;rcases E2 k with ⟨e,_⟩|⟨e,_⟩|⟨e,_⟩|⟨e,_⟩|⟨e,_⟩|⟨e,_⟩|⟨e,_⟩|⟨e,_⟩|⟨e1,e2,e3,e4,F,H,J,K,_⟩;iterate 8 (subst e;exact⟨rfl,rfl,rfl,rfl,rfl,rfl,rfl,rfl,rfl⟩)
 simp only[e1,e2,e3,e4,F,H,J,K,Xd4,and_self]
def RB (a:gH) :∀(l:O gL) (s:gH),let r:=l.foldl (λs x=>K1 s a x.gE) s
  r.o3=(if CC l 1=true then a.o3 else s.o3)/\r.Path=(if CC l 2=true then a.Path else s.Path)/\r.Next=(if CC l 3=true then a.Next else s.Next)/\r.AF=(if CC l 4=true then a.AF else s.AF)/\
  r.xL=(if CC l 5=true then a.xL else s.xL)/\r.fT=(if CC l 8=true then a.fT else s.fT)/\r.iX=(if CC l 32=true then a.iX else s.iX)/\r.zy=(if CC l 35=true then a.zy else s.zy)/\r.oE=s.oE
 | [],s=>⟨rfl,rfl,rfl,rfl,rfl,rfl,rfl,rfl,rfl⟩
 | x::t,s=>by
  have F:=RB a t (K1 s a x.gE);have h:=jX s a x.gE;have J :∀(k:Int) {H:Type} (p q:H),(if CC (x::t) k=true then p else q)=if CC t k=true then p else if x.gE=k then p else q:=by
   intro k H p q;have:CC (x::t) k=(k==x.gE || CC t k):=rfl;rw[this];by_cases e:x.gE=k
   ·have e2:(k==x.gE)=true:=by simp[e]
    rw[e2,Xa2 e];simp
   have e2:(k==x.gE)=false:=by simp[Ne.symm e]
   rw[e2,Xa1 e];simp
  simp only[Xaj,J];dsimp only at F;rw[h.1,h.2.1,h.2.2.1,h.2.2.2.1,h.2.2.2.2.1,h.2.2.2.2.2.1,h.2.2.2.2.2.2.1,h.2.2.2.2.2.2.2.1,h.2.2.2.2.2.2.2.2] at F;exact F
def SH {a:gH}(v:VA a){k:Int}(H:fl k≠0):CC (Kc a) k=(G a k).isSome:=by
 rw[X25,Fp];constructor
 ·rintro⟨y,J,e⟩;rcases (JY v.O).1 J with ⟨j,h⟩|h
  ·obtain⟨b,F,rfl⟩:=FT.1 h;dsimp only at e;rw[<- e,F];rfl
  have:=XH (DL v.O h).1;rw[e] at this;exact absurd this H
 intro h;obtain⟨b,F⟩:=Option.isSome_iff_exists.1 h;exact⟨_,(JY v.O).2 (.inl ⟨k,FT.2 ⟨b,F,rfl⟩⟩),rfl⟩
def vS {a:gH}(v:VA a){x:gL}(h:x∈Kc a):Rf x=false:=by
 unfold Rf;rcases (JY v.O).1 h with ⟨k,h⟩|h
 ·obtain⟨b,F,rfl⟩:=FT.1 h;have:Lb k=false:=by unfold Lb;rw[Xa9 (O2 F)];rfl
  rw[this];rfl
 have e:=(DL v.O h).2.2.2.1;have:(bt x.Flags 128==0)=false:=by rw[e];decide
 rw[this,Bool.and_false]
def lM {a:gH}(v:VA a){l:List gL}(K:K7 l)(J :∀x,x∈l↔x∈Kc a):GN l=a.oE:=by
 refine iP OD (PO K) ((KT v.O).imp λ{x y} h=>by rw[mV];exact h) λy=>?_;rw[Vh];constructor
 ·rintro⟨x,M,F,rfl⟩;rcases (JY v.O).1 ((J x).1 M) with ⟨k,h⟩|h
  ·obtain⟨b,P,rfl⟩:=FT.1 h;have:Lb k=false:=by unfold Lb;rw[Xa9 (O2 P)];rfl
   unfold Jv at F;dsimp only at F;rw[this] at F;simp at F
  have e:conv x=x:=by have:=(DL v.O h).2.2.2.1;obtain⟨f,t,d⟩:=x;dsimp only at this;subst this;rfl
  rw[e];exact h
 intro h;obtain⟨Q,U,V,H,Y⟩:=DL v.O h;refine⟨y,(J y).2 ((JY v.O).2 (.inr h)),?_,?_⟩
 ·unfold Jv;have e:(bt y.Flags 64 !=0)=true:=by rw[H];decide
  rw[Q,e];simp only[Xco,X24,Xy];exact⟨⟨U,V⟩,Y⟩
 obtain⟨f,t,d⟩:=y;dsimp only at H;subst H;rfl
def s4 {a:gH}(v:VA a){l:List gL}(U:l.Perm (Kc a)):HX l=(XB a,0):=by
 have V:K7 l:=(U.pairwise_iff λh e=>h e.symm).2 (XX v.O);have F :∀x,x∈l↔x∈Kc a:=λx=>U.mem_iff;have H:l.any Rf=false:=by rw[List.any_eq_false];intro x J;rw[vS v ((F x).1 J)];decide
 have hT :∀k,CC l k=CC (Kc a) k:=by intro k;rw[X25,Fp,Fp];exact⟨λ⟨y,K,M⟩=>⟨y,(F y).1 K,M⟩,λ⟨y,K,M⟩=>⟨y,(F y).2 K,M⟩⟩
 unfold HX;rw[Pi V,H,Xa1 (by decide),fM v l eA λx J=>(F x).1 J,lM v V F];dsimp only;rw[Xa1 (by have:=v.e;omega)];congr 1;have f:=RB a l eA;dsimp only at f;obtain⟨P,Q,f3,f4,f5,f6,f7,f8,f9⟩:=f;generalize List.foldl (λs x=>K1 s a x.gE) eA l=r at P Q f3 f4 f5 f6 f7 f8 f9;rw[hT,SH v (by decide)] at P Q f3 f4 f5 f6 f7 f8;have Y:r.o3=a.o3:=by
  rw[P];have:G a 1=if a.o3≠-1 then some [Ak a.o3] else none:=rfl;rw[this];by_cases h:a.o3=-1
  ·simp[h,eA]
  simp[h]
 have Z:r.Path=a.Path:=by
  rw[Q];have:G a 2=if a.o3≠-1\/a.Path≠[] then some (Hu a.Path) else none:=rfl;rw[this];by_cases h:a.o3≠-1\/a.Path≠[]
  ·rw[Xa2 h];rfl
  rw[Xa1 h];have:a.Path=[]:=Classical.byContradiction λq=>h (.inr q);rw[this];rfl
 have g3:r.Next=if a.Next.V6=true then ⟨false,0,0⟩ else a.Next:=by
  rw[f3];have:G a 3=if IV a=true then some (b4 a.Next.Lo.toNat) else none:=rfl;rw[this];unfold IV;cases h6:a.Next.V6
  ·cases he:Addr.zn a.Next ⟨false,0,0⟩
   ·rfl
   have:=(wi _ _).1 he;rw[this];rfl
  rfl
 have g4:r.AF=a.AF:=by
  rw[f4];have:G a 4=if a.AF≠-1 then some (w4 a.AF) else none:=rfl;rw[this];by_cases h:a.AF=-1
  ·simp[h,eA]
  simp[h]
 have g5:r.xL=a.xL:=by
  rw[f5];have:G a 5=if a.xL≠-1 then some (w4 a.xL) else none:=rfl;rw[this];by_cases h:a.xL=-1
  ·simp[h,eA]
  simp[h]
 have g6:r.fT=a.fT:=by
  rw[f6];have:G a 8=if a.fT≠[] then some (a.fT.flatMap PR) else none:=rfl;rw[this];by_cases h:a.fT=[]
  ·simp[h,eA]
  simp[h]
 have g7:r.iX=a.iX:=by
  rw[f7];have:G a 32=if a.iX≠[] then some (a.iX.flatMap KV) else none:=rfl;rw[this];by_cases h:a.iX=[]
  ·simp[h,eA]
  simp[h]
 have g8:r.zy=a.zy:=by
  rw[f8];have:G a 35=if a.zy≠-1 then some (w4 a.zy) else none:=rfl;rw[this];by_cases h:a.zy=-1
  ·simp[h,eA]
  simp[h]
 obtain⟨ro,rp,rn,rm,rr,rt,rc,rl,re⟩:=r;dsimp only at Y Z g3 g4 g5 g6 g7 g8;unfold XB;rw[Y,Z,g3,g4,g5,g6,g7,g8]
def R0 (x:gL):I:=decide (0<=x.Flags)&&(decide (x.Flags<=255)&&(decide (0<=x.gE)&&(decide (x.gE<=255)&&decide ((x.Data.length:Int)<=65535))))
def RC (x:gL):O S:=if decide ((x.Data.length:Int)>255)=true then ([(Ak ((Xa3 8 ((Ak ((Xa3 8 ((Ak x.Flags).toNat:Int) &&& Xa3 8 224).toNat:Int)).toNat:Int) ||| Xa3 8 16).toNat:Int)),(Ak x.gE),(Ak (Xc4 (x.Data.length:Int) (2^(min (Xa0 8) 64)))),(Ak (x.Data.length:Int))]:O S)
 else ([(Ak ((Xa3 8 ((Ak x.Flags).toNat:Int) &&& Xa3 8 224).toNat:Int)),(Ak x.gE),(Ak (x.Data.length:Int))]:O S)
def PY (x:gL):O S:=RC x++x.Data
def DN (l:O gL):O S:=l.flatMap PY
def Dz (l:O gL):O S×Int:=if l.all R0=true then (if (DN l).length>2048 then ([],3) else (DN l,0)) else ([],1)
def Sz (x:gL):(PY x).length<=x.Data.length+4:=by unfold PY RC;rw[X2];split<;>simp<;>omega
def P9 {N:Nat} :∀{l:O gL},(∀x∈l,x.Data.length<=N)->(DN l).length<=l.length*(N+4)
 | [],_=>by simp[DN]
 | x::t,h=>by have F:=P9 (l:=t) λy H=>h y (X16 _ H);have J:=Sz x;have K:=h x (by simp);unfold DN at F⊢;rw[Xat,X2,X3,X29];omega
def vP {x:gL}{v:O S}{ρ:Type}{K:O S->C ρ}(M:v.length+4<=1000000000) : AC (τ:=(O S)) (λF=>if (decide ((x.Data.length:Int)>255))=true then Xx (gO (α:=S) 1 v ([(Ak ((Xa3 8 ((Ak ((Xa3 8 ((Ak x.Flags).toNat:Int) &&& Xa3 8 224).toNat:Int)).toNat:Int) ||| Xa3 8 16).toNat:Int)),(Ak x.gE),(Ak (Xc4 (x.Data.length:Int) (2^(min (Xa0 8) 64)))),(Ak (x.Data.length:Int))]:O S)) λH=>F H else Xx (gO (α:=S) 1 v ([(Ak ((Xa3 8 ((Ak x.Flags).toNat:Int) &&& Xa3 8 224).toNat:Int)),(Ak x.gE),(Ak (x.Data.length:Int))]:O S)) λJ=>F J ) K=K (v++RC x):=by
 rw[AB];unfold RC;split
 ·rw[AD (by decide) (by simp;omega),AA]
 rw[AD (by decide) (by simp;omega),AA]
def lP {l:O gL}(M:l.length<=1000)(P :∀x∈l,x.Data.length<=100000):It l=some (Dz l):=by
 have H:=P9 P;have F:l.length*(100000+4)<=1000*100004:=X28 _ M;unfold It Dz;rw[AB];refine (Rm (g:=R0) (r0:=some ([],1)) λnext x i _=>?_).trans ?_
 ·have e:R0 x=!(decide (x.Flags<0) || (decide (x.Flags>255) || (decide (x.gE<0) || (decide (x.gE>255) || decide ((x.Data.length:Int)>65535))))):=by unfold R0;rw[X25];simp only[X24,Xbd,Bool.or_eq_false_iff,Xy,Xav];omega
  rw[AB,e];cases decide (x.Flags < 0)<;>cases decide (x.Flags>255)<;>cases decide (x.gE < 0)<;>cases decide (x.gE>255)<;>cases decide ((x.Data.length:Int)>65535)<;>rfl
 cases Q:l.all R0
 ·rfl
 rw[Xe1,Xa2 rfl,AB];refine (jt (g:=PY) (N:=999999990) (by show [].length+(DN l).length<=_;simp only[X10];omega) λnext x i v U J=>?_).trans ?_
 ·unfold PY at J⊢;rw[X2] at J;have V:(RC x).length<=4/\3<=(RC x).length:=by unfold RC;split<;>simp
  rw[vP (by omega),AD (by decide) (by rw[X2];omega),AA,Xb9]
 show (if decide (((DN l).length:Int)>2048)=true then _ else _)=_;by_cases K:(DN l).length>2048
 ·rw[Xa2 (by simp only[Xy];omega),Xa2 K]
 rw[Xa1 (by simp only[Xy];omega),Xa1 K];rfl
def jn {l:O gL}:(Dz l).1.length<=2048:=by
 unfold Dz;split
 ·split
  ·simp
  dsimp only;omega
 simp
def okB (x:gL):Prop:=(x.Flags=64\/x.Flags=128\/x.Flags=192\/x.Flags=224)/\0<=x.gE/\x.gE<=255/\x.Data.length<=255
def rR {x:gL}(h:okB x)(e:O S) :∃f t,PY x++e=f::t/\Mr f t=some (x,e):=by
 obtain⟨J,V,Y,Z⟩:=h;have K:RC x=([(Ak ((Xa3 8 ((Ak x.Flags).toNat:Int) &&& Xa3 8 224).toNat:Int)),(Ak x.gE),(Ak (x.Data.length:Int))]:O S):=by unfold RC;rw[Xa1 (by simp only[Xy];omega)]
 obtain⟨f,F⟩ :∃f,f=Ak ((Xa3 8 ((Ak x.Flags).toNat:Int) &&& Xa3 8 224).toNat:Int):=⟨_,rfl⟩;have H:hd4 f=false/\flagsOf f=x.Flags:=by rw[F];rcases J with e|e|e|e<;>rw[e]<;>decide
 have M:Fs f=3:=by unfold Fs;rw[H.1];rfl
 refine⟨f,Ak x.gE::Ak (x.Data.length:Int)::(x.Data++e),?_,?_⟩
 ·unfold PY;rw[K,F];simp
 have P:sizeOf (f::Ak x.gE::Ak (x.Data.length:Int)::(x.Data++e)) 3=x.Data.length:=by
  have:sizeOf (f::Ak x.gE::Ak (x.Data.length:Int)::(x.Data++e)) 3=(Ak (x.Data.length:Int)).toNat:=by simp[sizeOf,val]
  rw[this,Bd,Xam];omega
 have Q:((Ak x.gE).toNat:Int)=x.gE:=by obtain⟨n,U⟩ :∃n:Nat,x.gE=n:=⟨x.gE.toNat,by omega⟩;rw[U,Bd,Xam];omega
 unfold Mr;rw[M,P,Xa1 (by simp only[X3,X2];omega)];have e1:(f::Ak x.gE::Ak (x.Data.length:Int)::(x.Data++e)).drop 3=x.Data++e:=rfl;have e2:(f::Ak x.gE::Ak (x.Data.length:Int)::(x.Data++e)).drop (3+x.Data.length)=e:=by rw[<- List.drop_drop,e1];simp
 rw[e1,e2,H.2];have e3:(x.Data++e).take x.Data.length=x.Data:=by simp
 rw[e3];show some ((⟨x.Flags,((Ak x.gE).toNat:Int),x.Data⟩:gL),e)=_;rw[Q]
def wq {b:I}{m:Nat}(h:m<2^128):(L7 b m).n=m:=by unfold L7 Addr.n;simp only[Xar];omega
def vV (a:Addr)(n:Nat):a.n/2^(a.w-n)*2^(a.w-n)<=a.n:=Nat.div_mul_le_self _ _
def iV {a:Addr}(h:a.ok=true):a.n<2^128:=by
 have:=Addr.Tg h;have F:a.w<=128:=by unfold Addr.w;split<;>omega
 exact Xb4 this (Xdc (by omega) F)
def Hc (a:Addr):O S:=(BJ a).getD []
def Io {a:Addr}(h:a.ok=true):BJ a=some (Hc a)/\(Hc a).length=a.L:=by obtain⟨r,F,H,_⟩:=I9 h;unfold Hc;rw[F];exact⟨rfl,H⟩
def UC (p:fI):O S:=Ak p.zk::(Hc p.Addr).take ((p.zk.toNat+7)/8)
def Ap (za:I)(l:O fI):O S:=l.flatMap λp=>if (p.Addr.V6==za)=true then UC p else []
def WK (a:Addr):a.w=8*a.L/\a.L<=16:=by unfold Addr.w Addr.L;split<;>exact⟨rfl,by omega⟩
def Vw {p:fI}(h:Ci p):(UC p).length<=17:=by obtain⟨F,H,J,_⟩:=h;obtain⟨_,e2⟩:=Io F;have:=(WK p.Addr).2;unfold UC;simp only[X3,X15];omega
def JK (za:I)(p:fI)(t:O fI):Ap za (p::t)=(if (p.Addr.V6==za)=true then UC p else [])++Ap za t:=Xat
def Bj {za:I} :∀{l:O fI},(∀p∈l,Ci p)->(Ap za l).length<=17*l.length
 | [],_=>by simp[Ap]
 | p::t,h=>by
  have H:=Vw (h p (by simp));have J:=Bj (za:=za) (l:=t) λq F=>h q (X16 _ F);rw[JK,X2,X3];split
  ·omega
  simp only[X10];omega
def MS {l:O fI}(hl:l.length<=100000)(hg :∀p∈l,Ci p)(za:I):EK l za=some (Ap za l):=by
 unfold EK;rw[AB];refine (Rx (λ(t:O fI) _ (s:O S)=>s.length+17*t.length<=10000000/\∀p∈t,Ci p) (λt _ s=>some (s++Ap za t)) ?_ ?_ l 0 [] ⟨by simp only[X10];omega,hg⟩).trans ?_
 ·intro i s _;show some s=some (s++[]);rw[Xb1]
 ·rintro next p t i s ⟨P,H⟩ J
  simp only[X3] at P;have K:=H p (by simp);have Q:=Vw K;have M :∀q∈t,Ci q:=λq U=>H q (X16 _ U);obtain⟨V,k2,k3,_⟩:=K;obtain⟨e1,e2⟩:=Io V;obtain⟨w1,w2⟩:=WK p.Addr;rw[AB,JK];by_cases F:(p.Addr.V6==za)=true
  ·obtain⟨k,Y⟩ :∃k:Nat,p.zk=k:=⟨p.zk.toNat,by omega⟩;have e3:AG (Xd7 (AG (p.zk+7)) 8)=(((p.zk.toNat+7)/8:Nat):Int):=by rw[Y,Xax,AK (x:=(k:Int)+7) (by omega),Int.tdiv_eq_ediv_of_nonneg (by omega),AK (by omega)];omega
   have e4:(p.zk.toNat+7)/8<=p.Addr.L:=by omega
   have Z:Ch (0<=(0:Int)/\(0:Int)<=(((p.zk.toNat+7)/8:Nat):Int)/\(((p.zk.toNat+7)/8:Nat):Int)<=((Hc p.Addr).length:Int))=some ():=Xa2 (by rw[e2];omega);have e6:Xb7 (Xa0 (((p.zk.toNat+7)/8:Nat):Int)-Xa0 0) (Xb8 (Xa0 0) (Hc p.Addr))=(Hc p.Addr).take ((p.zk.toNat+7)/8):=by rw[Xax];rfl
   rw[Xa2 F,Xa2 F,AD (by decide) (by simp only[X19];omega),AA,e1,AA,e3,Z,AA,e6, AD (by decide) (by simp only[X2,X19,X15];omega),AA];dsimp only
   rw[J _ ⟨by
    simp only[X2,X19,X15]
    omega,M⟩]
   unfold UC;simp only[Xb9,List.singleton_append,List.cons_append,Xah]
  rw[Xa1 F,Xa1 F];dsimp only;rw[J _ ⟨by omega,M⟩,Xah]
 rw[Xah]
def eY {l:O gL}(U:l.length<=1000000)(x:gL):GU l x=some (G7 JT l x):=by unfold GU;have P:=nu (p:=(JT · x)) (l:=l) (by omega) (g:=λy k=>k (cond true (decide (y.gE<x.gE)) false)) (λy _ k=>rfl) (K:=λJ=>Xx (part l 0 J) λM=>Xx (gO (α:=gL) 40 [] M) λ_=>Xx (gO (α:=gL) 40 M ([x]:O gL)) λQ=>Xx (part l J (l.length:Int)) λF=>Xx (gO (α:=gL) 40 Q F) λH=>some H);refine Eq.trans P ?_;exact mT (K:=some) (b:=40) (lt:=JT) (l:=l) (x:=x) (by decide) (by omega)
def zZ (u:zl):O gL:=if 0<u.gF.length then Kc u.gH else []
def Jb (u:zl):O gL:=if 0<(Ap true u.gF).length then G7 JT (zZ u) ⟨128,14,[0,2,1,16]++Hc u.gH.Next++[0]++Ap true u.gF⟩ else zZ u
def By (u:zl):O gL:=if 0<(Ap true u.oB).length then G7 JT (Jb u) ⟨128,15,[0,2,1]++Ap true u.oB⟩ else Jb u
def two (n:Nat):O S:=[Ak (Xc4 (n:Int) (2^(min (Xa0 8) 64))),Ak (n:Int)]
def Kv (u:zl)(a:O S):O S:=two (Ap false u.oB).length++Ap false u.oB++two a.length++a++Ap false u.gF
def Dt (u:zl):O S×Int:=if (Dz (By u)).2≠0 then ([],(Dz (By u)).2) else (Kv u (Dz (By u)).1,0)
structure Pf (u:zl):Prop where
 w:u.oB.length<=1000
 n:u.gF.length<=1000
 gw :∀p∈u.oB,Ci p
 ga :∀p∈u.gF,Ci p
 a:0<u.gF.length->VA u.gH/\(Kc u.gH).length<=16/\∀x∈Kc u.gH,x.Data.length<=768
def QQ {u:zl}(g:Pf u):E4 u=some (Dt u):=by
 have a6:=Bj (za:=true) g.gw;have a7:=Bj (za:=false) g.gw;have a8:=Bj (za:=true) g.ga;have aa:=Bj (za:=false) g.ga;have hw:=g.w;have hn:=g.n;have Z:(zZ u).length<=16/\∀x∈zZ u,x.Data.length<=768:=by
  unfold zZ;split
  ·exact (g.a ‹_›).2
  simp
 unfold E4;have e0 :∀(K:O gL->C (O S×Int)),AC (τ:=(O gL)) (λk1=>if (decide ((u.gF.length:Int)>0)) then Xx (Gj u.gH) λ(v2,v3)=>if (v3 !=0) then some ([],v3) else k1 v2 else k1 []) K=K (zZ u):=by
  intro K;rw[AB];unfold zZ;by_cases h:0<u.gF.length
  ·rw[Xa2 (by simp only[Xy];omega),Xa2 h,jl (g.a h).1,AA];exact Xa1 (by simp)
  rw[Xa1 (by simp only[Xy];omega),Xa1 h]
 rw[e0];rw[MS (by omega) g.ga,AA];have hL:(Hc u.gH.Next).length<=16\/u.gF.length=0:=by
  rcases Nat.eq_zero_or_pos u.gF.length with h|h
  ·exact .inr h
  have:=(Io (g.a h).1.n).2;have:=(WK u.gH.Next).2;exact .inl (by omega)
 have e1 :∀{H:Type} (K:O gL->C H),AC (τ:=(O gL)) (λk6=>if (decide (((Ap true u.gF).length:Int)>0)) then Xx (BJ u.gH.Next) λv7=>Xx (gO (α:=S) 1 ([(0:S),(2:S),(1:S),(16:S)]:O S) v7) λv8=>Xx (gO (α:=S) 1 v8 ([(0:S)]:O S)) λv9=>Xx (gO (α:=S) 1 v9 (Ap true u.gF)) λP=>Xx (GU (zZ u) (⟨128,14,P⟩:gL)) λQ=>k6 Q else k6 (zZ u)) K=K (Jb u):=by
  intro H K;rw[AB];unfold Jb;by_cases h:0<(Ap true u.gF).length
  ·have J:0<u.gF.length:=by omega
   have hl:(Hc u.gH.Next).length<=16:=hL.resolve_right (by omega);rw[Xa2 (by simp only[Xy];omega),Xa2 h,(Io (g.a J).1.n).1,AA,AD (by decide) (by simp only[X3,X10];omega),AA, AD (by decide) (by simp only[X2,X3,X10];omega),AA,AD (by decide) (by simp only[X2,X3,X10];omega),AA,eY (by omega),AA]
  rw[Xa1 (by simp only[Xy];omega),Xa1 h]
 rw[e1,MS (by omega) g.gw,AA];have h1:(Jb u).length<=17/\∀x∈Jb u,x.Data.length<=20000:=by
  unfold Jb;split
  ·refine⟨by rw[G0];omega,λx F=>?_⟩;rcases D5.1 F with F|rfl
   ·have:=Z.2 x F;omega
   have hl:(Hc u.gH.Next).length<=16:=hL.resolve_right (by omega);simp only[X2,X3,X10];omega
  exact⟨by omega,λx F=>by have:=Z.2 x F;omega⟩
 have e2 :∀{H:Type} (K:O gL->C H),AC (τ:=(O gL)) (λM=>if (decide (((Ap true u.oB).length:Int)>0)) then Xx (gO (α:=S) 1 ([(0:S),(2:S),(1:S)]:O S) (Ap true u.oB)) λU=>Xx (GU (Jb u) (⟨128,15,U⟩:gL)) λV=>M V else M (Jb u)) K=K (By u):=by
  intro H K;rw[AB];unfold By;by_cases h:0<(Ap true u.oB).length
  ·rw[Xa2 (by simp only[Xy];omega),Xa2 h,AD (by decide) (by simp only[X3,X10];omega),AA,eY (by omega),AA]
  rw[Xa1 (by simp only[Xy];omega),Xa1 h]
 rw[e2];have h2:(By u).length<=18/\∀x∈By u,x.Data.length<=20000:=by
  unfold By;split
  ·refine⟨by rw[G0];omega,λx F=>?_⟩;rcases D5.1 F with F|rfl
   ·exact h1.2 x F
   simp only[X2,X3,X10];omega
  exact⟨by omega,h1.2⟩
 rw[lP (by omega) (λx F=>by have:=h2.2 x F;omega),AA];have hj:=jn (l:=By u);unfold Dt;dsimp only;by_cases he:(Dz (By u)).2=0
 ·have Y:¬ (Dz (By u)).2≠0:=λq=>q he;rw[Xa1 (by rw[he];decide),Xa1 Y,MS (by omega) g.gw,AA,AD (by decide) (by simp only[X3,X10];omega),AA, AD (by decide) (by simp only[X2,X3,X10];omega),AA,AD (by decide) (by simp only[X2,X3,X10];omega),AA, MS (by omega) g.ga,AA,AD (by decide) (by simp only[X2,X3,X10];omega),AA];rfl
 rw[Xa2 (by simpa using he),Xa2 he]
def o7 {a:Addr}(h:a.ok=true){j:Nat}(F:j<a.L):(Hc a)[j]?=some (Og a (a.L-1-j)):=by obtain⟨r,H,K,J⟩:=I9 h;unfold Hc;rw[H];exact J j F
def rC {a:Addr}(h:a.ok=true):val (Hc a)=a.n:=by
 have H:=(Io h).2;obtain⟨K,w2⟩:=WK a;apply Nat.eq_of_testBit_eq;intro q;rw[Qu,H];by_cases F:q<8*a.L
 ·have J:a.L-1-q/8<a.L:=by omega
  have e1:a.L-1-(a.L-1-q/8)=q/8:=by omega
  rw[Xa2 F,Xa8,o7 h J,Xaz,e1];unfold Og;rw[Xam,show (2:Nat)^8=2^8 from rfl,Nat.testBit_mod_two_pow,Nat.testBit_div_two_pow,Nat.mod_add_div];simp[Xeu]
 rw[Xa1 F];exact (Nat.testBit_lt_two_pow (Xb4 (Addr.Tg h) (Xdc (by omega) (by omega)))).symm
def lq {a:Addr}(h:a.ok=true):L7 a.V6 a.n=a:=by
 have F:=a.Hi.toNat_lt;have H:=a.Lo.toNat_lt;have e1:Xao (a.n/2^64)=a.Hi:=by apply Xcp.1;simp only[Xar];unfold Addr.n;omega
 have e2:Xao a.n=a.Lo:=by apply Xcp.1;simp only[Xar];unfold Addr.n;omega
 unfold L7;rw[e1,e2]
def uK {a:Addr}{za:I}(h:a.V6=za):a.L=pw za:=by unfold Addr.L pw;rw[h]
def TM {a:Addr}(h:a.ok=true):addrOf (Hc a)=a:=by
 have F:=(Io h).2;have H:=uK (a:=a) rfl;have J:(Hc a).length=4\/(Hc a).length=16:=by rw[F,H];unfold pw;cases a.V6<;>simp
 have K:=iV h;rw[(WY J).2,rC h,Xbf K];have e:((Hc a).length==16)=a.V6:=by rw[F,H];unfold pw;cases a.V6<;>rfl
 rw[e,lq h]
def lj {p:fI}(h:Ci p){k:Nat}(Y:(p.zk.toNat+7)/8<=k)(Z:k<=p.Addr.L):(Hc p.Addr).take k++Xaa (p.Addr.L-k) 0=Hc p.Addr:=by
 obtain⟨F,g2,g3,M⟩:=h;have hl:=(Io F).2;obtain⟨w1,w2⟩:=WK p.Addr;have P:=iV F;apply List.ext_getElem?;intro j;by_cases Q:j<k
 ·rw[Xaf (by rw[X15];omega),List.getElem?_take,Xa2 Q]
 rw[Xas (by rw[X15];omega),X15,Xem (by omega)];by_cases H:j<p.Addr.L
 ·rw[o7 F H,List.getElem?_replicate,Xa2 (by omega)];congr 1;unfold Og;have K:p.Addr.n=p.Addr.n/2^(p.Addr.w-p.zk.toNat)*2^(p.Addr.w-p.zk.toNat):=by
   have e1:(p.Addr.cut p.zk.toNat).n=p.Addr.n/2^(p.Addr.w-p.zk.toNat)*2^(p.Addr.w-p.zk.toNat):=by unfold Addr.cut;exact wq (Nat.lt_of_le_of_lt (vV _ _) P)
   rw[M] at e1;exact e1
  have U:8*(p.Addr.L-1-j)+8<=p.Addr.w-p.zk.toNat:=by omega
  obtain⟨d,V⟩ :∃d,p.Addr.w-p.zk.toNat=8*(p.Addr.L-1-j)+(8+d):=⟨p.Addr.w-p.zk.toNat-(8*(p.Addr.L-1-j)+8),by omega⟩;have J:p.Addr.n/2^(8*(p.Addr.L-1-j))=p.Addr.n/2^(p.Addr.w-p.zk.toNat)*2^d*256:=by
   generalize hq:p.Addr.n/2^(p.Addr.w-p.zk.toNat)=q at K⊢;rw[K,V,Nat.pow_add,Nat.pow_add];have e:q*(2^(8*(p.Addr.L-1-j))*(2^8*2^d))=2^(8*(p.Addr.L-1-j))*(q*2^d*256):=by rw[show (2:Nat)^8=256 from rfl,Nat.mul_left_comm];congr 1;rw[Xc6 256,Nat.mul_assoc]
   rw[e,Nat.mul_div_cancel_left _ (Xea _)]
  rw[J];apply UInt8.toNat_inj.1;rw[Xam,show (2:Nat)^8=256 from rfl,Nat.mul_mod_left];rfl
 rw[List.getElem?_replicate,Xa1 (by omega),Xdl (by omega)]
def eS {za:I}{p:fI}(h:Ci p)(U:p.Addr.V6=za)(r:O S):K8 za (Ak p.zk) ((Hc p.Addr).take ((p.zk.toNat+7)/8)++r)=some (p,r):=by
 have V:=lj h (Xak _);have hg:=h;obtain⟨M,g2,g3,P⟩:=h;have hl:=(Io M).2;obtain⟨w1,w2⟩:=WK p.Addr;have Y:=uK U;obtain⟨k,F⟩ :∃k:Nat,p.zk=k:=⟨p.zk.toNat,by omega⟩;have Q:p.zk.toNat=k:=by rw[F,Xax]
 have H:(Ak p.zk).toNat=k:=by rw[F,Bd,Xam];exact Xbf (by omega)
 have J:pk (Ak p.zk)=(p.zk.toNat+7)/8:=by unfold pk;rw[H,Q]
 have K:((Hc p.Addr).take ((p.zk.toNat+7)/8)).length=(p.zk.toNat+7)/8:=by rw[X15];omega
 unfold K8;rw[Xa1 (by rw[H,J,X2,K];omega)];have Z:WX za (Ak p.zk) ((Hc p.Addr).take ((p.zk.toNat+7)/8)++r)=Hc p.Addr:=by unfold WX;rw[J,List.take_append_of_le_length (by omega),List.take_take,Nat.min_self,<- Y];exact V (by omega)
 unfold tW;rw[Z,TM M,H,J,List.drop_append_of_le_length (by omega),List.drop_of_length_le (by omega),Xah];rw[Q] at P;rw[P,<- F]
def Iu {za:I} :∀{l:O fI} {acc:O fI},(∀p∈l,Ci p)->II za (Ap za l) acc=some (acc++l.filter λp=>p.Addr.V6==za)
 | [],acc,_=>by show some acc=some (acc++[]);rw[Xb1]
 | p::t,acc,h=>by
  have J:=h p (by simp);have H:=λacc=>Iu (za:=za) (l:=t) (acc:=acc) λq K=>h q (X16 _ K);rw[JK,Xch];by_cases F:(p.Addr.V6==za)=true
  ·rw[Xa2 F,Xa2 F];unfold UC;rw[List.cons_append,WE,eS J (by simpa using F)];dsimp only;rw[H,Xb9,List.singleton_append]
  rw[Xa1 F,Xa1 F,Xah];exact H acc
def Yy {w r:O S}(h:w.length<65536):IQ (two w.length++w++r)=some (w,r):=by
 have e1:Xc4 (w.length:Int) (2^(min (Xa0 8) 64))=((w.length/256:Nat):Int):=by
  have:min (Xa0 8) 64=8:=rfl;have F:((2:Int)^8)=((2^8:Nat):Int):=by simp
  rw[this,F,Xc8 _ (Xdf _),Int.natCast_ediv]
 have H:(Ak (Xc4 (w.length:Int) (2^(min (Xa0 8) 64)))).toNat*256+(Ak (w.length:Int)).toNat=w.length:=by rw[e1,Bd,Bd,Xam,Xam];omega
 unfold two IQ;simp only[List.cons_append,Xah];rw[H,Xa1 (by rw[X2];omega),List.take_append_of_le_length (Xak _),Xd3,List.drop_append_of_le_length (Xak _),List.drop_length,Xah]
def lW (x:gL):Prop:=(x.Flags=64\/x.Flags=128\/x.Flags=192\/x.Flags=224)/\0<=x.gE/\x.gE<=255/\x.Data.length<=65535
def vd (n:Nat):Xc4 (n:Int) (2^(min (Xa0 8) 64))=((n/256:Nat):Int):=by
 have:min (Xa0 8) 64=8:=rfl;have F:((2:Int)^8)=((2^8:Nat):Int):=by simp
 rw[this,F,Xc8 _ (Xdf _),Int.natCast_ediv]
def oJ {x:gL}(h:lW x)(hl:255<x.Data.length)(e:O S) :∃f t,PY x++e=f::t/\Mr f t=some (x,e):=by
 obtain⟨P,h1,h2,h3⟩:=h;obtain⟨f,F⟩ :∃f,f=Ak ((Xa3 8 ((Ak ((Xa3 8 ((Ak x.Flags).toNat:Int) &&& Xa3 8 224).toNat:Int)).toNat:Int) ||| Xa3 8 16).toNat:Int):=⟨_,rfl⟩;obtain⟨p,J⟩ :∃p,p=Ak (Xc4 (x.Data.length:Int) (2^(min (Xa0 8) 64))):=⟨_,rfl⟩;obtain⟨q,K⟩ :∃q,q=Ak (x.Data.length:Int):=⟨_,rfl⟩;have Q:RC x=[f,Ak x.gE,p,q]:=by unfold RC;rw[Xa2 (by simp only[Xy];omega),F,J,K]
 have M:hd4 f=true/\flagsOf f=x.Flags:=by rw[F];rcases P with e|e|e|e<;>rw[e]<;>decide
 have U:Fs f=4:=by unfold Fs;rw[M.1];rfl
 have H:p.toNat*256+q.toNat=x.Data.length:=by rw[J,K,vd,Bd,Bd,Xam,Xam];omega
 refine⟨f,Ak x.gE::p::q::(x.Data++e),?_,?_⟩
 ·unfold PY;rw[Q];simp
 have V:sizeOf (f::Ak x.gE::p::q::(x.Data++e)) 4=x.Data.length:=by rw[<- H];simp[sizeOf,val]
 have Y:((Ak x.gE).toNat:Int)=x.gE:=by obtain⟨n,Z⟩ :∃n:Nat,x.gE=n:=⟨x.gE.toNat,by omega⟩;rw[Z,Bd,Xam];omega
 unfold Mr;rw[U,V,Xa1 (by simp only[X3,X2];omega)];have e1:(f::Ak x.gE::p::q::(x.Data++e)).drop 4=x.Data++e:=rfl;have e2:(f::Ak x.gE::p::q::(x.Data++e)).drop (4+x.Data.length)=e:=by rw[<- List.drop_drop,e1];simp
 rw[e1,e2,M.2];have e3:(x.Data++e).take x.Data.length=x.Data:=by simp
 rw[e3];show some ((⟨x.Flags,((Ak x.gE).toNat:Int),x.Data⟩:gL),e)=_;rw[Y]
def Td :∀(l acc:O gL),(∀x∈l,lW x)->Ph (DN l) acc=some (acc++l)
 | [],acc,_=>by rw[Xb1];rfl
 | x::t,acc,h=>by
  have F:=h x (by simp);obtain⟨f,r,H,J⟩ :∃f r,PY x++DN t=f::r/\Mr f r=some (x,DN t):=by
   rcases Xei 255 x.Data.length with q|q
   ·exact oJ F q _
   exact rR ⟨F.1,F.2.1,F.2.2.1,q⟩ _
  have e:DN (x::t)=PY x++DN t:=by unfold DN;rw[Xat]
  rw[e,H,V3,J];show Ph (DN t) (acc++[x])=_;rw[Td t _ λy K=>h y (X16 _ K),Xb9];rfl
def sk (x:gL):I:=x.gE !=14&&x.gE !=15
def vi {x:gL}(h:sk x=false):x.gE=14\/x.gE=15:=by unfold sk at h;simp only[Bool.and_eq_false_iff,bne_eq_false_iff_eq] at h;exact h
def Wu {x:gL}(h:sk x=false):Lb x.gE=false/\fl x.gE=0:=by rcases vi h with e|e<;>rw[e]<;>decide
def Tv :∀(l:O gL) (a:gH),MA a (l.filter sk)=MA a l
 | [],_=>rfl
 | x::t,a=>by
  rw[Xch];cases F:sk x with
  | true=>
   rw[Xa2 rfl];unfold MA;cases AR a x with
   | none=>rfl
   | some b=>exact Tv t b
  | false=>rw[Xa1 (by decide)];have H:AR a x=some a:=Xa2 (Wu F).2;show _=(AR a x).bind λJ=>MA J t;rw[H,Xby];exact Tv t a
def Xm {F:Type}{g:gL->O F}(hg :∀x,sk x=false->g x=[]) :∀l:O gL,(l.filter sk).flatMap g=l.flatMap g
 | []=>rfl
 | x::t=>by
  rw[Xch,Xat];cases H:sk x with
  | true=>rw[Xa2 rfl,Xat,Xm hg t]
  | false=>rw[Xa1 (by decide),hg x H,Xah,Xm hg t]
def uy {l:O gL}(J:K7 l):HX (l.filter sk)=HX l:=by
 have H:K7 (l.filter sk):=J.filter _;have K:(l.filter sk).any Rf=l.any Rf:=by
  rw[X25,Xeg,Xeg];constructor
  ·rintro⟨x,F,h⟩;exact⟨x,(Xb2.1 F).1,h⟩
  rintro⟨x,F,h⟩;refine⟨x,Xb2.2 ⟨F,?_⟩,h⟩;cases M:sk x with
  | true=>rfl
  | false=>unfold Rf at h;rw[(Wu M).1] at h;cases h
 have P:GN (l.filter sk)=GN l:=by
  unfold GN;congr 1;funext k;refine Xm (λx F=>?_) l;have:Jv x=false:=by unfold Jv;rw[(Wu F).1];rfl
  rw[this,Bool.and_false,Xa1 (by decide)]
 unfold HX;rw[Pi J,Pi H,K,Tv,P]
def mY (l:O gL)(x:gL):(G7 JT l x).Perm (x::l):=by unfold G7;refine List.perm_middle.trans ?_;rw[Xbn]
def He {p:gL->I}{l:O gL}{x:gL}(h:p x=false):(G7 JT l x).filter p=l.filter p:=by unfold G7;rw[Xbb,Xch,Xa1 (by rw[h];decide),<- Xbb,Xbn]
def L1 {p:gL->I}{l:O gL}{x:gL}(h:p x=true)(F:l.filter p=[]):(G7 JT l x).filter p=[x]:=by
 have H:(l.takeWhile (JT · x)).filter p++(l.dropWhile (JT · x)).filter p=[]:=by rw[<- Xbb,Xbn];exact F
 obtain⟨e1,e2⟩:=List.append_eq_nil_iff.1 H;unfold G7;rw[Xbb,Xch,Xa2 h,e1,e2];rfl
def Y4 {l:O gL}{x:gL}(H:K7 l)(F:DK l x.gE=[]):K7 (G7 JT l x):=by refine ((mY l x).pairwise_iff λh e=>h e.symm).2 (Xab.2 ⟨λy J e=>?_,H⟩);unfold DK at F;rw[Xcw] at F;exact F y J (by rw[Xbh];exact e.symm)
def Mf (u:zl):gL:=⟨128,14,[0,2,1,16]++Hc u.gH.Next++[0]++Ap true u.gF⟩
def LB (u:zl):gL:=⟨128,15,[0,2,1]++Ap true u.oB⟩
def gZ (u:zl):Jb u=if 0<(Ap true u.gF).length then G7 JT (zZ u) (Mf u) else zZ u:=rfl
def XD (u:zl):By u=if 0<(Ap true u.oB).length then G7 JT (Jb u) (LB u) else Jb u:=rfl
def MK {za:I} :∀{l:O fI},Ap za l=[]↔l.filter (λp=>p.Addr.V6==za)=[]
 | []=>by simp[Ap]
 | p::t=>by
  rw[JK,Xch];by_cases F:(p.Addr.V6==za)=true
  ·rw[Xa2 F,Xa2 F];unfold UC;simp
  rw[Xa1 F,Xa1 F,Xah];exact MK
def kW {za:I}{l:O fI}:0<(Ap za l).length↔l.filter (λp=>p.Addr.V6==za)≠[]:=by rw[Xbi,ne_eq,MK]
def N7 :∀(l:O fI),(l.filter λp=>p.Addr.V6==false).length+(l.filter λp=>p.Addr.V6==true).length=l.length
 | []=>rfl
 | p::t=>by
  have F:=N7 t;rw[Xch,Xch];cases p.Addr.V6
  ·simp only[Xcg,Xet,X3];rw[Xa1 (by decide)];omega
  simp only[Xcg,Xet,X3];rw[Xa1 (by decide)];omega
structure VB (u:zl):Prop where
 g:Pf u
 w:u.oB.length<=256
 n:u.gF.length<=256
 s :∀p∈u.gF,p.Addr.V6=u.gH.Next.V6
 o:u.gF≠[]->u.gH.o3≠-1/\u.gH.Next≠Mm
def OP {a:gH}(v:VA a){x:gL}(h:x∈Kc a):sk x=true/\(x.Flags=64\/x.Flags=128\/x.Flags=192\/x.Flags=224)/\0<=x.gE/\x.gE<=255:=by
 rcases (JY v.O).1 h with ⟨k,h⟩|h
 ·obtain⟨b,F,rfl⟩:=FT.1 h;rcases E2 k with ⟨e,f⟩|⟨e,f⟩|⟨e,f⟩|⟨e,f⟩|⟨e,f⟩|⟨e,f⟩|⟨e,f⟩|⟨e,f⟩|⟨_,_,_,_,_,_,_,_,f⟩;iterate 8
   ·subst e;unfold sk;dsimp only;rw[f];decide
  rw[PW f] at F;cases F
 obtain⟨H,M,P,J,_⟩:=DL v.O h;refine⟨?_,.inr (.inr (.inr J)),by omega,by omega⟩;cases K:sk x with
 | true=>rfl
 | false=>rw[(Wu K).1] at H;cases H
def sb {l:O gL}(h :∀x∈l,sk x=true):DK l 14=[]/\DK l 15=[]/\l.filter sk=l:=by
 refine⟨?_,?_,Xd0.2 h⟩
 ·unfold DK;rw[Xcw];intro x F q;have:=h x F;unfold sk at this;simp only[X24,Xf0] at this;exact this.1 (by simpa using q)
 unfold DK;rw[Xcw];intro x F q;have:=h x F;unfold sk at this;simp only[X24,Xf0] at this;exact this.2 (by simpa using q)
structure LstOK (u:zl):Prop where
 d:K7 (By u)
 b :∀x∈By u,lW x
 e14:DK (By u) 14=if 0<(Ap true u.gF).length then [Mf u] else []
 e15:DK (By u) 15=if 0<(Ap true u.oB).length then [LB u] else []
 f:(By u).filter sk=zZ u
 m :∀x∈zZ u,x∈By u
def QM {u:zl}(h:VB u):LstOK u:=by
 have g:=h.g;have a6:=Bj (za:=true) g.gw;have a7:=Bj (za:=true) g.ga;have hw:=h.w;have hn:=h.n;have h0:K7 (zZ u)/\(∀x∈zZ u,sk x=true/\lW x):=by
  unfold zZ;by_cases M:0<u.gF.length
  ·rw[Xa2 M];obtain⟨v,_,hd⟩:=g.a M;exact⟨XX v.O,λx F=>⟨(OP v F).1,(OP v F).2.1,(OP v F).2.2.1,(OP v F).2.2.2,by have:=hd x F;omega⟩⟩
  rw[Xa1 M];exact⟨.nil,λx F=>by cases F⟩
 obtain⟨U,b0⟩:=h0;obtain⟨J,P,V⟩:=sb λx F=>(b0 x F).1;have hL:0<(Ap true u.gF).length->(Hc u.gH.Next).length<=16:=by
  intro H;have M:0<u.gF.length:=by omega
  have:=(Io (g.a M).1.n).2;have:=(WK u.gH.Next).2;omega
 have h1:K7 (Jb u)/\(∀x∈Jb u,lW x)/\DK (Jb u) 14=(if 0<(Ap true u.gF).length then [Mf u] else [])/\DK (Jb u) 15=[]/\(Jb u).filter sk=zZ u/\∀x∈zZ u,x∈Jb u:=by
  rw[gZ];by_cases H:0<(Ap true u.gF).length
  ·rw[Xa2 H,Xa2 H];refine⟨Y4 U J,λx F=>?_,L1 rfl J,?_,?_,λx F=>D5.2 (.inl F)⟩
   ·rcases D5.1 F with F|rfl
    ·exact (b0 x F).2
    have:=hL H;refine⟨.inr (.inl rfl),show (0:Int)<=14 by decide,show (14:Int)<=255 by decide,?_⟩;unfold Mf;simp only[X2,X3,X10];omega
   ·exact (He (x:=Mf u) rfl).trans P
   exact (He (x:=Mf u) rfl).trans V
  rw[Xa1 H,Xa1 H];exact⟨U,λx F=>(b0 x F).2,J,P,V,λx F=>F⟩
 obtain⟨Y,b1,Q,K,Z,m1⟩:=h1;by_cases H:0<(Ap true u.oB).length
 ·have e:=(XD u).trans (Xa2 H);refine⟨?_,λx F=>?_,?_,?_,?_,λx F=>?_⟩
  ·rw[e];exact Y4 Y K
  ·rw[e] at F;rcases D5.1 F with F|rfl
   ·exact b1 x F
   refine⟨.inr (.inl rfl),show (0:Int)<=15 by decide,show (15:Int)<=255 by decide,?_⟩;unfold LB;simp only[X2,X3,X10];omega
  ·rw[e];exact (He (x:=LB u) rfl).trans Q
  ·rw[e,Xa2 H];exact L1 rfl K
  ·rw[e];exact (He (x:=LB u) rfl).trans Z
  rw[e];exact D5.2 (.inl (m1 x F))
 have e:=(XD u).trans (Xa1 H);exact⟨by rw[e];exact Y,by rw[e];exact b1,by rw[e];exact Q,by rw[e,Xa1 H];exact K,by rw[e];exact Z,by rw[e];exact m1⟩
def oW {u:zl}(h:VB u) :∃n,GK (By u)=some (n,u.gF.filter λp=>p.Addr.V6==true)/\(u.gF.filter (λp=>p.Addr.V6==true)≠[]->n=u.gH.Next/\u.gH.Next.V6=true):=by
 unfold GK;rw[(QM h).e14];by_cases J:0<(Ap true u.gF).length
 ·have F:=kW.1 J;have U:0<u.gF.length:=by
   rcases Nat.eq_zero_or_pos u.gF.length with q|q
   ·rw[Xag q] at F;exact absurd rfl F
   exact q
  obtain⟨p,V⟩:=Xcs _ F;obtain⟨Y,Z⟩:=Xb2.1 V;have P:u.gH.Next.V6=true:=by rw[<- h.s p Y];simpa using Z
  have v:=(h.g.a U).1;have Q:(Hc u.gH.Next).length=16:=by rw[(Io v.n).2,uK P];rfl
  rw[Xa2 J];refine⟨u.gH.Next,?_,λ_=>⟨rfl,P⟩⟩;show Fa (Mf u).Data=_;have H:(Mf u).Data=0::2::1::16::(Hc u.gH.Next++(0::Ap true u.gF)):=by unfold Mf;simp only[List.cons_append,Xah,Xb9]
  have K:(Mf u).Data.getD 20 0=0:=by rw[H,Xa8];show ((Hc u.gH.Next++(0::Ap true u.gF))[16]?).getD 0=0;rw[Xas (by omega),Q];rfl
  have M:(Mf u).Data.drop 21=Ap true u.gF:=by rw[H];show (Hc u.gH.Next++(0::Ap true u.gF)).drop 17=_;rw[List.drop_append,List.drop_of_length_le (by omega),Q,Xah];rfl
  have h4:((Mf u).Data.drop 4).take 16=Hc u.gH.Next:=by rw[H];show (Hc u.gH.Next++(0::Ap true u.gF)).take 16=_;rw[List.take_append_of_le_length (by omega),Xdh (by omega)]
  unfold Fa;rw[Xa2 ⟨by rw[H];rfl,by rw[H];simp only[X3,X2];omega,by rw[H];rfl,K⟩,M,h4,TM v.n,Iu h.g.ga,Xah];rfl
 rw[Xa1 J];have F:u.gF.filter (λp=>p.Addr.V6==true)=[]:=by apply MK.1;exact Xag (by omega)
 refine⟨Mm,?_,λq=>absurd F q⟩;rw[F]
def eK {u:zl}(h:VB u):DO (By u)=some (u.oB.filter λp=>p.Addr.V6==true):=by
 unfold DO;rw[(QM h).e15];by_cases F:0<(Ap true u.oB).length
 ·rw[Xa2 F];show FG (LB u).Data=_;unfold FG;rw[Xa2 (show R3 (LB u).Data=true from rfl)];show II true (Ap true u.oB) []=_;rw[Iu h.g.gw,Xah]
 rw[Xa1 F];have H:u.oB.filter (λp=>p.Addr.V6==true)=[]:=by apply MK.1;exact Xag (by omega)
 rw[H]
end Go.AX.Q33
end
