/-
  Texts of one proof, packed.
-/
import Derived.Test.YthbbpeeghmpcfaaGreatDoorR18
import Derived.Test.YthbbpeeghmpcfaaGreatDoorR19
import Derived.Test.YthbbpeeghmpcfaaGreatDoorR20
import Derived.KernelRfl
set_option linter.all false
set_option maxRecDepth 100000
set_option maxHeartbeats 4000000
open List renaming length_map→X1,length_append→X2,length_cons→X3,length_nil→X10,mem_singleton→X11,getElem?_eq_getElem→X12,getElem?_eq_some_iff→X13,length_drop→X14,length_take→X15,length_replicate→X17,length_set→X18,length_singleton→X19,mem_append→X20
open Option.some renaming injEq→X21,inj→X22
open Prod.mk renaming injEq→X23
open Bool renaming and_eq_true→X24,eq_iff_iff→X25
open Nat renaming add_mul→X29
open Option renaming bind→Xx
open Int renaming toNat→Xa0,fdiv→Xc4,tdiv→Xd7,tmod→Xes
open BitVec renaming ofInt→Xa3
open List renaming replicate→Xaa,cons→Xcj,toArray→Xe8
open UInt64 renaming ofNat→Xao
open ByteArray renaming mk→Xe7
open UInt8 renaming ofNat→Xbw
section
namespace Go.AX.Q33
open Go Go.AX
def Sm (l:O gL):Prop:=l.length<=1000000/\∀x∈l,x.Data.length<=1000000
def Rf (x:gL):I:=Lb x.gE&&bt x.Flags 128==0
def zA:gH:=⟨0,[],(⟨false,(0:j),(0:j)⟩:Addr),0,0,0,[],[],[]⟩
def eA:gH:=⟨(-1),[],(⟨false,(0:j),(0:j)⟩:Addr),(-1),(-1),(-1),[],[],[]⟩
def HX (l:O gL):gH×Int:=
 if (A8 l).any Rf=true then (zA,12) else match MA eA (A8 l) with
 | none=>(zA,13)
 | some a=>if (GN (A8 l)).length>8 then (zA,3) else ({ a with oE:=GN (A8 l) },0)
def lr (x:gL):DJ x=some (Rf x):=by unfold DJ Rf;rw[AB,IA,AA];show (if Lb x.gE=true then some (cond true (bt x.Flags 128==0) false) else some false)=_;cases Lb x.gE<;>rfl
def Zm (l:O gL):Ab l=some (l.any Rf):=
 tJ (f:=DJ) (q:=Rf) λx _=>lr x
def kM {l:O gL}(h:Sm l):Fit (A8 l) eA:=
 ⟨(FB l).1,λx F=>h.2 x ((FB l).2.1 x F),λ_ _ _=>rfl,λ_ _ _=>rfl,λ_ _ _=>rfl⟩
def OO (x:gL):O gL:=if Jv x=true then [conv x] else []
def Yh (x:gL):(OO x).length<=1:=by unfold OO;split<;>simp
def LG {α F:Type}{g:α->O F}(hg :∀x,(g x).length<=1) :∀l:O α,(l.flatMap g).length<=l.length
 | []=>by simp
 | x::t=>by rw[Xat,X2,X3];have:=LG hg t;have:=hg x;omega
def qo {l:O gL}{y:gL}:y∈l.flatMap OO ↔∃x∈l,Jv x=true/\y=conv x:=by
 rw[Xc9];constructor
 ·rintro⟨x,F,h⟩;unfold OO at h;split at h
  ·exact⟨x,F,‹_›,by simpa using h⟩
  simp at h
 rintro⟨x,F,H,rfl⟩;refine⟨x,F,?_⟩;unfold OO;rw[Xa2 H];simp
def lQ {l:O gL}(h:K7 l):(l.flatMap OO).Pairwise λa b=>K3 a≠K3 b:=by
 rw[Xe9];refine⟨λx _=>QP,h.imp λ{a b} J x F y H e=>?_⟩;unfold OO at F H;split at F
 ·split at H
  ·rw[X11] at F H;subst F H;exact J (by simpa[K3,conv] using e)
  simp at H
 simp at F
def pS (a b:gL):DI a b=some (Cd (K3 a) (K3 b)):=by unfold DI K3;rw[MQ,AA];unfold mH Cd Cd;rfl
def V7 {l:O gL}(h:K7 l)(M:l.length<=1000000):Gf DI (l.flatMap OO)=some (GN l):=by
 have F:=LG Yh l;obtain⟨r,J,H,K⟩:=Xv OD pS (l:=l.flatMap OO) (by omega);rw[J];congr 1;refine iP OD (jL OD K ?_) (PO h) λx=>?_
 ·exact (H.pairwise_iff λh e=>h e.symm).2 (lQ h)
 rw[H.mem_iff,qo,Vh]
def jp {l:O gL}(h:K7 l)(F:l.length<=1000000):(GN l).length=(l.flatMap OO).length:=by exact (Mc (V7 h F))
def zF {l:O gL}(hl:l.length<=1000000)(hz :∀x∈l,x.Data.length<=1000000){ρ:Type}{K:O gL->C ρ} : AL (σ:=O gL) K (λnext x _ v=>AC (τ:=I) (λF=>Xx (BP x.gE) λH=>if H=true then Xx (CE x.gE 1 255) λJ=>if (cond true J false)=true then if (cond true ((AG ((Xa3 64 x.Flags &&& Xa3 64 64).toNat:Int)) !=0) false)=true then F (cond true (decide ((x.Data.length:Int)<=255)) false) else F false else F false else F false ) λP=>AC (τ:=(O gL)) (λM=>if P=true then Xx (Bo x.Data) λQ=>Xx (gO (α:=gL) 40 v ([(⟨224,x.gE,Q⟩:gL)]:O gL)) λU=>M U else M v ) λV=>next V) l 0 []=K (l.flatMap OO):=by
 have Z:=LG Yh l;refine (jt (g:=OO) (N:=1000000) (by simp only[X10];omega) λnext x i v hx Y=>?_).trans (by rw[Xah]);have hc :∀k:I->C ρ,AC (τ:=I) (λF=>Xx (BP x.gE) λH=>if H=true then Xx (CE x.gE 1 255) λJ=>if (cond true J false)=true then if (cond true ((AG ((Xa3 64 x.Flags &&& Xa3 64 64).toNat:Int)) !=0) false)=true then F (cond true (decide ((x.Data.length:Int)<=255)) false) else F false else F false else F false ) k=k (Jv x):=by
  intro k;unfold Jv;have d1:(AG ((Xa3 64 x.Flags &&& Xa3 64 64).toNat:Int))=bt x.Flags 64:=rfl;have d2:decide ((x.Data.length:Int)<=255)=decide (x.Data.length<=255):=by rw[X25];simp;omega
  have d3:decide (1<=x.gE/\x.gE<=255)=(decide (1<=x.gE)&&decide (x.gE<=255)):=by rw[X25];simp
  rw[AB,IA,AA,jW,AA,d1,d2,d3];cases Lb x.gE<;>cases decide (1<=x.gE)<;>cases decide (x.gE<=255)<;>cases (bt x.Flags 64 !=0)<;>cases decide (x.Data.length<=255)<;>rfl
 rw[hc,AB];unfold OO at Y⊢;by_cases hk:Jv x=true
 ·rw[Xa2 hk] at Y;have:=hz x hx;simp only[X19] at Y;rw[Xa2 hk,Xa2 hk];unfold Bo;rw[AD (by decide) (by simp;omega),AA,AA,Xah,AD (by decide) (by simp;omega),AA];rfl
 rw[Xa1 hk,Xa1 hk,Xb1]
def Yu {l:O gL}(h:Sm l):D4 l=some (HX l):=by
 obtain⟨H,J⟩:=h;have K:=(FB l).2.2.2;have P:=(FB l).2.1;unfold D4 HX;rw[sA H,AA,Zm,AA];by_cases F:(A8 l).any Rf=true
 ·rw[Xa2 F,Xa2 F];rfl
 rw[Xa1 F,Xa1 F,AB,AB];rw[AB];refine (tG (A8 l) 0 eA (kM ⟨H,J⟩)).trans ?_;cases U:MA eA (A8 l) with
 | none=>rfl
 | some a=>
  show (if (!true)=true then _ else AC _ _)=_;rw[Xa1 (by decide),AB];refine (zF (l:=A8 l) (by omega) λx Q=>J x (P x Q)).trans ?_;have V:=jp (l:=A8 l) (FB l).1 (by omega);show (if decide (((List.flatMap OO (A8 l)).length:Int)>8)=true then _ else _)=_;by_cases M:(GN (A8 l)).length>8
  ·rw[Xa2 (by simp only[Xy];omega)];show _=some (if (GN (A8 l)).length>8 then _ else _);rw[Xa2 M];rfl
  rw[Xa1 (by simp only[Xy];omega),V7 (FB l).1 (by omega),AA];show _=some (if (GN (A8 l)).length>8 then _ else _);rw[Xa1 M]
def hd4 (x:S):I:=(((Ak ((Xa3 8 (x.toNat:Int) &&& Xa3 8 16).toNat:Int)).toNat:Int) !=0)
def Fs (x:S):Nat:=if hd4 x=true then 4 else 3
def flagsOf (x:S):Int:=((Ak ((Xa3 8 (x.toNat:Int) &&& Xa3 8 224).toNat:Int)).toNat:Int)
def sizeOf (b:O S)(h:Nat):Nat:=val ((b.drop 2).take (h-2))
def Mr (x:S)(t:O S):C (gL×O S):=
 if (x::t).length<Fs x\/(x::t).length-Fs x<sizeOf (x::t) (Fs x) then none else
  some (⟨flagsOf x,((t.headD 0).toNat:Int),((x::t).drop (Fs x)).take (sizeOf (x::t) (Fs x))⟩,(x::t).drop (Fs x+sizeOf (x::t) (Fs x)))
def Tl:Nat->O S->O gL->C (O gL)
 | _,[],acc=>some acc
 | n+1,x::t,acc=>match Mr x t with
  | none=>none
  | some (u,r)=>Tl n r (acc++[u])
 | 0,_::_,_=>none
def oD (x:S):Fs x=4\/Fs x=3:=by unfold Fs;split<;>simp
def W8 {x:S}{t:O S}{u:gL}{r:O S}(h:Mr x t=some (u,r)):r.length+3<=(x::t).length/\u.Data.length+r.length<=(x::t).length:=by
 unfold Mr at h;split at h
 ·cases h
 rename_i F;simp only[X21,X23] at h;obtain⟨rfl,rfl⟩:=h;have:=oD x;simp only[X14,X15,X3] at F⊢;omega
def W1 (n:Nat)(acc:O gL):Tl n [] acc=some acc:=by cases n<;>rfl
def aF :∀(n m:Nat) (b:O S) (acc:O gL),b.length<=n->b.length<=m->Tl n b acc=Tl m b acc
 | n,m,[],acc,_,_=>by rw[W1,W1]
 | n+1,m+1,x::t,acc,h1,F=>by
  simp only[Tl];cases h:Mr x t with
  | none=>rfl
  | some p=>obtain⟨u,r⟩:=p;have:=(W8 h).1;exact aF n m r _ (by omega) (by omega)
 | 0,_,_::_,_,h,_=>by simp at h
 | _,0,_::_,_,_,h=>by simp at h
def Ph (b:O S)(acc:O gL):C (O gL):=Tl b.length b acc
def V3 (x:S)(t:O S)(acc:O gL):Ph (x::t) acc=match Mr x t with|none=>none|some (u,r)=>Ph r (acc++[u]):=by
 unfold Ph;rw[X3];simp only[Tl];cases h:Mr x t with
 | none=>rfl
 | some p=>obtain⟨u,r⟩:=p;have:=(W8 h).1;simp only[X3] at this;exact aF _ _ r _ (by omega) (by omega)
def ml (b:O S):O gL×Int:=match Ph b [] with
 | none=>([],12)
 | some l=>(l,0)
def o5 {b:O S}{h:Nat}(F:h=4\/h=3)(J:h<=b.length):ET ((b.drop 2).take (h-2))=(sizeOf b h:Int)/\sizeOf b h<65536:=by
 unfold sizeOf;have H:((b.drop 2).take (h-2)).length=h-2:=by simp only[X15,X14];omega
 refine⟨Gw (by omega),?_⟩;have:=NX ((b.drop 2).take (h-2));rw[H] at this;rcases F with rfl|rfl
 ·exact this
 have K:(256:Nat)^(3-2)=256:=rfl;omega
def tj {b:O S}{h:Nat}(F:2<=h)(H:h<=b.length):part b 2 (h:Int)=some ((b.drop 2).take (h-2)):=Ds (l:=b) (a:=2) (b:=h) F H
def cF {b:O S}(Y:b.length<=1000000):Ef b=some (ml b):=by
 unfold Ef;rw[AB];refine (Bq (λs:O S×O gL=>s.1.length+s.2.length<=1000000) (λs=>s.1.length) (λs=>some (match Ph s.1 s.2 with|none=>([],12)|some l=>(l,0))) ?_ xv (b,[]) (by simpa using Y) (BE (by simp only;omega))).trans rfl;rintro next ⟨b,Z⟩ J M
 dsimp only at J⊢;match b,J,M with
 | [],_,_=>rfl
 | x::t,J,M=>
  have h0:gN (x::t) 0=some x:=Uu;have hN:=oD x;have H :∀K:Int->C (O gL×Int),AC (τ:=Int) (λU=>if (((Ak ((Xa3 8 (x.toNat:Int) &&& Xa3 8 16).toNat:Int)).toNat:Int) !=0)=true then U 4 else U 3) K=K (Fs x:Int):=by intro K;rw[AB];unfold Fs;show (if hd4 x=true then K 4 else K 3)=_;cases hd4 x<;>rfl
  rw[Xa2 (by simp),h0,AA,H,V3,AB];simp only[X3] at J;by_cases c1:(x::t).length<Fs x
  ·have:Mr x t=none:=by unfold Mr;rw[Xa2 (.inl c1)]
   rw[this,Xa2 (by simp only[Xy];omega)];rfl
  obtain⟨V,g2⟩:=o5 hN (by omega:Fs x<=(x::t).length);have hp:=tj (b:=x::t) (h:=Fs x) (by omega) (by omega);rw[Xa1 (by simp only[Xy];omega),hp,AA,CB,AA,V,AK (x:=((x::t).length:Int)-(Fs x:Int)) (by simp only[X3];omega)];by_cases c2:(x::t).length-Fs x<sizeOf (x::t) (Fs x)
  ·have:Mr x t=none:=by unfold Mr;rw[Xa2 (.inr c2)]
   have e:decide (((x::t).length:Int)-(Fs x:Int)<(sizeOf (x::t) (Fs x):Int))=true:=Xa4 (by omega);rw[this,e];rfl
  have hs:Mr x t=some (⟨flagsOf x,((t.headD 0).toNat:Int),((x::t).drop (Fs x)).take (sizeOf (x::t) (Fs x))⟩,(x::t).drop (Fs x+sizeOf (x::t) (Fs x))):=by unfold Mr;rw[Xa1 (λq=>q.elim c1 c2)]
  have e:decide (((x::t).length:Int)-(Fs x:Int)<(sizeOf (x::t) (Fs x):Int))=false:=Xa9 (by omega);obtain⟨y,F,rfl⟩ :∃y F,t=y::F:=by
   cases t with
   | nil=>simp at c1;omega
   | cons y F=>exact⟨y,F,rfl⟩
  simp only[X3] at J;have h1:gN (x::y::F) 1=some y:=Wj;rw[hs,e];show (if (cond false true false)=true then _ else _)=_;have P:part (x::y::F) (Fs x:Int) ((Fs x+sizeOf (x::y::F) (Fs x):Nat):Int)=some (((x::y::F).drop (Fs x)).take (sizeOf (x::y::F) (Fs x))):=by rw[Ds (by omega) (by omega)];congr 2;omega
  have Q:part (x::y::F) ((Fs x+sizeOf (x::y::F) (Fs x):Nat):Int) ((x::y::F).length:Int)=some ((x::y::F).drop (Fs x+sizeOf (x::y::F) (Fs x))):=Fo (by omega)
  rw[Xa1 (by decide),AA,CB,AA,V,AA,h1,AA,AK (by omega),show (Fs x:Int)+(sizeOf (x::y::F) (Fs x):Int)=((Fs x+sizeOf (x::y::F) (Fs x):Nat):Int) by omega,P,AA,
   AD (by decide) (by simp only[X10,X15,X14];omega),AA,AD (by decide) (by simp only[X19];omega),AA,Q,AA]
  exact M _ (by simp only[X2,X14,X3,X10];omega) (by simp only[X14,X3];omega)
def YK :∀(n:Nat) (b:O S) (acc l:O gL) (N:Nat),Tl n b acc=some l->(∀u∈acc,u.Data.length<=N)->b.length<=N->(l.length<=acc.length+b.length/\∀u∈l,u.Data.length<=N)
 | n,[],acc,l,N,h,H,_=>by rw[W1] at h;obtain rfl:=X22 h;exact⟨by simp,H⟩
 | n+1,x::t,acc,l,N,h,H,M=>by
  simp only[Tl] at h;cases J:Mr x t with
  | none=>rw[J] at h;cases h
  | some p=>
   obtain⟨u,r⟩:=p;rw[J] at h;have P:=W8 J
   have K:=YK n r (acc++[u]) l N h (λw F=>by
    rcases X20.1 F with F|F
    ·exact H w F
    rw[X11] at F;subst F
    omega) (by omega)
   refine⟨?_,K.2⟩;have:=K.1;simp only[X2,X19] at this;omega
 | 0,_::_,_,_,_,h,_,_=>by cases h
def Yn {b:O S}(F:b.length<=400000){l:O gL}(h:Ph b []=some l):l.length<=400000/\∀u∈l,u.Data.length<=400000:=by have:=YK _ _ _ _ 400000 h (by simp) F;simp only[X10] at this;exact⟨by omega,this.2⟩
instance (a0:Addr):Tt (Bw a0):=by unfold Bw;exact Tt.Bx
instance (a0:Addr):Tt (CP a0):=by unfold CP;exact Tt.Bx
instance (a0:O S):Tt (BL a0):=by unfold BL;exact Tt.Bx
instance (a0:Int):Tt (BH a0):=by unfold BH;exact Tt.Bx
instance (a0:Int):Tt (C6 a0):=by unfold C6;exact Tt.Bx
instance (a0:oF):Tt (Et a0):=by unfold Et;exact Tt.Bx
instance (a0:oF) (a1:oF):Tt (GG a0 a1):=by unfold GG;exact Tt.Bx
instance (a0:iX):Tt (B5 a0):=by unfold B5;exact Tt.Bx
instance (a0:iX) (a1:iX):Tt (CX a0 a1):=by unfold CX;exact Tt.Bx
instance (a0:O oF) (a1:oF):Tt (FN a0 a1):=by unfold FN;exact Tt.Bx
instance (a0:O iX) (a1:iX):Tt (BX a0 a1):=by unfold BX;exact Tt.Bx
instance:Tt (Dl):=by unfold Dl;exact Tt.Bx
instance (a0:O oF) (a1:O oF):Tt (ES a0 a1):=by unfold ES;exact Tt.Bx
instance (a0:O iX) (a1:O iX):Tt (Ba a0 a1):=by unfold Ba;exact Tt.Bx
instance (a0:O gL) (a1:O gL):Tt (Bh a0 a1):=by unfold Bh;exact Tt.Bx
instance (a0:Addr):Tt (CG a0):=by unfold CG;exact Tt.Bx
instance (a0:Int):Tt (FS a0):=by unfold FS;exact Tt.Bx
instance (a0:Addr) (a1:Int):Tt (EP a0 a1):=by unfold EP;exact Tt.Bx
def cJ {a k:Nat}(J:a<2^64)(K:k<=64):(Xa3 64 (a:Int) &&& ~~~Xa3 64 ((2^k-1:Nat):Int)).toNat=a/2^k*2^k:=by
 apply Nat.eq_of_testBit_eq;intro i;rw[Xct,Xct,BitVec.testBit_toNat];simp only[BitVec.getLsbD_and,BitVec.getLsbD_not,BitVec.getLsbD_ofNat,Nat.testBit_mul_two_pow,Nat.testBit_div_two_pow,Nat.testBit_two_pow_sub_one];by_cases H:i<64
 ·by_cases F:k<=i
  ·simp[H,F,Nat.not_lt.2 F]
  simp[H,F,Xbs F]
 have:a.testBit i=false:=Nat.testBit_lt_two_pow (Xb4 J (Xdc (by omega) (by omega)));by_cases F:k<=i
 ·simp[H,F,this]
 omega
def DD (n:Nat):AZ (n:Int)=Xao n:=by unfold AZ;apply Xcp.1;simp only[Xar];omega
def Addr.n (a:Addr):Nat:=a.Hi.toNat*2^64+a.Lo.toNat
def Addr.w (a:Addr):Nat:=if a.V6 then 128 else 32
def Addr.ok (a:Addr):I:=cond a.V6 true (cond ((a.Hi.toNat:Int)==0) (decide ((a.Lo.toNat:Int)<4294967296)) false)
def L7 (F:I)(n:Nat):Addr:=⟨F,Xao (n/2^64),Xao n⟩
def Addr.cut (a:Addr)(n:Nat):Addr:=L7 a.V6 (a.n/2^(a.w-n)*2^(a.w-n))
def pI (b:I)(m:Nat):(L7 b m).V6=b:=by unfold L7;rfl
def xx (h l k:Nat)(F:l<2^64)(H:k<=64):(h*2^64+l)/2^k*2^k=h*2^64+l/2^k*2^k:=by
 have:(2:Nat)^64=2^(64-k)*2^k:=by rw[<- Nat.pow_add];congr 1;omega
 rw[this,<- Nat.mul_assoc,Xdj,Nat.add_mul_div_right _ _ (Xea k),X29,Xdj]
def tl:AZ (((0:Nat):Int)-1)=Xao 18446744073709551615:=by unfold AZ;congr 1
def vU {k:Nat}(J:k<64):AZ (((Xao (2^k)).toNat:Int)-1)=Xao (2^k-1):=by
  have K:(2:Nat)^k<2^64:=Nat.pow_lt_pow_right (by omega) (by omega);have M:0<(2:Nat)^k:=Xea k;have F:(Xao (2^k)).toNat=2^k:=by simp only[Xar];omega
  rw[F];have H:((2^k:Nat):Int)-1=((2^k-1:Nat):Int):=by omega
  rw[H,DD]
def uv:AZ (((Xao (2^64)).toNat:Int)-1)=Xao (2^64-1):=by
  have F:(Xao (2^64)).toNat=0:=by simp only[Xar,Nat.mod_self]
  rw[F];exact tl
def vC {k:Nat}(F:k<=64):AZ (1*(2^(min (Xa0 ((AZ (k:Int)).toNat:Int)) 64)))=Xao (2^k):=by
 rw[DD];have H:(Xao k).toNat=k:=by simp;omega
 rw[H,Xax,Xem F,Int.one_mul];have J:((2:Int)^k)=((2^k:Nat):Int):=by simp
 rw[J,DD]
def YM {k:Nat}(F:k<=64):AZ (((AZ (1*(2^(min (Xa0 ((AZ (k:Int)).toNat:Int)) 64)))).toNat:Int)-1)=Xao (2^k-1):=by
 rw[vC F];rcases Nat.lt_or_eq_of_le F with h|h
 ·exact vU h
 rw[h];exact uv
def N8 {x:j}{k:Nat}(F:k<=64):AZ ((Xa3 64 (x.toNat:Int) &&& ~~~Xa3 64 ((Xao (2^k-1)).toNat:Int)).toNat:Int)=Xao (x.toNat/2^k*2^k):=by
 have h:(Xao (2^k-1)).toNat=2^k-1:=by have:(2:Nat)^k<=2^64:=Xdc (by omega) F;have H:0<(2:Nat)^k:=Xea k;simp only[Xar];omega
 rw[h,cJ x.toNat_lt F,DD]
def Rt (a:Addr){n:Nat}(hn:n<=a.w):EP a (n:Int)=some (a.cut n):=by
 have Q:CG a=some (a.w:Int):=by unfold CG Addr.w;split<;>rfl
 have J:AG ((a.w:Int)-(n:Int))=((a.w-n:Nat):Int):=by
  have:a.w<=128:=by unfold Addr.w;split<;>omega
  rw[AK (by omega)];omega
 have H:=a.Lo.toNat_lt;have U:=a.Hi.toNat_lt;unfold EP;rw[Q,AA,J];have K:a.w-n<=128:=by unfold Addr.w;split<;>omega
 generalize hk:a.w-n=k at *;unfold FS;by_cases V:k>64
 ·rw[Xa2 (by simp;omega),AA];have e:AG ((k:Int)-64)=((k-64:Nat):Int):=by rw[AK (by omega)];omega
  rw[e,YM (by omega)];simp only[N8 (show k-64<=64 by omega)];have M:(18446744073709551615:j)=Xao (2^64-1):=rfl;rw[M,N8 (Xak 64)];have P:a.Lo.toNat/2^64=0:=Xee H;unfold Addr.cut L7 Addr.n;rw[hk];have F:(2:Nat)^k=2^64*2^(k-64):=by rw[<- Nat.pow_add];congr 1;omega
  have Y:(a.Hi.toNat*2^64+a.Lo.toNat)/2^k=a.Hi.toNat/2^(k-64):=by rw[F,<- Nat.div_div_eq_div_mul,Xdj,Nat.add_mul_div_right _ _ (Xea 64),P,Xbc]
  rw[Y];have Z:a.Hi.toNat/2^(k-64)*2^k=a.Hi.toNat/2^(k-64)*2^(k-64)*2^64:=by rw[F,Xc6 (2^64),Nat.mul_assoc]
  rw[Z,Nat.mul_div_cancel _ (Xea 64),P];have e0:Xao (a.Hi.toNat/2^(k-64)*2^(k-64)*2^64)=Xao 0:=by apply Xcp.1;simp only[Xar,Nat.mul_mod_left,Nat.zero_mod]
  rw[e0,Nat.zero_mul]
 rw[Xa1 (by simp;omega),AA,YM (by omega)];simp only[N8 (show k<=64 by omega)];have M:(0:j)=Xao (2^0-1):=rfl;rw[M,N8 (Xef 64)];unfold Addr.cut L7 Addr.n;rw[hk,xx _ _ _ H (by omega)];have a6:a.Lo.toNat/2^k*2^k<2^64:=Nat.lt_of_le_of_lt (Nat.div_mul_le_self _ _) H;have e1:Xao (a.Hi.toNat/2^0*2^0)=Xao ((a.Hi.toNat*2^64+a.Lo.toNat/2^k*2^k)/2^64):=by congr 1;omega
 have e2:Xao (a.Lo.toNat/2^k*2^k)=Xao (a.Hi.toNat*2^64+a.Lo.toNat/2^k*2^k):=by apply Xcp.1;simp only[Xar];omega
 rw[e1,e2]
def Bd (n:Nat):Ak (n:Int)=Xbw n:=by unfold Ak;apply UInt8.toNat_inj.1;simp only[Xam];omega
def Addr.L (a:Addr):Nat:=if a.V6 then 16 else 4
def Og (a:Addr)(k:Nat):S:=Xbw (a.n/2^(8*k))
def EE (a:Addr):Bw a=some a.ok:=by unfold Bw Addr.ok;rw[AB];generalize ((a.Hi.toNat:Int)==0)=x;generalize decide ((a.Lo.toNat:Int)<4294967296)=y;generalize a.V6=z;cases z<;>cases x<;>rfl
def ce {w:j}{k:Nat}(M:k<8) : Ak ((AZ (Xc4 (w.toNat:Int) (2^(min (Xa0 ((AZ (8*((AZ (k:Int)).toNat:Int))).toNat:Int)) 64)))).toNat:Int)=Xbw (w.toNat/2^(8*k)):=by
 have F:(AZ (k:Int)).toNat=k:=by rw[DD];simp;omega
 have H:(AZ (8*((AZ (k:Int)).toNat:Int))).toNat=8*k:=by
  rw[F];have:(8*(k:Int))=((8*k:Nat):Int):=by omega
  rw[this,DD];simp;omega
 have J:Xc4 (w.toNat:Int) ((2:Int)^(8*k))=((w.toNat/2^(8*k):Nat):Int):=by
  have:((2:Int)^(8*k))=((2^(8*k):Nat):Int):=by simp
  rw[this,Xc8 _ (Xdf _),Int.natCast_ediv]
 rw[H,Xax,Xem (by omega),J,DD,Bd];have:(Xao (w.toNat/2^(8*k))).toNat=w.toNat/2^(8*k):=by have K:w.toNat/2^(8*k)<2^64:=Nat.lt_of_le_of_lt (Nat.div_le_self _ _) w.toNat_lt;rw[Xar,Xbf K]
 rw[this]
def Xi {a b:Nat}(h:a%256=b%256):Xbw a=Xbw b:=by apply UInt8.toNat_inj.1;simp only[Xam];exact h
def W3 {a:Addr}{k:Nat}(J:k<16)(K:a.ok=true)(M:a.V6=false->k<4) : Xbw ((if k≥8 then a.Hi else a.Lo).toNat/2^(8*(k%8)))=Og a k:=by
 unfold Og Addr.n;have F:=a.Lo.toNat_lt;by_cases H:k≥8
 ·rw[Xa2 H];have e:8*k=64+8*(k%8):=by omega
  rw[e,Nat.pow_add,<- Nat.div_div_eq_div_mul,Xdj (a.Hi.toNat*2^64),Nat.add_mul_div_right _ _ (Xea 64),Xee F,Xbc]
 rw[Xa1 H];have e:k%8=k:=Xbf (by omega);rw[e];apply Xi;have e2:(2:Nat)^64=2^(8*k)*2^(64-8*k):=by rw[<- Nat.pow_add];congr 1;omega
 have e3:(2:Nat)^(64-8*k)=256*2^(56-8*k):=by have:(256:Nat)=2^8:=rfl;rw[this,<- Nat.pow_add];congr 1;omega
 have e4:a.Hi.toNat*2^64=a.Hi.toNat*2^(56-8*k)*256*2^(8*k):=by rw[e2,e3,Nat.mul_assoc,Nat.mul_assoc];congr 1;rw[Xc6 (2^(56-8*k)),Xc6 (2^(8*k))];rw[Nat.mul_assoc,Xc6 (2^(56-8*k)),Nat.mul_assoc]
 rw[e4,Xdj,Nat.add_mul_div_right _ _ (Xea _),Nat.add_mul_mod_self_right]
def I9 {a:Addr}(U:a.ok=true):Ok (BJ a) λl=>l.length=a.L/\∀j,j<a.L->l[j]?=some (Og a (a.L-1-j)):=by
 unfold BJ;rw[EE,AA,U];refine .ite (λh=>by simp at h) λ_=>?_;refine .join (λn:Int=>n=a.L) (λk K=>.ite (λh=>K _ (by unfold Addr.L;rw[Xa2 h];rfl)) λh=>K _ (by unfold Addr.L;rw[Xa1 h];rfl)) λn M=>?_;have hL:a.L=16\/a.L=4:=by unfold Addr.L;split<;>simp
 subst M;refine .join (λl:O S=>l.length=a.L/\∀j,j<a.L->l[j]?=some (Og a (a.L-1-j))) (λk K=>?_) λl Y=>.ret Y;refine .Dr (λs:Int×O S=>-1<=s.1/\s.1=a.L-1-s.2.length/\∀j,j<s.2.length->s.2[j]?=some (Og a (a.L-1-j))) (λs=>(s.1+1).toNat) ?_ ?_ ?_
 ·rw[AK (by omega)];simp;omega
 ·rw[AK (by omega)];exact BE (by omega)
 rintro next ⟨p,l⟩ ⟨Z,P,Q⟩ M
 simp only at Z P Q;refine .ite (λh=>?_) λh=>K _ ⟨by simp at h;omega,λj V=>Q j (by simp at h;omega)⟩;simp only[Xy] at h;obtain⟨k,rfl⟩ :∃k:Nat,p=k:=⟨p.toNat,by omega⟩;refine .join (λw:UInt64=>w=if k≥8 then a.Hi else a.Lo) (λk' F=>.ite (λh=>F _ (by rw[Xa2 (by simp at h;omega)]) ) λh=>F _ (by rw[Xa1 (by simp at h;omega)])) λw hw=>?_;refine .bind (Ok.gO (by decide) (by simp;omega)) λl' H=>?_;have hb:k<16:=by omega
 have ht:Xes (k:Int) 8=((k%8:Nat):Int):=by rw[Int.tmod_eq_emod_of_nonneg (by omega)];omega
 rw[ht,ce (Xeu _ (by omega)),hw,W3 hb U (λh4=>by unfold Addr.L at P;simp[h4] at P;omega)] at H;subst H;rw[AK (by omega)];refine M _ ⟨by simp only;omega,by simp;omega,λj V=>?_⟩ (by simp only;omega);simp only[X2,X19] at V;by_cases J:j<l.length
 ·simp only;rw[Xaf J];exact Q j J
 have:j=l.length:=by omega
 subst this;simp only[Xas (Xak _),Nat.sub_self,List.getElem?_cons_zero];congr 2;omega
def Xb {u v:Nat}(K:u<2^64)(M:v<256):AZ ((Xa3 64 ((AZ ((u:Int)*(2^(min (Xa0 8) 64)))).toNat:Int) ||| Xa3 64 ((AZ (v:Int)).toNat:Int)).toNat:Int)=Xao (u*256+v):=by
 have F:((u:Int)*(2^(min (Xa0 8) 64)))=((u*256:Nat):Int):=by have:min (Xa0 8) 64=8:=rfl;rw[this];omega
 rw[F,DD,DD,DD];have H:(Xao v).toNat=v:=by simp only[Xar];omega
 have J:(Xao (u*256)).toNat=2^8*(u%2^56):=by simp only[Xar];omega
 rw[H,J,Xct,Xct,BitVec.toNat_or,BitVec.toNat_ofNat,BitVec.toNat_ofNat,Xbf (show 2^8*(u%2^56)<2^64 by omega),Xbf (show v<2^64 by omega), ← Nat.two_pow_add_eq_or_of_lt (show v<2^8 by omega)];apply Xcp.1;simp only[Xar];omega
def Is {l:O S}(Q:l.length=4\/l.length=16):Ok (BL l) λr=>r=(L7 (l.length==16) (val l%2^128),0):=by
 unfold BL;refine .join (λb=>b=false) (λk F=>.ite (λh=>F _ ?_) λ_=>F _ rfl) λb U=>?_
 ·rcases Q with M|M<;>simp[M] at h⊢
 subst U;refine .ite (λh=>by simp at h) λ_=>?_;refine .join (λa=>a=L7 (l.length==16) (val l%2^128)) (λk F=>?_) λa V=>.ret (by rw[V]);refine .Gd (λi s=>s=L7 (l.length==16) (val (l.take i)%2^128)) ?_ (λs Y=>F _ (by rw[Y,Xd3])) ?_
 ·have:((l.length:Int)==16)=(l.length==16):=by rw[X25];simp only[Xbh];omega
  rw[this,List.take_zero];have e0:val []%2^128=0:=by simp[val]
  rw[e0];unfold L7;rfl
 rintro next x i s P rfl Z
 refine Z _ ?_;have a6:=(X13.1 P).1;have ht:l.take (i+1)=l.take i++[x]:=by rw[Xbr,P];rfl
 rw[ht,OM];generalize val (l.take i)=m;have H:=x.toNat_lt;have J:(L7 (l.length==16) (m%2^128)).Lo.toNat=m%2^64:=by unfold L7;simp only[Xar];omega
 have K:(L7 (l.length==16) (m%2^128)).Hi.toNat=m/2^64%2^64:=by unfold L7;simp only[Xar];omega
 have h1:=Xb (u:=m%2^64) (v:=x.toNat) (by omega) H;have h2:=Xb (u:=m/2^64%2^64) (v:=m%2^64/2^56) (by omega) (by omega);have h3:Xc4 ((m%2^64:Nat):Int) (2^(min (Xa0 56) 64))=((m%2^64/2^56:Nat):Int):=by
  have:min (Xa0 56) 64=56:=rfl;have e5:((2:Int)^56)=((2^56:Nat):Int):=by simp
  rw[this,e5,Xc8 _ (Xdf _),Int.natCast_ediv]
 rw[J,K,h3,h1,h2,pI];unfold L7;have e1:Xao (m/2^64%2^64*256+m%2^64/2^56)=Xao ((m*256+x.toNat)%2^128/2^64):=by apply Xcp.1;simp only[Xar];omega
 have e2:Xao (m%2^64*256+x.toNat)=Xao ((m*256+x.toNat)%2^128):=by apply Xcp.1;simp only[Xar];omega
 rw[e1,e2]
def Qu :∀(l:O S) (q:Nat),(val l).testBit q=if q<8*l.length then (l.getD (l.length-1-q/8) 0).toNat.testBit (q%8) else false:=by
 intro l;induction h:l.length generalizing l with
 | zero=>intro q;have:l=[]:=Xag h;subst this;simp[val]
 | succ n P=>
  intro q;obtain⟨F,x,rfl⟩ :∃F x,l=F++[x]:=by
   rcases List.eq_nil_or_concat l with H|⟨F,x,H⟩
   ·subst H;simp at h
   exact⟨F,x,by simpa using H⟩
  have J:F.length=n:=by simpa using h
  rw[OM,Xc6,show (256:Nat)=2^8 from rfl,Nat.testBit_two_pow_mul_add _ (show x.toNat<2^8 from x.toNat_lt)];by_cases K:q<8
  ·rw[Xa2 K,Xa2 (by omega)];have e1:n+1-1-q/8=F.length:=by omega
   rw[e1,Xbf K];simp[Xa8]
  rw[Xa1 K,P F J];by_cases M:q-8<8*n
  ·rw[Xa2 M,Xa2 (by omega)];have e1:n-1-(q-8)/8=n+1-1-q/8:=by omega
   have e2:(q-8)%8=q%8:=by omega
   rw[e1,e2,Xa8,Xa8,Xaf (by omega)]
  rw[Xa1 M,Xa1 (by omega)]
def kK {x:S}{r:Nat}(P:r<8){s:Nat}(F:s<8) : (Ak ((Xa3 8 (x.toNat:Int) &&& ~~~Xa3 8 ((Ak (Xc4 128 (2^(min (Xa0 ((AZ (r:Int)).toNat:Int)) 8)))).toNat:Int)).toNat:Int)).toNat.testBit s=(x.toNat.testBit s&&!decide (7-r=s)):=by
 have H:(AZ (r:Int)).toNat=r:=by rw[DD];simp;omega
 have J:Xc4 128 ((2:Int)^r)=((2^(7-r):Nat):Int):=by
  have e1:((2:Int)^r)=((2^r:Nat):Int):=by simp
  have e2:(128:Int)=((128:Nat):Int):=rfl;rw[e1,e2,Xc8 _ (Xdf _),<- Int.natCast_ediv];congr 1;have e3:(128:Nat)=2^(7-r)*2^r:=by rw[<- Nat.pow_add,show 7-r+r=7 by omega]
  rw[e3,Nat.mul_div_cancel _ (Xea r)]
 rw[H,Xax,Xem (by omega),J,Bd,Bd,Xct,Xct];have K:2^(7-r)<256:=Nat.lt_of_le_of_lt (Xdc (by omega) (show 7-r<=7 by omega)) (by decide);have M:(Xbw (2^(7-r))).toNat=2^(7-r):=by simp only[Xam];exact Xbf K
 rw[M,Xam,Nat.testBit_mod_two_pow,BitVec.testBit_toNat];simp only[BitVec.getLsbD_and,BitVec.getLsbD_not,BitVec.getLsbD_ofNat,F,Xf3,Xco,Nat.testBit_two_pow]
def Addr.Tb (a:Addr){n q:Nat}(F:n<=a.w):(a.n/2^(a.w-n)*2^(a.w-n)).testBit q=(a.n.testBit q&&decide (a.w-n<=q)):=by
 rw[Nat.testBit_mul_two_pow,Nat.testBit_div_two_pow];by_cases h:a.w-n<=q
 ·simp[h]
 simp[h]
def oO {b c:I}(h:cond b c false=true):b=true/\c=true:=by cases b<;>simp at h⊢;exact h
def Addr.ok4 {a:Addr}(F:a.ok=true)(K:a.V6=false):a.Hi.toNat=0/\a.Lo.toNat<2^32:=by unfold Addr.ok at F;rw[K] at F;obtain⟨H,J⟩:=oO F;have J:=of_decide_eq_true J;have H:=eq_of_beq H;omega
def Addr.Tg {a:Addr}(J:a.ok=true):a.n<2^a.w:=by
 have Q:=a.Lo.toNat_lt;have U:=a.Hi.toNat_lt;cases F:a.V6
 ·obtain⟨K,M⟩:=Addr.ok4 J F;have H:a.w=32:=by unfold Addr.w;rw[F];rfl
  have P:a.n=a.Lo.toNat:=by unfold Addr.n;rw[K,Nat.zero_mul,Xbc]
  rw[H,P];exact M
 have H:a.w=128:=by unfold Addr.w;rw[F];rfl
 rw[H];unfold Addr.n;omega
def U1 {a:Addr}{n:Nat}(U:a.ok=true)(hn:n<=a.w):Ok (DW a (n:Int)) λr=>r=(⟨a.cut n,n⟩,0):=by
 have hw:a.w=8*a.L:=by unfold Addr.w Addr.L;split<;>rfl
 have hL:a.L=16\/a.L=4:=by unfold Addr.L;split<;>simp
 unfold DW;rw[EE,AA,U];refine .ite (λh=>by simp at h) λ_=>?_;have J:CP a=some (a.w:Int):=by unfold CP Addr.w;split<;>rfl
 refine .join (λb=>b=false) (λk hk=>.ite (λh=>by simp at h;omega) λ_=>?_) λb V=>?_
 ·rw[J,AA];refine hk _ ?_;simp only[Xc2,Xav];omega
 subst V;refine .ite (λh=>by simp at h) λ_=>?_;refine .bind (I9 U) λl hl=>?_;refine .join (λl:O S=>l.length=a.L/\val l=a.n/2^(a.w-n)*2^(a.w-n)) (λk hk=>?_) λY F=>?_
 ·refine .Dr (λs:Int×O S=>∃P:Nat,s.1=P/\n<=P/\P<=8*a.L/\s.2.length=a.L/\∀q,q<8*a.L->(s.2.getD (a.L-1-q/8) 0).toNat.testBit (q%8)=(a.n.testBit q&&!decide (8*a.L-P<=q/\q<8*a.L-n)))
   (λs=>(8*a.L-s.1).toNat) ⟨n,rfl,Xak _,by omega,hl.1,λq H=>?_⟩ (BE (by simp only;omega)) ?_
  ·have Z:a.L-1-q/8<a.L:=by omega
   have h2:=hl.2 _ Z;have h3:a.L-1-(a.L-1-q/8)=q/8:=by omega
   have K:¬ (8*a.L-n<=q/\q<8*a.L-n):=by omega
   rw[Xa8,h2,h3];simp only[Xaz,K,decide_false,Bool.not_false,Xd8];unfold Og;rw[Xam,Nat.testBit_mod_two_pow,Nat.testBit_div_two_pow,Nat.mod_add_div];simp[Xeu]
  rintro next ⟨p,l⟩ ⟨P,Z,h2,h3,K,h5⟩ a6
  simp only at Z K h5;subst Z;have e8:AG (8*(l.length:Int))=((8*a.L:Nat):Int):=by rw[AK (by omega)];omega
  refine .ite (λh=>?_) λh=>hk _ ?_
  ·rw[e8] at h;simp only[Xy] at h;have ed:AG (Xd7 (P:Int) 8)=((P/8:Nat):Int):=by rw[Int.tdiv_eq_ediv_of_nonneg (by omega),AK (by omega)];omega
   have et:Xes (P:Int) 8=((P%8:Nat):Int):=by rw[Int.tmod_eq_emod_of_nonneg (by omega)];omega
   have M:P/8<l.length:=by omega
   rw[ed,Ae M,AA,AA];refine .bind (Ok.Bu (by omega)) λY F=>?_;rw[Xax,et] at F;rw[AK (by omega)];refine a6 _ ⟨P+1,by simp only;omega,by omega,by omega,by simp only;omega,λq H=>?_⟩ (by simp only;omega);simp only;rw[F.1];by_cases V:a.L-1-q/8=P/8
   ·have Q:=h5 q H;rw[V,Xa8,X12 M,Xaz] at Q;rw[V,Xa8,Xe0 (by omega),Xaz,kK (Xeu _ (by omega)) (Xeu _ (by omega)),Q,Bool.and_assoc];congr 1;rw[X25];simp only[X24,Xbd,Xav];omega
   have Q:=h5 q H;rw[Xa8] at Q;rw[Xa8,Xds (by omega),Q];congr 2;rw[Xdw];omega
  rw[e8] at h;simp only[Xy] at h;have hP:P=8*a.L:=by omega
  subst hP;refine⟨K,?_⟩;apply Nat.eq_of_testBit_eq;intro q;rw[Qu,a.Tb hn,K];by_cases H:q<8*a.L
  ·rw[Xa2 H,h5 q H];congr 1;rw[X25];simp only[Xbd,Xav,Xy];omega
  rw[Xa1 H];have:a.n.testBit q=false:=Nat.testBit_lt_two_pow (Xb4 (Addr.Tg U) (Xdc (by omega) (by omega)));rw[this,Bool.false_and]
 refine .bind (Is (by omega)) λr hr=>?_;subst hr;refine .ret ?_;have e1:(Y.length==16)=a.V6:=by rw[F.1];unfold Addr.L;cases a.V6<;>rfl
 have e2:val Y%2^128=val Y:=by refine Xbf ?_;rw[F.2];exact Nat.lt_of_le_of_lt (Nat.div_mul_le_self _ _) (Xb4 (Addr.Tg U) (Xdc (by omega) (by rw[hw];omega)))
 rw[e1,e2,F.2,Addr.cut]
def SN {a:Addr}{n:Int}(K:¬ (a.ok=true/\0<=n/\n<=a.w)):Ok (DW a n) λr=>r.2≠0:=by
 have F:CP a=some (a.w:Int):=by unfold CP Addr.w;split<;>rfl
 unfold DW;rw[EE,AA];refine .ite (λ_=>.ret (by decide)) λH=>?_;have H:a.ok=true:=by simpa using H
 refine .join (λb=>b=true) (λk J=>.ite (λ_=>J _ rfl) λh=>?_) λb M=>?_
 ·rw[F,AA];refine J _ ?_;show decide (n>(a.w:Int))=true;simp at h⊢;have:¬ (0<=n/\n<=a.w):=λq=>K ⟨H,q⟩;omega
 subst M;exact .ite (λ_=>.ret (by decide)) λh=>absurd rfl h
def Hf (a:Addr)(n:Int) :∃r e,DW a n=some (r,e)/\((a.ok=true/\0<=n/\n<=a.w)/\e=0/\r=⟨a.cut n.toNat,n⟩\/¬ (a.ok=true/\0<=n/\n<=a.w)/\e≠0):=by
 by_cases h:a.ok=true/\0<=n/\n<=a.w
 ·obtain⟨k,rfl⟩ :∃k:Nat,n=k:=⟨n.toNat,by omega⟩;obtain⟨r,F,H⟩:=U1 h.1 (n:=k) (by omega);exact⟨_,_,by rw[F,H],.inl ⟨h,rfl,by rw[Xax]⟩⟩
 obtain⟨r,F,H⟩:=SN h;exact⟨r.1,r.2,F,.inr ⟨h,H⟩⟩
instance (a:Addr) (n:Int):Tt (DW a n):=by obtain⟨r,e,h,_⟩:=Hf a n;exact⟨_,h⟩
def inB (p:fI)(x:Addr):I:=decide (0<=p.zk/\p.zk<=x.w)&&Addr.zn (x.cut p.zk.toNat) p.Addr
instance (p:fI):Tt (Am p):=by unfold Am;exact Tt.Bx
def Pq {i n:Nat}(h:i<n)(H:n<=1000000000)(F:¬ (((i:Int)==0)=true)):0<=AG ((i:Int)-1)/\AG ((i:Int)-1)<(n:Int):=by
 have:i≠0:=by intro e;subst e;simp at F
 rw[AK (by omega)];omega
def Ih {i n:Nat}(h:i<n)(F:n<=1000000000)(H:(decide ((i:Int)>0))=true):0<=AG ((i:Int)-1)/\AG ((i:Int)-1)<(n:Int):=
 Pq h F (by simp at H⊢;omega)
theorem Lm {l:O r8}(F:l.length<=1000000000)(H :∀s∈l,s.qv.length<=1000000000):Tt (CM l):=by unfold CM;have M:=λi (h:i<l.length)=>Ih h F;have P:=λ(s:r8) (J:s∈l) i (h:i<s.qv.length) (K:(cond true (decide ((i:Int)>0)) false)=true)=>Ih h (H s J) K;exact Tt.Bx
theorem Tq {l:O oF}(F:l.length<=1000000000):Tt (EI l):=by unfold EI;have H:=λi (h:i<l.length)=>Ih h F;exact Tt.Bx
theorem M8 {l:O iX}(F:l.length<=1000000000):Tt (Be l):=by unfold Be;have H:=λi (h:i<l.length)=>Ih h F;exact Tt.Bx
structure Mj (n:Nat)(a:gH):Prop where
 p:a.Path.length<=n
 s :∀s∈a.Path,s.qv.length<=n
 c:a.fT.length<=n
 l:a.iX.length<=n
 o:a.oE.length<=n
 d :∀u∈a.oE,u.Data.length<=n
theorem TD {n:Nat}{a:gH}(h:Mj n a)(J:n<=10000):Tt (Br a):=by
 unfold Br;have:=Lm (l:=a.Path) (by have:=h.p;omega) λs F=>by have:=h.s s F;omega
 have:=Tq (l:=a.fT) (by have:=h.c;omega);have:=M8 (l:=a.iX) (by have:=h.l;omega);have K:=λi (H:i<a.oE.length)=>Ih H (by have:=h.o;omega);exact Tt.Bx
def Mj.mono {n m:Nat}{a:gH}(h:Mj n a)(F:n<=m):Mj m a:=
 ⟨Xay h.p F,λs H=>Xay (h.s s H) F,Xay h.c F,Xay h.l F,Xay h.o F,λu J=>Xay (h.d u J) F⟩
def Mj.zero (n:Nat)(x:Addr)(a b c d:Int):Mj n ⟨a,[],x,b,c,d,[],[],[]⟩:=⟨Xef _,λ_ h=>absurd h (by simp),Xef _,Xef _,Xef _,λ_ h=>absurd h (by simp)⟩
instance (a b:O r8):Tt (EQ a b):=by
 unfold EQ;refine Ok.tt (Q:=λ_=>True) (.ite (λ_=>.ret trivial) λV=>.join (λ_=>True) (λk Y=>?_) λ_ _=>.ret trivial);have V:a.length=b.length:=by simp at V;omega
 refine .for_ (λ_=>Y _ trivial) λnext x i s hi hx J=>.join (λ_=>True) (λk2 K=>?_) λ_ _=>J _;have F:i<b.length:=by omega
 refine .join (λc=>c=false->x.qv.length=b[i].qv.length) (λk3 H=>?_) λc Z=>.ite (λ_=>.ret trivial) λM=>.join (λ_=>True) (λk4 P=>?_) λ_ _=>K _ trivial
 ·rw[Ae F,AA];refine .ite (λ_=>H _ (by simp)) λ_=>?_;rw[AA];exact H _ λh=>by simp at h;omega
 have:=Z (by simpa using M);refine .for_ (λ_=>P _ trivial) λnext y j s hj hy U=>?_;rw[Ae F,AA];refine .bind (.gN (by omega)) λ_ _=>.ite (λ_=>.ret trivial) λ_=>U _
instance (a b:gH):Tt (DT a b):=by unfold DT;exact Tt.Bx
def dJ {K V:Type}[BEq K](H :∀a b:K,(a==b)=true↔a=b){l:O (K×V)}{k F:K}{v:V}:A1 (A3 l k v) F=cond (F==k) (some v) (A1 l F):=by
 induction l with
 | nil=>simp only[A3,A1];cases F==k<;>rfl
 | cons p l J=>
  simp only[A3];cases h:(k==p.1)
  ·simp only[Xcl,Xd4,A1,J];cases M:(F==p.1)
   ·simp
   have P:(F==k)=false:=by
    cases Q:(F==k)
    ·rfl
    have e1:=(H _ _).1 M;have e2:=(H _ _).1 Q;rw[<- e2,e1,(H _ _).2 rfl] at h;simp at h
   rw[P];simp
  simp only[Xet,A1];have e:=(H _ _).1 h;rw[<- e];cases F==k<;>simp
def Ay {V:Type}{l:O (Int×V)}{k F:Int}{v:V}:A1 (A3 l k v) F=if F=k then some v else A1 l F:=by
 rw[dJ (λa b=>Xbh)];by_cases h:F=k
 ·rw[Xa2 h,h];simp
 rw[Xa1 h,show (F==k)=false by simpa using h];rfl
def Ci (p:fI):Prop:=p.Addr.ok=true/\0<=p.zk/\p.zk<=p.Addr.w/\p.Addr.cut p.zk.toNat=p.Addr
def Addr.zb (a b:Addr):Addr.zn a b=true↔a=b:=by
 unfold Addr.zn;simp only[X24,Xbh,Xd8,Int.natCast_inj,Xcp];constructor
 ·rintro⟨F,H,J⟩;cases a;cases b;simp_all
 rintro rfl;exact⟨rfl,rfl,rfl⟩
def fI.zb (a b:fI):fI.zn a b=true↔a=b:=by
 have h:=Addr.zb a.Addr b.Addr;unfold Addr.zn at h;unfold fI.zn;rw[X24,h];simp only[Xd8,Xbh];constructor
 ·rintro⟨F,H⟩;cases a;cases b;simp_all
 rintro rfl;exact⟨rfl,rfl⟩
def Gn (p:fI):Ok (Am p) λb=>b=true↔Ci p:=by
 obtain⟨r,e,K,M⟩:=Hf p.Addr p.zk;unfold Am;rw[K,AA];dsimp only;unfold Ci;rcases M with ⟨F,rfl,rfl⟩|⟨F,P⟩
 ·refine .join (λb=>b=true↔p.Addr.cut p.zk.toNat=p.Addr) (λk H=>.ite (λ_=>H _ ?_) λh=>absurd rfl h) λb J=>.ret (by rw[J];exact⟨λh=>⟨F.1,F.2.1,F.2.2,h⟩,λh=>h.2.2.2⟩);show fI.zn p _=true↔_;rw[fI.zb];exact⟨λh=>(Xap fI.Addr h).symm,λh=>by rw[h]⟩
 refine .join (λb=>b=false) (λk H=>.ite (λh=>absurd (by simpa using h) P) λ_=>H _ rfl) λb J=>.ret ⟨λh=>by rw[J] at h;simp at h,λh=>absurd ⟨h.1,h.2.1,h.2.2.1⟩ F⟩
def Dk (d:tx):Prop:=0<=d.At/\d.L.length<=9223372036854775807
def Blk (p:fI):Prop:=Am p=some true/\(p.zk=16/\p.Addr.V6=false\/p.zk=48/\p.Addr.V6=true)
def Blk.T4 {p:fI}(h:Blk p):Ci p:=by obtain⟨b,F,H⟩:=Gn p;rw[h.1] at F;exact H.1 (X22 F).symm
def wW:T:=Xe7 (Xe8 (Xcj 65 (Xcj 76 (Xcj 76 List.nil))))
def wX:T:=Xe7 (Xe8 (Xcj 79 (Xcj 78 (Xcj 69 List.nil))))
def ZR {α:Type}{l:O α}{x y:α}{i:Nat}(h:(l++[x])[i]?=some y):l[i]?=some y\/i=l.length/\y=x:=by
 rcases Nat.lt_trichotomy i l.length with F|F|F
 ·rw[Xaf F] at h;exact .inl h
 ·subst F;simp at h;exact .inr ⟨rfl,h.symm⟩
 rw[Xdl (by simp;omega)] at h;cases h
def Zb:Dl=some ⟨-1,[],⟨false,0,0⟩,-1,-1,-1,[],[],[]⟩:=rfl
def pw (za:I):Nat:=if za=true then 16 else 4
def pk (n:S):Nat:=(n.toNat+7)/8
def WX (za:I)(n:S)(t:O S):O S:=t.take (pk n)++Xaa (pw za-pk n) 0
def tW (za:I)(n:S)(t:O S):fI:=⟨(addrOf (WX za n t)).cut n.toNat,n.toNat⟩
def K8 (za:I)(n:S)(t:O S):C (fI×O S):=if 8*pw za<n.toNat\/t.length<pk n then none else some (tW za n t,t.drop (pk n))
def Tk (za:I):Nat->O S->O fI->C (O fI)
 | _,[],acc=>some acc
 | f+1,n::t,acc=>match K8 za n t with
  | none=>none
  | some (p,r)=>Tk za f r (acc++[p])
 | 0,_::_,_=>none
def QR {za:I}{n:S}{t:O S}{p:fI}{r:O S}(h:K8 za n t=some (p,r)):r.length<=t.length:=by
 unfold K8 at h;split at h
 ·cases h
 simp only[X21,X23] at h;obtain⟨_,rfl⟩:=h;simp
def XL (za:I)(n:Nat)(acc:O fI):Tk za n [] acc=some acc:=by cases n<;>rfl
def ZN (za:I) :∀(n m:Nat) (b:O S) (acc:O fI),b.length<=n->b.length<=m->Tk za n b acc=Tk za m b acc
 | n,m,[],acc,_,_=>by rw[XL,XL]
 | n+1,m+1,x::t,acc,h1,F=>by
  simp only[Tk];cases h:K8 za x t with
  | none=>rfl
  | some p=>obtain⟨u,r⟩:=p;have:=QR h;simp only[X3] at h1 F;exact ZN za n m r _ (by omega) (by omega)
 | 0,_,_::_,_,h,_=>by simp at h
 | _,0,_::_,_,_,h=>by simp at h
def II (za:I)(b:O S)(acc:O fI):C (O fI):=Tk za b.length b acc
def pR (za:I)(acc:O fI):II za [] acc=some acc:=rfl
def WE (za:I)(x:S)(t:O S)(acc:O fI):II za (x::t) acc=match K8 za x t with|none=>none|some (u,r)=>II za r (acc++[u]):=by
 unfold II;rw[X3];simp only[Tk];cases h:K8 za x t with
 | none=>rfl
 | some p=>obtain⟨u,r⟩:=p;have:=QR h;exact ZN za _ _ r _ (by omega) (by omega)
def nJ (za:I)(b:O S):O fI×I:=match II za b [] with
 | none=>([],false)
 | some l=>(l,true)
def gP (za:I) :∀(f:Nat) (b:O S) (acc l:O fI),Tk za f b acc=some l->l.length<=acc.length+b.length
 | f,[],acc,l,h=>by rw[XL] at h;obtain rfl:=X22 h;simp
 | f+1,x::t,acc,l,h=>by
  simp only[Tk] at h;cases F:K8 za x t with
  | none=>rw[F] at h;cases h
  | some p=>obtain⟨u,r⟩:=p;rw[F] at h;have J:=QR F;have H:=gP za f r _ l h;simp only[X2,X3,X10] at H⊢;omega
 | 0,_::_,_,_,h=>by cases h
def tN {za:I}{n:S}(h:¬ 8*pw za<n.toNat):pk n<=pw za:=by unfold pk;omega
def jC {za:I}{n:S}{t:O S}(F:¬ 8*pw za<n.toNat)(H:¬ t.length<pk n):(WX za n t).length=pw za:=by have:=tN F;unfold WX;simp only[X2,X15,X17];omega
def WY {l:O S}(h:l.length=4\/l.length=16):Au l=some (addrOf l,0)/\addrOf l=L7 (l.length==16) (val l%2^128):=by
 obtain⟨r,F,H⟩:=Is h;rw[XK] at F;have e:addrOf l=L7 (l.length==16) (val l%2^128):=by unfold addrOf;rw[F,H];rfl
 refine⟨?_,e⟩;rw[F,H,e]
def Qz {za:I}{l:O S}(h:l.length=pw za):Au l=some (addrOf l,0)/\(addrOf l).V6=za/\(addrOf l).ok=true/\(addrOf l).w=8*pw za:=by
 have K:l.length=4\/l.length=16:=by rw[h];unfold pw;cases za<;>simp
 obtain⟨M,H⟩:=WY K;have J:(addrOf l).V6=za:=by rw[H,pI,h];unfold pw;cases za<;>rfl
 refine⟨M,J,?_,?_⟩
 ·unfold Addr.ok;rw[J];cases za with
  | true=>rfl
  | false=>
   have P:l.length=4:=h;have F:=NX l;rw[P] at F;have F:val l<4294967296:=F;have e1:(addrOf l).Hi.toNat=0:=by rw[H];unfold L7;simp only[Xar];omega
   have e2:(addrOf l).Lo.toNat<4294967296:=by rw[H];unfold L7;simp only[Xar];omega
   have e3:((((addrOf l).Hi.toNat:Nat):Int)==0)=true:=by rw[e1];rfl
   rw[e3,Xc2,Xe1];exact Xa4 (by omega)
 unfold Addr.w pw;rw[J];cases za<;>rfl
def IQ (b:O S):C (O S×O S):=match b with
 | x::y::t=>if t.length<x.toNat*256+y.toNat then none else some (t.take (x.toNat*256+y.toNat),t.drop (x.toNat*256+y.toNat))
 | _=>none
def J3 {b p r:O S}(h:IQ b=some (p,r)):p.length+r.length+2=b.length:=by
 unfold IQ at h;split at h
 ·split at h
  ·cases h
  simp only[X21,X23] at h;obtain⟨rfl,rfl⟩:=h;simp only[X15,X14,X3];omega
 cases h
def DK (l:O gL)(k:Int):O gL:=l.filter λx=>x.gE==k
def R3 (d:O S):I:=d.take 3==[0,2,1]
def Fa (d:O S):C (Addr×O fI):=
 if R3 d=true/\21<=d.length/\d.getD 3 0=16/\d.getD 20 0=0 then (II true (d.drop 21) []).map λl=>(addrOf ((d.drop 4).take 16),l) else none
def FG (d:O S):C (O fI):=if R3 d=true then II true (d.drop 3) [] else none
def Mm:Addr:=⟨false,(0:j),(0:j)⟩
def GK (l:O gL):C (Addr×O fI):=match DK l 14 with
 | []=>some (Mm,[])
 | [x]=>Fa x.Data
 | _=>none
def DO (l:O gL):C (O fI):=match DK l 15 with
 | []=>some []
 | [x]=>FG x.Data
 | _=>none
structure Pt where
 l:List gL
 next:Addr
 Fw:List fI
 gone:List fI
 four:List fI
 za:List fI
def SP (Fw gone four za:O fI):I:=!(decide (0<four.length)&&decide (0<za.length))&&(decide (Fw.length+gone.length<=256)&&decide (four.length+za.length<=256))
def iZ (l:O gL):C (Addr×O fI)->C (O fI)->C (O fI)->C (O fI)->C Pt
 | some (n,za),some gone,some Fw,some four=>if SP Fw gone four za=true/\(HX l).2≠12 then some ⟨l,n,Fw,gone,four,za⟩ else none
 | _,_,_,_=>none
def tV (w F:O S):C (O gL)->C Pt
 | none=>none
 | some l=>iZ l (GK l) (DO l) (II false w []) (II false F [])
def NZ {w F:O S}{l:O gL}:tV w F (some l)=iZ l (GK l) (DO l) (II false w []) (II false F []):=rfl
def JB (b:O S):C Pt:=match IQ b with
 | none=>none
 | some (w,b1)=>match IQ b1 with
  | none=>none
  | some (a,rest)=>tV w rest (Ph a [])
def NY {l:O gL}{n:Addr}{za gone Fw four:O fI}:iZ l (some (n,za)) (some gone) (some Fw) (some four)=if SP Fw gone four za=true/\(HX l).2≠12 then some ⟨l,n,Fw,gone,four,za⟩ else none:=rfl
def E5 {l:List gL}{R:C (Addr×List fI)}{U O F:C (List fI)}(h:R=none\/U=none\/O=none\/F=none):iZ l R U O F=none:=by
 rcases h with rfl|rfl|rfl|rfl
 ·rfl
 ·cases R<;>rfl
 ·cases R<;>cases U<;>rfl
 cases R<;>cases U<;>cases O<;>rfl
def Sx (x:gL):I:=(x.gE==14 || x.gE==15)&&(bt x.Flags 192 !=128)
def ju (P:Pt):I:=decide ((HX P.l).2≠0) || (P.l.any Sx || (!(CC P.l 1) || (!(CC P.l 2) || (decide (0<P.four.length)&&Addr.zn (HX P.l).1.Next Mm))))
def yJ:zl:=⟨[],zA,[]⟩
def qp (b:O S):zl×Int:=match JB b with
 | none=>(yJ,12)
 | some P=>if P.four++P.za=[] then (⟨P.Fw++P.gone,eA,[]⟩,0) else
  if ju P=true then (⟨P.Fw++P.gone++(P.four++P.za),eA,[]⟩,13) else
   (⟨P.Fw++P.gone,if 0<P.za.length then { (HX P.l).1 with Next:=P.next } else (HX P.l).1,P.four++P.za⟩,0)
end Go.AX.Q33
end
