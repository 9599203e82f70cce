/-
  Texts of one proof, packed.
-/
import Derived.Test.YthbbpeeghmpcfaaGreatDoorR19
set_option linter.all false
set_option maxRecDepth 100000
set_option maxHeartbeats 4000000
open List renaming length_map→X1,length_append→X2,length_cons→X3,length_nil→X10,mem_singleton→X11,getElem?_eq_some_iff→X13,length_drop→X14,length_take→X15,mem_cons_of_mem→X16,length_replicate→X17,length_set→X18,length_singleton→X19,mem_append→X20
open Option.some renaming inj→X22
open Bool renaming and_eq_true→X24,eq_iff_iff→X25
open Option renaming bind→Xx
open Int renaming toNat→Xa0,fdiv→Xc4,tmod→Xes
open BitVec renaming ofInt→Xa3
open List renaming map→Xa5,range'→Xex
open Nat renaming ble→Xeo
section
namespace Go.AX.Q33
open Go Go.AX
def MQ (a b:Int):tS a b=some (mH a b):=by unfold tS cmp_isNaN_int mH;simp only[AA,Xca,Xcl,Xd4,Xy,gt_iff_lt];split<;>(try split)<;>rfl
def nk (l:O Int):FC l=some (orI l):=by
 unfold FC;rw[AB];have key :∀(l:O Int) (i:Nat),AL (σ:=Unit) (λ_=>some (0:Int)) (λnext x _ _=>if (x !=0)=true then some x else next ()) l i ()=some (orI l):=by
  intro l;induction l with
  | nil=>intro i;rfl
  | cons x t F=>intro i;show (if (x !=0)=true then some x else AL _ _ t (i+1) ())=_;rw[F];rw[aJ];by_cases h:x=0<;>simp[h]
 exact key l 0
def TL (c:oF):O Int:=[c.A,c.B]
def TG (c:iX):O Int:=[c.A,c.B,c.C]
def Tn (a b:oF):(TL a).length=(TL b).length:=rfl
def Su (a b:iX):(TG a).length=(TG b).length:=rfl
def mK {a b:oF}(h:TL a=TL b):a=b:=by simp only[TL,Xdo,Xf6] at h;cases a;cases b;simp_all
def lR {a b:iX}(h:TG a=TG b):a=b:=by simp only[TG,Xdo,Xf6] at h;cases a;cases b;simp_all
def Np:oF->oF->I:=Gb TL
def N3:iX->iX->I:=Gb TG
def Uk (a:oF):Np a a=false:=Oc a
def Um (a:iX):N3 a a=false:=Oc a
def Ov (a b c:oF)(F:Np a b=true)(H:Np b c=true):Np a c=true:=QZ Tn a b c F H
def OI (a b c:iX)(F:N3 a b=true)(H:N3 b c=true):N3 a c=true:=QZ Su a b c F H
def OF (a b:oF)(h:Np a b=false):a=b\/Np b a=true:=(OX Tn a b h).imp_left mK
def Om (a b:iX)(h:N3 a b=false):a=b\/N3 b a=true:=(OX Su a b h).imp_left lR
def pN (a b:oF):oF.zn a b=true↔a=b:=by
 unfold oF.zn;simp only[X24,Xd8,Xbh];constructor
 ·rintro⟨F,H⟩;cases a;cases b;simp_all
 rintro rfl;exact⟨rfl,rfl⟩
def o6 (a b:iX):iX.zn a b=true↔a=b:=by
 unfold iX.zn;simp only[X24,Xd8,Xbh];constructor
 ·rintro⟨F,H,J⟩;cases a;cases b;simp_all
 rintro rfl;exact⟨rfl,rfl,rfl⟩
def ZZ (a b:oF):Do a b=some (Cd (TL a) (TL b)):=by unfold Do;rw[MQ,AA,MQ,AA,nk,AA,PD,PD];rfl
def Yz (a b:iX):Bn a b=some (Cd (TG a) (TG b)):=by unfold Bn;rw[MQ,AA,MQ,AA,MQ,AA,nk,AA,PD,PD,PD];rfl
def kV (a b:oF):BD a b=some (Cd (TL a) (TL b)):=ZZ a b
def kJ (a b:iX):B0 a b=some (Cd (TG a) (TG b)):=Yz a b
def lE (a b:oF):GG a b=some (Np a b):=by unfold GG Np Gb TL;rw[AB];simp only[Cd,Xy,Xbh,Xe1,Xc2];by_cases a1:a.A < b.A<;>by_cases a2:a.A=b.A<;>by_cases a3:b.A < a.A<;>by_cases b1:a.B < b.B<;>by_cases b3:b.B < a.B<;>first|(exfalso;omega)|simp[a1,a2,a3,b1,b3]
def nY (a b:iX):CX a b=some (N3 a b):=by unfold CX N3 Gb TG;simp only[AB];simp only[Cd,Xy,Xbh,Xe1,Xc2];by_cases a1:a.A < b.A<;>by_cases a2:a.A=b.A<;>by_cases a3:b.A < a.A<;>by_cases b1:a.B < b.B<;>by_cases b2:a.B=b.B<;>by_cases b3:b.B < a.B<;>by_cases c1:a.C < b.C<;>by_cases F:b.C < a.C<;>first|(exfalso;omega)|simp[a1,a2,a3,b1,b2,b3,c1,F]
def Pd (m x:Int):I:=decide (0<=x)&&decide (x<=m)
def Pu (c:oF):I:=Pd 65535 c.A&&Pd 65535 c.B
def R6 (c:iX):I:=Pd 4294967295 c.A&&(Pd 4294967295 c.B&&Pd 4294967295 c.C)
def jT (c:oF):Et c=some (Pu c):=by unfold Et Pu Pd;rw[AB];simp only[Xy,Xe1,ge_iff_le];by_cases a1:0<=c.A<;>by_cases a2:c.A<=65535<;>by_cases a3:0<=c.B<;>by_cases a4:c.B<=65535<;>simp[a1,a2,a3,a4]
def kO (c:iX):B5 c=some (R6 c):=by unfold B5 R6 Pd;rw[AB];simp only[Xy,Xe1,ge_iff_le];by_cases a1:0<=c.A<;>by_cases a2:c.A<=4294967295<;>by_cases a3:0<=c.B<;>by_cases a4:c.B<=4294967295<;>by_cases a5:0<=c.C<;>by_cases F:c.C<=4294967295<;>simp[a1,a2,a3,a4,a5,F]
def mmR {g:Int->Int->Int}{x:Int}{t:O Int}(Q:t.length<=1000000000) : AC (τ:=Int) (λJ=>Ad (σ:=Int×Int) (λF p=>match p with
   | (v4,v5)=>if (decide (v5<((x::t).length:Int)))=true then Xx (gN (x::t) v5) λK=>F (g v4 K,(AG (v5+1))) else J v4) xv (x,1)) (λv=>some v)=some (t.foldl g x):=by
 rw[AB];refine (Bq (λs:Int×Int=>∃j:Nat,s.2=(j+1:Nat)/\j<=t.length) (λs=>((x::t).length-s.2).toNat) (λs=>some ((t.drop (s.2.toNat-1)).foldl g s.1)) ?_ xv (x,1) ⟨0,rfl,Xef _⟩ (BE (by simp;omega))).trans rfl;rintro next ⟨m,i⟩ ⟨j,H,U⟩ M
 dsimp only at H;subst H;dsimp only;have e1:((j+1:Nat):Int).toNat-1=j:=by omega
 rw[e1];by_cases P:j<t.length
 ·rw[Xa2 (by simp only[X3,Xy];omega),Ae (by simp;omega),AA,AK (by omega)];rw[M _ ⟨j+1,by simp,by omega⟩ (by simp only[X3];omega)];have e2:(((j+1:Nat):Int)+1).toNat-1=j+1:=by omega
  simp only[e2,List.getElem_cons_succ];rw[Xbt P,Xaj]
 rw[Xa1 (by simp only[X3,Xy];omega),List.drop_eq_nil_of_le (by omega)];rfl
def mn (a b:Int):Int:=if b<a then b else a
def mx (a b:Int):Int:=if b>a then b else a
def uc {x:Int}{t:O Int}(F:t.length<=1000000000):DU (x::t)=some (t.foldl mn x):=by unfold DU;rw[Xa1 (by simp;omega),show gN (x::t) 0=some x from Ae (l:=x::t) (i:=0) (by simp),AA];exact mmR (g:=mn) F
def vI {x:Int}{t:O Int}(F:t.length<=1000000000):DX (x::t)=some (t.foldl mx x):=by unfold DX;rw[Xa1 (by simp;omega),show gN (x::t) 0=some x from Ae (l:=x::t) (i:=0) (by simp),AA];exact mmR (g:=mx) F
def lg (n:Int) :∀(t:O Int) (x:Int),decide (n<=t.foldl mn x)=(x::t).all λy=>decide (n<=y)
 | [],x=>by rw[Xd5,List.all_nil,Xd8];rfl
 | y::t,x=>by
  rw[Xaj,lg n t (mn x y)];simp only[Xd5];unfold mn;rw[X25];simp only[X24,Xy];constructor
  ·rintro⟨F,H⟩;split at F<;>exact⟨by omega,by omega,H⟩
  rintro⟨F,H,J⟩;split<;>exact⟨by omega,J⟩
def oa (n:Int) :∀(t:O Int) (x:Int),decide (t.foldl mx x<=n)=(x::t).all λy=>decide (y<=n)
 | [],x=>by rw[Xd5,List.all_nil,Xd8];rfl
 | y::t,x=>by
  rw[Xaj,oa n t (mx x y)];simp only[Xd5];unfold mx;rw[X25];simp only[X24,Xy];constructor
  ·rintro⟨F,H⟩;split at F<;>exact⟨by omega,by omega,H⟩
  rintro⟨F,H,J⟩;split<;>exact⟨by omega,J⟩
def Sl {m x:Int}{t:O Int}(H:t.length<=1000000000):DC m (x::t)=some ((x::t).all (Pd m)):=by
 unfold DC;rw[AB,uc H,AA,vI H];have e:(x::t).all (Pd m)=(decide (0<=t.foldl mn x)&&decide (t.foldl mx x<=m)):=by rw[lg,oa,X25,X24];simp only[Xa6,Pd,X24];exact⟨λh=>⟨λy F=>(h y F).1,λy F=>(h y F).2⟩,λh y F=>⟨h.1 y F,h.2 y F⟩⟩
 rw[e];by_cases h:0<=t.foldl mn x
 ·rw[Xa2 (by simpa using h),AA,Xa4 h];rfl
 rw[Xa1 (by simpa using h),Xa9 h];rfl
def nN (c:oF):E8 c=some (Pu c):=by unfold E8;rw[Sl (by simp),AA];simp[Pu]
def lw (c:iX):Cm c=some (R6 c):=by unfold Cm;rw[Sl (by simp),AA];simp[R6]
def Gv (l:O oF):I:=l.all Pu&&zm Np l&&decide (l.length<=64)
def G1 (l:O iX):I:=l.all R6&&zm N3 l&&decide (l.length<=64)
def tK {X:Type}{key:X->O Int}(a b:X):decide (Cd (key a) (key b)≥0)=!Gb key a b:=by unfold Gb;rw[X25];simp
def qf {α:Type}{ok:α->I}{lt:α->α->I}{l:O α}(U:l.length<=1000000000){body:(Unit->C I)->α->Nat->Unit->C I} (h :∀next x i,body next x i ()=AC (τ:=I) (λH=>Xx (some (ok x)) λJ=>if (!J)=true then H true else if (decide ((i:Int)>0))=true then Xx (gN l (AG ((i:Int)-1))) λK=>Xx (some (lt K x)) λM=>H (cond false true (cond true (!M) false)) else H false) λP=>if P=true then some false else next ()) :
  (AC (τ:=Unit) (λQ=>AL (σ:=Unit) (λ_=>Q ()) body l 0 ()) λ_=>some (decide ((l.length:Int)<=64)))=some (l.all ok&&zm lt l&&decide (l.length<=64)):=by
 rw[AB,tp (ok:=ok) (lt:=lt) (F:=some false) (by omega)]
 ·have e:decide ((l.length:Int)<=64)=decide (l.length<=64):=by rw[X25];simp;omega
  rw[e];generalize (l.all ok&&zm lt l)=b;cases b<;>rfl
 ·intro next x _
  rw[h,AB,AA];cases ok x<;>rfl
 intro next x y i _ _ hg
 rw[h,AB,AA,hg,AA,AA,Xa2 (show decide (((i+1:Nat):Int)>0)=true by simp)];cases ok x<;>cases lt y x<;>rfl
def SZ {l:O oF}(F:l.length<=1000000000):EI l=some (Gv l):=by unfold EI Gv;exact qf F λnext x i=>by simp only[jT,lE]
def M9 {l:O iX}(F:l.length<=1000000000):Be l=some (G1 l):=by unfold Be G1;exact qf F λnext x i=>by simp only[kO,nY]
def Nb {l:O oF}(F:l.length<=1000000000):EX l=some (Gv l):=by unfold EX AW Gv;rw[qf (ok:=Pu) (lt:=Np) F λnext x i=>by simp only[nN,ZZ,AA,tK];rfl];rfl
def Jw {l:O iX}(F:l.length<=1000000000):CU l=some (G1 l):=by unfold CU AT G1;rw[qf (ok:=R6) (lt:=N3) F λnext x i=>by simp only[lw,Yz,AA,tK];rfl];rfl
def GB {l:O oF}:Gv l=true↔(∀c∈l,Pu c=true)/\(l.Pairwise λa b=>Np a b=true)/\l.length<=64:=by unfold Gv;rw[X24,X24,Jj Ov,Xa6,Xy,Xf2]
def F7 {l:O iX}:G1 l=true↔(∀c∈l,R6 c=true)/\(l.Pairwise λa b=>N3 a b=true)/\l.length<=64:=by unfold G1;rw[X24,X24,Jj OI,Xa6,Xy,Xf2]
def sr {α:Type}{e:α->α->I}{x:α} :∀(l:O α) (i:Nat),AL (σ:=Unit) (λ_=>some false) (λ(next:Unit->C I) (y:α) _ _=>if e y x=true then some true else next ()) l i ()=some (l.any λy=>e y x)
 | [],_=>rfl
 | y::t,i=>by show (if e y x=true then some true else AL _ _ t (i+1) ())=_;rw[sr t (i+1),Xd9];cases e y x<;>rfl
def Wn (l:O oF)(c:oF):FN l c=some (l.any λy=>oF.zn y c):=by unfold FN;rw[AB];exact sr l 0
def UT {α:Type}{l:O α}{n:Nat}(h:n<=l.length):part l 0 (n:Int)=some (l.take n):=by have:=Ds (l:=l) (a:=0) (b:=n) (by omega) h;simpa using this
def Fo {α:Type}{l:O α}{n:Nat}(h:n<=l.length):part l (n:Int) (l.length:Int)=some (l.drop n):=by rw[Ds h (Xak _),Xdh (by simp)]
def mT {α:Type}{b:Nat}{lt:α->α->I}{l:O α}{x:α}(H:Xeo b 65536=true)(U:l.length+1<=1000000000){ρ:Type}{K:O α->C ρ} : (Xx (part l 0 ((l.takeWhile (lt · x)).length:Int)) λF=>Xx (gO (α:=α) b [] F) λ_=>Xx (gO (α:=α) b F ([x]:O α)) λJ=>Xx (part l ((l.takeWhile (lt · x)).length:Int) (l.length:Int)) λM=>Xx (gO (α:=α) b J M) K)=K (G7 lt l x):=by have V:=B7 (lt · x) l;obtain⟨P,Q⟩:=C1 (lt · x) l;rw[UT (by omega),AA,AD H (by simp;omega),AA,AD H (by simp;omega),AA,Fo (by omega),AA,AD H (by simp;omega),AA,P,Q];unfold G7;simp
def bP:O oF->O oF:=Fi oF.zn Np
def bV:O iX->O iX:=Fi iX.zn N3
def WP (l:O oF):(bP l).Pairwise (λa b=>Np a b=true)/\(∀x,x∈bP l↔x∈l)/\(bP l).length<=l.length:=N5 pN Ov OF l
def Vk (l:O iX):(bV l).Pairwise (λa b=>N3 a b=true)/\(∀x,x∈bV l↔x∈l)/\(bV l).length<=l.length:=N5 o6 OI Om l
def S8 {l:O oF}(h :∀c∈l,Pu c=true)(K:l.length<=64):Gv (bP l)=true:=by obtain⟨F,H,M⟩:=WP l;exact GB.2 ⟨λc J=>h c ((H c).1 J),F,by omega⟩
def UU {l:O iX}(h :∀c∈l,R6 c=true)(K:l.length<=64):G1 (bV l)=true:=by obtain⟨F,H,M⟩:=Vk l;exact F7.2 ⟨λc J=>h c ((H c).1 J),F,by omega⟩
def U7 {l:O oF}(P:l.length<=1000000){ρ:Type}{K:O oF->C ρ}:(Xx (Gf BD l) λv=>Xx (Aj v) K)=K (bP l):=by obtain⟨r,h,F,H⟩:=Xv Tn kV (l:=l) (by omega);rw[h,AA];obtain⟨c,g,J,M⟩:=LM (lt:=Np) (e:=oF.zn) (zz:=⟨0,0⟩) Uk Ov OF pN (l:=r) H (by rw[F.length_eq];omega);have e:Aj r=Ld oF.zn ⟨0,0⟩ r:=rfl;rw[e,g,AA,KJ (l:=l) pN Uk Ov OF J λx=>(M x).trans F.mem_iff];rfl
def VF {l:O iX}(P:l.length<=1000000){ρ:Type}{K:O iX->C ρ}:(Xx (Gf B0 l) λv=>Xx (Aw v) K)=K (bV l):=by obtain⟨r,h,F,H⟩:=Xv Su kJ (l:=l) (by omega);rw[h,AA];obtain⟨c,g,J,M⟩:=LM (lt:=N3) (e:=iX.zn) (zz:=⟨0,0,0⟩) Um OI Om o6 (l:=r) H (by rw[F.length_eq];omega);have e:Aw r=Ld iX.zn ⟨0,0,0⟩ r:=rfl;rw[e,g,AA,KJ (l:=l) o6 Um OI Om J λx=>(M x).trans F.mem_iff];rfl
def comms:O S->O oF
 | a::b::c::d::t=>⟨ET [a,b],ET [c,d]⟩::comms t
 | _=>[]
def B8:O Int->O iX
 | a::b::c::t=>⟨a,b,c⟩::B8 t
 | _=>[]
def Nq (a b c d:S)(t:O S):comms (a::b::c::d::t)=⟨ET [a,b],ET [c,d]⟩::comms t:=rfl
def LI (a b c:Int)(t:O Int):B8 (a::b::c::t)=⟨a,b,c⟩::B8 t:=rfl
def PZ :∀l:O S,(comms l).length=l.length/4
 | a::b::c::d::t=>by rw[Nq,X3,PZ t];simp only[X3];omega
 | []=>rfl
 | [_]=>by simp[comms]
 | [_,_]=>by simp[comms]
 | [_,_,_]=>by simp[comms]
def Nk :∀l:O Int,(B8 l).length=l.length/3
 | a::b::c::t=>by rw[LI,X3,Nk t];simp only[X3];omega
 | []=>rfl
 | [_]=>by simp[B8]
 | [_,_]=>by simp[B8]
def Y6 (a b:S):0<=ET [a,b]/\ET [a,b]<=65535:=by have:=NX [a,b];rw[Gw (by simp)];simp only[X3,X10] at this;omega
def Tj :∀(l:O S),∀c∈comms l,Pu c=true
 | a::b::c::d::t=>by
  rw[Nq];intro x F;rcases Xa7.1 F with rfl|F
  ·have H:=Y6 a b;have J:=Y6 c d;simp[Pu,Pd,H,J]
  exact Tj t x F
 | []=>by intro n h;simp[comms] at h
 | [_]=>by intro n h;simp[comms] at h
 | [_,_]=>by intro n h;simp[comms] at h
 | [_,_,_]=>by intro n h;simp[comms] at h
def Qj :∀(l:O Int),(∀n∈l,0<=n/\n<=4294967295)->∀c∈B8 l,R6 c=true
 | a::b::c::t,h=>by
  rw[LI];intro x F;rcases Xa7.1 F with rfl|F
  ·have H:=h a (by simp);have J:=h b (by simp);have K:=h c (by simp);simp[R6,Pd,H,J,K]
  exact Qj t (λn M=>h n (by simp[M])) x F
 | [],_=>by intro n h;simp[B8] at h
 | [_],_=>by intro n h;simp[B8] at h
 | [_,_],_=>by intro n h;simp[B8] at h
def vR (a b c d:S):Xc4 (ET [a,b,c,d]) (2^(min (Xa0 16) 64))=ET [a,b]/\AG ((Xa3 64 (ET [a,b,c,d]) &&& Xa3 64 65535).toNat:Int)=ET [c,d]:=by
 have J:=a.toNat_lt;have K:=b.toNat_lt;have M:=c.toNat_lt;have P:=d.toNat_lt;rw[Gw (by simp),Gw (by simp),Gw (by simp)];have H:val [a,b,c,d]=((a.toNat*256+b.toNat)*256+c.toNat)*256+d.toNat:=by simp[val]
 have v2:val [a,b]=a.toNat*256+b.toNat:=by simp[val]
 have F:val [c,d]=c.toNat*256+d.toNat:=by simp[val]
 rw[H,v2,F];constructor
 ·have e:((2:Int)^(min (Xa0 16) 64))=65536:=rfl;rw[e,Xc8 _ (by omega)];omega
 have e:Xa3 64 65535=BitVec.ofNat 64 (2^16-1):=rfl;rw[Xct,e,BitVec.toNat_and,BitVec.toNat_ofNat,BitVec.toNat_ofNat,Xbf (show ((a.toNat*256+b.toNat)*256+c.toNat)*256+d.toNat<2^64 by omega),Xbf (show 2^16-1<2^64 by decide),Nat.and_two_pow_sub_one_eq_mod];rw[AK (by omega)];omega
def NJ :∀(l:O S),(Cn l).map (λn=>(⟨Xc4 n (2^(min (Xa0 16) 64)),AG ((Xa3 64 n &&& Xa3 64 65535).toNat:Int)⟩:oF))=comms l
 | a::b::c::d::t=>by rw[MW,Nq,Xbk,NJ t];obtain⟨F,H⟩:=vR a b c d;rw[F,H]
 | []=>rfl
 | [_]=>rfl
 | [_,_]=>rfl
 | [_,_,_]=>rfl
def vN {n:O Int}{ρ:Type}{K:O iX->C ρ}(h1:n.length%3=0)(h2:n.length<=1000000) : AC (τ:=O iX) (λP=>Ad (σ:=(O iX)×(O Int)) (λH p=>match p with
   | (J,F)=>if (decide ((F.length:Int)>0))=true then
     Xx (gN F 0) λQ=>
     Xx (gN F 1) λU=>
     Xx (gN F 2) λV=>
     Xx (gO (α:=iX) 24 J ([(⟨Q,U,V⟩:iX)]:O iX)) λY=>
     Xx (part F 3 (F.length:Int)) λZ=>
     H (Y,Z)
    else P J) xv ([],n)) K=K (B8 n):=by
 rw[AB];refine (Bq (λs:O iX×O Int=>s.2.length%3=0/\s.1.length+s.2.length<=1000000) (λs=>s.2.length) (λs=>K (s.1++B8 s.2)) ?_ xv ([],n) ⟨h1,by simpa using h2⟩ (BE (by simp only;omega))).trans rfl;rintro next ⟨o,v⟩ ⟨M,g2⟩ hn
 dsimp only at M g2⊢;match v,M,g2,hn with
 | [],_,_,_=>simp[B8]
 | [_],M,_,_=>simp at M
 | [_,_],M,_,_=>simp at M
 | a::b::c::t,M,g2,hn=>simp only[X3] at M g2;have e1:gN (a::b::c::t) 0=some a:=Ae (l:=a::b::c::t) (i:=0) (by simp);have e2:gN (a::b::c::t) 1=some b:=Ae (l:=a::b::c::t) (i:=1) (by simp);have e3:gN (a::b::c::t) 2=some c:=Ae (l:=a::b::c::t) (i:=2) (by simp);have e4:part (a::b::c::t) 3 ((a::b::c::t).length:Int)=some t:=Fo (l:=a::b::c::t) (n:=3) (by simp);rw[Xa2 (by simp;omega),e1,AA,e2,AA,e3,AA,AD (by decide) (by simp;omega),AA,e4,AA,hn _ ⟨by simp only;omega,by simp;omega⟩ (by simp only[X3];omega),LI];simp
end Go.AX.Q33
end
section
end
section
namespace Go.AX.Q33
open Go Go.AX
def Hb (a:gH):Int×I×j×j×Int×Int×Int×(O r8)×(O oF)×(O iX):=(a.o3,a.Next.V6,a.Next.Hi,a.Next.Lo,a.AF,a.xL,a.zy,a.Path,a.fT,a.iX)
def Nv (p:O r8):I:=(CM p).getD false
def LU (d:O S):C Int:=if d.length=1/\ET d<=2 then some (ET d) else none
def QA (d:O S):C (O r8):=(RM d []).bind λp=>if Nv p=true then some p else none
def addrOf (d:O S):Addr:=((Au d).getD (⟨false,0,0⟩,0)).1
def UA (d:O S):C Addr:=if d.length=4 then some (addrOf d) else none
def WD (d:O S):C Int:=if d.length=4 then some (ET d) else none
def ZX (d:O S):C Int:=if d.length=4/\ET d≠0 then some (ET d) else none
def Qe (d:O S):C (O oF):=if d.length≠0/\d.length%4=0/\d.length/4<=64 then some (bP (comms d)) else none
def Kp (d:O S):C (O iX):=if d.length≠0/\d.length%12=0/\d.length/12<=64 then some (bV (B8 (Cn d))) else none
def Jx (a:gH)(t:Int)(d:O S):C gH:=
 if t=1 then (LU d).map λv=>{ a with o3:=v } else
 if t=2 then (QA d).map λv=>{ a with Path:=v } else
 if t=3 then (UA d).map λv=>{ a with Next:=v } else
 if t=4 then (WD d).map λv=>{ a with AF:=v } else
 if t=5 then (WD d).map λv=>{ a with xL:=v } else
 if t=8 then (Qe d).map λv=>{ a with fT:=v } else
 if t=32 then (Kp d).map λv=>{ a with iX:=v } else
 if t=35 then (ZX d).map λv=>{ a with zy:=v } else some a
def AR (a:gH)(x:gL):C gH:=if fl x.gE=0 then some a else if Ey x=true then Jx a x.gE x.Data else none
def XK (d:O S):BL d=Au d:=rfl
instance (a0:O S):Tt (Au a0):=by unfold Au;exact Tt.Bx
def jz (d:O S) :∃e,Au d=some (addrOf d,e):=by have h :∃r,Au d=some r:=Tt.h;obtain⟨⟨r,e⟩,h⟩:=h;refine⟨e,?_⟩;unfold addrOf;rw[h];rfl
def M4 {d:O S}(h:d.length=4):0<=ET d/\ET d<=4294967295:=by have:=NX d;rw[Gw (by omega)];rw[h] at this;omega
section
variable {ρ:Type} {F:C ρ} {next:Int×I×j×j×Int×Int×Int×(O r8)×(O oF)×(O iX)->C ρ} {x:gL} {a:gH}
def rh (h:x.gE=1)(e:fl x.gE=64):FK F next x (Hb a)=match AR a x with|none=>F|some H=>next (Hb H):=by
 unfold FK Hb AR Jx LU;dsimp only;rw[AB,Xa2 (by rw[h];rfl),AB,BI x (by rw[e];decide),Xa1 (by rw[e];decide)];simp only[AB,AA,CB,h,Xet];have e1:((x.Data.length:Int)==1)=decide (x.Data.length=1):=by rw[X25];simp;omega
 rw[e1];cases K:Ey x<;>by_cases h1:x.Data.length=1<;>by_cases J:ET x.Data<=2<;>simp[h1,J]
def qz (h:x.gE=3)(e:fl x.gE=64):FK F next x (Hb a)=match AR a x with|none=>F|some H=>next (Hb H):=by
 unfold FK Hb AR Jx UA;dsimp only;obtain⟨K,J⟩:=jz x.Data;rw[AB,Xa1 (by rw[h];decide),Xa1 (by rw[h];decide),Xa2 (by rw[h];rfl),AB,BI x (by rw[e];decide),Xa1 (by rw[e];decide),h];simp only[AB,AA,J];have e1:((x.Data.length:Int)==4)=decide (x.Data.length=4):=by rw[X25];simp;omega
 rw[e1];cases M:Ey x<;>by_cases h1:x.Data.length=4<;>simp[h1]
def rJ (h:x.gE=4)(e:fl x.gE=128):FK F next x (Hb a)=match AR a x with|none=>F|some H=>next (Hb H):=by
 unfold FK Hb AR Jx WD;dsimp only;rw[AB,Xa1 (by rw[h];decide),Xa1 (by rw[h];decide),Xa1 (by rw[h];decide),Xa2 (by rw[h];rfl),AB,BI x (by rw[e];decide),Xa1 (by rw[e];decide),h];simp only[AB,AA,CB];have e1:((x.Data.length:Int)==4)=decide (x.Data.length=4):=by rw[X25];simp;omega
 rw[e1];cases J:Ey x<;>by_cases h1:x.Data.length=4<;>simp[h1]
def rB (h:x.gE=5)(e:fl x.gE=64):FK F next x (Hb a)=match AR a x with|none=>F|some H=>next (Hb H):=by
 unfold FK Hb AR Jx WD;dsimp only;rw[AB,Xa1 (by rw[h];decide),Xa1 (by rw[h];decide),Xa1 (by rw[h];decide),Xa1 (by rw[h];decide),Xa2 (by rw[h];rfl),AB,BI x (by rw[e];decide),Xa1 (by rw[e];decide),h];simp only[AB,AA,CB];have e1:((x.Data.length:Int)==4)=decide (x.Data.length=4):=by rw[X25];simp;omega
 rw[e1];cases J:Ey x<;>by_cases h1:x.Data.length=4<;>simp[h1]
def nj (h:x.gE=35)(e:fl x.gE=192):FK F next x (Hb a)=match AR a x with|none=>F|some H=>next (Hb H):=by
 unfold FK Hb AR Jx ZX;dsimp only;rw[AB,Xa1 (by rw[h];decide),Xa1 (by rw[h];decide),Xa1 (by rw[h];decide),Xa1 (by rw[h];decide),Xa1 (by rw[h];decide),Xa1 (by rw[h];decide),Xa1 (by rw[h];decide),Xa2 (by rw[h];rfl),AB,BI x (by rw[e];decide),Xa1 (by rw[e];decide),h];simp only[AB,AA,CB,Kk];have e1:((x.Data.length:Int)==4)=decide (x.Data.length=4):=by rw[X25];simp;omega
 rw[e1];by_cases h1:x.Data.length=4
 ·have hg:=M4 h1;have J:decide (1<=ET x.Data)=decide (ET x.Data≠0):=by rw[X25];simp;omega
  have K:decide (ET x.Data<=4294967295)=true:=Xa4 hg.2;rw[J,K];cases M:Ey x<;>by_cases P:ET x.Data=0<;>simp[h1,P]
 cases M:Ey x<;>simp[h1]
def qk (h:x.gE≠1/\x.gE≠2/\x.gE≠3/\x.gE≠4/\x.gE≠5/\x.gE≠8/\x.gE≠32/\x.gE≠35)(e:fl x.gE=0):FK F next x (Hb a)=match AR a x with|none=>F|some H=>next (Hb H):=by obtain⟨J,K,M,P,Q,U,V,Y⟩:=h;unfold FK Hb AR;dsimp only;rw[AB,Xa1 (by simpa using J),Xa1 (by simpa using K),Xa1 (by simpa using M),Xa1 (by simpa using P),Xa1 (by simpa using Q),Xa1 (by simpa using U),Xa1 (by simpa using V),Xa1 (by simpa using Y),Xa2 e]
def vZ {α J ρ:Type}{g:J->α}{b:Nat}{K:O α->C ρ}(M:Xeo b 65536=true) :∀(l:O J) (i:Nat) (acc:O α),acc.length+l.length<=1000000000->AL K (λnext x _ v=>Xx (gO (α:=α) b v ([g x]:O α)) λH=>next H) l i acc=K (acc++l.map g)
 | [],i,acc,_=>by rw[List.map_nil,Xb1];rfl
 | x::t,i,acc,h=>by simp only[X3] at h;show (Xx (gO (α:=α) b acc ([g x]:O α)) λH=>AL K _ t (i+1) H)=_;rw[AD M (by simp;omega),AA,vZ M t (i+1) _ (by simp;omega)];simp
def sO (Q:x.Data.length<=1000000)(h:x.gE=8)(e:fl x.gE=192):FK F next x (Hb a)=match AR a x with|none=>F|some M=>next (Hb M):=by
 have P :∀d,Jx a 8 d=(Qe d).map λv=>{ a with fT:=v }:=λ_=>rfl;unfold FK Hb AR;dsimp only;rw[AB,Xa1 (by rw[h];decide),Xa1 (by rw[h];decide),Xa1 (by rw[h];decide),Xa1 (by rw[h];decide),Xa1 (by rw[h];decide),Xa2 (by rw[h];rfl),AB,BI x (by rw[e];decide),Xa1 (by rw[e];decide),h,AA];by_cases J:Ey x=true;rotate_left
 ·have J:Ey x=false:=by simpa using J
  rw[J];rfl
 have U:=PZ x.Data;have V:=WP (comms x.Data);rw[J,Xa1 (by decide),AB,Es (by omega),AA,AB,vZ (by decide) _ _ _ (by rw[H8];simp;omega),NJ,Xah,P];unfold Qe;show AC _ _=_;rw[AB];have e1:((Xes (x.Data.length:Int) 4)==0)=decide (x.Data.length%4=0):=by rw[Int.tmod_eq_emod_of_nonneg (by omega),X25];simp;omega
 have e2 :∀K:I->C ρ,(AC (τ:=I) (λH=>if (decide (((comms x.Data).length:Int)>0))=true then H (cond true (decide (((comms x.Data).length:Int)<=64)) false) else H false) K)=K (decide (0<(comms x.Data).length/\(comms x.Data).length<=64)):=by intro K;rw[AB];by_cases g1:0 < (comms x.Data).length<;>by_cases g2:(comms x.Data).length<=64<;>simp[g1,g2]<;>first|(intro;omega)|(rw[Xa4 (by omega)])|(rw[Xa9 (by omega)])|omega
 rw[e2,U7 (by omega)];simp only[AB,e1];by_cases g:x.Data.length≠0/\x.Data.length%4=0/\x.Data.length/4<=64
 ·rw[Xa2 g,Xa4 (show 0<(comms x.Data).length/\(comms x.Data).length<=64 by omega),Xa2 rfl,Xa2 (by rw[Xa4 g.2.1];rfl),Nb (by omega),S8 (Tj _) (by omega)];rfl
 rw[Xa1 g];by_cases g1:0<(comms x.Data).length/\(comms x.Data).length<=64
 ·rw[Xa4 g1,Xa2 rfl,Xa1 (by rw[Xa9 (by omega)];decide)];rfl
 rw[Xa9 g1,Xa1 (by decide)];rfl
def pP (U:x.Data.length<=1000000)(h:x.gE=32)(e:fl x.gE=192):FK F next x (Hb a)=match AR a x with|none=>F|some P=>next (Hb P):=by
 have M :∀d,Jx a 32 d=(Kp d).map λv=>{ a with iX:=v }:=λ_=>rfl;unfold FK Hb AR;dsimp only;rw[AB,Xa1 (by rw[h];decide),Xa1 (by rw[h];decide),Xa1 (by rw[h];decide),Xa1 (by rw[h];decide),Xa1 (by rw[h];decide),Xa1 (by rw[h];decide),Xa2 (by rw[h];rfl),AB,BI x (by rw[e];decide),Xa1 (by rw[e];decide),h,AA];by_cases J:Ey x=true;rotate_left
 ·have J:Ey x=false:=by simpa using J
  rw[J];rfl
 have e1:((Xes (x.Data.length:Int) 12) !=0)=!decide (x.Data.length%12=0):=by rw[Int.tmod_eq_emod_of_nonneg (by omega),X25];simp;omega
 rw[J,Xa1 (by decide),AB,e1];by_cases g1:x.Data.length%12=0;rotate_left
 ·rw[Xa9 g1,Xa2 rfl,M];unfold Kp;rw[Xa1 (show ¬ (x.Data.length≠0/\x.Data.length%12=0/\x.Data.length/12<=64) by omega)];rfl
 have Q:=Nk (Cn x.Data);rw[H8] at Q;have V:=Vk (B8 (Cn x.Data));rw[Xa4 g1,Xa1 (by decide),Es (by omega),AA,vN (by rw[H8];omega) (by rw[H8];omega),M];unfold Kp;show AC _ _=_;rw[AB];have e2 :∀K:I->C ρ,(AC (τ:=I) (λH=>if (decide (((B8 (Cn x.Data)).length:Int)>0))=true then H (cond true (decide (((B8 (Cn x.Data)).length:Int)<=64)) false) else H false) K)=K (decide (0<(B8 (Cn x.Data)).length/\(B8 (Cn x.Data)).length<=64)):=by intro K;rw[AB];by_cases g1:0 < (B8 (Cn x.Data)).length<;>by_cases g2:(B8 (Cn x.Data)).length<=64<;>simp[g1,g2]<;>first|(intro;omega)|(rw[Xa4 (by omega)])|(rw[Xa9 (by omega)])|omega
 rw[e2,VF (by omega)];simp only[AB];by_cases g:x.Data.length≠0/\x.Data.length%12=0/\x.Data.length/12<=64
 ·rw[Xa2 g,Xa4 (show 0<(B8 (Cn x.Data)).length/\(B8 (Cn x.Data)).length<=64 by omega),Xa2 rfl,Jw (by omega),UU (Qj _ (SQ _)) (by omega)];rfl
 rw[Xa1 g,Xa9 (show ¬ (0<(B8 (Cn x.Data)).length/\(B8 (Cn x.Data)).length<=64) by omega),Xa1 (by decide)];rfl
end
end Go.AX.Q33
end
section
namespace Go.AX.Q33
open Go Go.AX
def CS (n:Int):I:=decide (1<=n)&&decide (n<=4294967295)
def Jz (s:r8):I:=decide (s.qv.length≠0)&&(s.qv.all CS&&zm (λa b=>!s.Set || Fk a b) s.qv)
def Mb (a b:r8):I:=b.Set || a.Set
def DP (p:O r8):Nat:=p.foldl (λn s=>n+s.qv.length) 0
def lF (p:O r8)(n:Nat):p.foldl (λn s=>n+s.qv.length) n=n+DP p:=by
 unfold DP;induction p generalizing n with
 | nil=>rfl
 | cons s t H=>rw[Xaj,Xaj,H,H (0+_)];omega
def CH (s:r8)(p:O r8):DP (s::p)=s.qv.length+DP p:=by
 conv=>lhs;unfold DP
 rw[Xaj,lF];omega
def R2 (p q:O r8):DP (p++q)=DP p+DP q:=by
 induction p with
 | nil=>rw[Xah];exact (Xbc _).symm
 | cons s t H=>rw[List.cons_append,CH,CH,H];omega
def Wh {p:O r8}{s:r8}(h:s∈p):s.qv.length<=DP p:=by
 induction p with
 | nil=>simp at h
 | cons x t H=>
  rw[CH];rcases Xa7.1 h with rfl|h
  ·omega
  have:=H h;omega
def C5 (p:O r8):I:=p.all Jz&&zm Mb p&&decide (DP p<=64)
def gB :∀(p:O r8) (n:Nat),n+DP p<=1000000000->p.foldl (λ(v:Int) s=>AG (v+(s.qv.length:Int))) (n:Int)=((n+DP p:Nat):Int)
 | [],n,_=>rfl
 | s::t,n,h=>by rw[CH] at h;rw[Xaj,CH,AK (by omega),show (n:Int)+(s.qv.length:Int)=((n+s.qv.length:Nat):Int) by omega,gB t _ (by omega)];congr 1;omega
def kD {s:r8}(Q:s.qv.length<=1000000000){K:Unit->C I}{body:(Unit->C I)->Int->Nat->Unit->C I} (P :∀next x i,body next x i ()=AC (τ:=I) (λH=>if (!CS x)=true then H true else if s.Set=true then if (cond true (decide ((i:Int)>0)) false)=true then Xx (gN s.qv (AG ((i:Int)-1))) λJ=>H (cond false true (cond true (decide (J≥x)) false)) else H false else H false) λM=>if M=true then some false else next ()) :
  AL K body s.qv 0 ()=if s.qv.all CS&&zm (λa b=>!s.Set || Fk a b) s.qv then K () else some false:=by
 refine tp (by omega) (λnext x _=>?_) λnext x y i _ _ hg=>?_
 ·rw[P,AB];cases CS x<;>cases s.Set<;>rfl
 rw[P,AB,hg,AA];have e:decide (((i+1:Nat):Int)>0)=true:=by simp
 have e2:decide (y≥x)=!Fk y x:=by unfold Fk;rw[X25];simp
 rw[e,e2];cases CS x<;>cases s.Set<;>cases Fk y x<;>rfl
def WA {p:O r8}(hl:p.length<=1000000000)(ht:DP p<=1000000000){body:(Int->C I)->r8->Nat->Int->C I}{H:r8->(Unit->C I)->Int->Nat->Unit->C I} (hb :∀next x i v,body next x i v=AC (τ:=Unit) (λk6=>AC (τ:=I) (λU=>if ((x.qv.length:Int)==0)=true then U true else if (decide ((i:Int)>0))=true then if (cond true (!x.Set) false)=true then Xx (gN p (AG ((i:Int)-1))) λv8=>U (cond false true (cond true (!v8.Set) false)) else U false else U false) λv9=>if v9=true then some false else AC (τ:=Unit) (λV=>AL (σ:=Unit) (λ_=>V ()) (H x) x.qv 0 ()) λ_=>k6 ()) λ_=>next (AG (v+(x.qv.length:Int))))
  (hi :∀s next x i,H s next x i ()=AC (τ:=I) (λJ=>if (!CS x)=true then J true else if s.Set=true then if (cond true (decide ((i:Int)>0)) false)=true then Xx (gN s.qv (AG ((i:Int)-1))) λY=>J (cond false true (cond true (decide (Y≥x)) false)) else J false else J false) λZ=>if Z=true then some false else next ()) :
  (AC (τ:=Int) (λk1=>AL (σ:=Int) (λv=>k1 v) body p 0 0) λv=>some (decide (v<=64)))=some (C5 p):=by
 rw[AB];have Q :∀s∈p,∀K:Unit->C I,AL K (H s) s.qv 0 ()=if s.qv.all CS&&zm (λa b=>!s.Set || Fk a b) s.qv then K () else some false:=λs P K=>kD (by have:=Wh P;omega) (hi s);refine (xO (g:=λ(v:Int) s=>AG (v+(s.qv.length:Int))) (ok:=Jz) (lt:=Mb) (F:=some false) (by omega) (λnext x v hx=>?_) λnext x y i v hx _ hg=>?_).trans ?_
 ·rw[hb,AB,AB];unfold Jz;by_cases M:x.qv.length=0
  ·have e:((x.qv.length:Int)==0)=true:=by simp[M]
   rw[Xa2 e];simp[M]
  have e:¬ ((x.qv.length:Int)==0)=true:=by simpa using M
  rw[Xa1 e,Xa1 (by simp)];show (if false=true then _ else _)=_;rw[Xa1 (by decide),AB,Q x hx];simp only[M,ne_eq,Xev,Xf3,Xco]
 ·rw[hb,AB,AB,hg];unfold Jz Mb;by_cases M:x.qv.length=0
  ·have e:((x.qv.length:Int)==0)=true:=by simp[M]
   rw[Xa2 e];simp[M]
  have e:¬ ((x.qv.length:Int)==0)=true:=by simpa using M
  have e2:decide (((i+1:Nat):Int)>0)=true:=by simp
  rw[Xa1 e,Xa2 e2,AA,AB,Q x hx];simp only[M,ne_eq,Xev,Xf3,Xco];generalize (x.qv.all CS&&zm (λa b=>!x.Set || Fk a b) x.qv)=c;cases x.Set<;>cases y.Set<;>cases c<;>rfl
 have P:=gB p 0 (by omega);rw[Xbc] at P;have P:p.foldl (λ(v:Int) s=>AG (v+(s.qv.length:Int))) 0=(DP p:Int):=P;rw[P];unfold C5;have e:decide ((DP p:Int)<=64)=decide (DP p<=64):=by rw[X25];simp;omega
 simp only[e];generalize (p.all Jz&&zm Mb p)=c;cases c<;>rfl
def Gq {p:O r8}(H:p.length<=1000000000)(J:DP p<=1000000000):CM p=some (C5 p):=by
 unfold CM;refine WA H J (λnext x i v=>rfl) λs next x i=>?_
 have e:(!CS x)=(decide (x < 1) || decide (x>4294967295)):=by unfold CS;rw[X25];simp<;>omega
 rw[AB,AB,e];cases decide (x < 1)<;>cases decide (x>4294967295)<;>rfl
def Ri {p:O r8}(H:p.length<=1000000000)(J:DP p<=1000000000):G3 p=some (C5 p):=by
 unfold G3;refine WA H J (λnext x i v=>rfl) λs next x i=>?_
 rw[Kk];rfl
def Qi {p:O r8}(H:p.length<=1000000000)(J:DP p<=1000000000):Nv p=C5 p:=by unfold Nv;rw[Gq H J];rfl
def Qq (p:O r8)(b:I){m:O Int}(H:m.length<=1000000):(HV p b m).length<=p.length+1/\DP (HV p b m)<=DP p+m.length:=by
 unfold HV;cases b
 ·simp only[Xcl,Xd4];rcases List.eq_nil_or_concat p with rfl|⟨q,s,rfl⟩
  ·exact⟨by simp,by simp[DP]⟩
  rw[List.concat_eq_append];simp only[List.getLast?_concat,List.dropLast_concat];split
  ·rw[R2,CH];exact⟨by simp,by simp[DP]⟩
  rw[R2,CH,R2,CH];exact⟨by simp,by simp[DP];omega⟩
 simp only[Xet];rw[R2,CH];have:=fY H;exact⟨by simp,by simp only[DP,List.foldl_nil];omega⟩
section
variable {ρ:Type} {F:C ρ} {next:Int×I×j×j×Int×Int×Int×(O r8)×(O oF)×(O iX)->C ρ} {x:gL} {a:gH}
def qj (hd:x.Data.length<=1000000)(h:x.gE=2)(e:fl x.gE=64)(hp:a.Path=[]):FK F next x (Hb a)=match AR a x with|none=>F|some a'=>next (Hb a'):=by
 have er :∀d,Jx a 2 d=(QA d).map λv=>{ a with Path:=v }:=λ_=>rfl;unfold FK Hb AR;dsimp only;rw[AB,Xa1 (by rw[h];decide),Xa2 (by rw[h];rfl),AB,BI x (by rw[e];decide),Xa1 (by rw[e];decide),h,AA,er];by_cases hr:Ey x=true;rotate_left
 ·have hr:Ey x=false:=by simpa using hr
  rw[hr];rfl
 have ck:Ch (([]:O r8)=[])=some ():=by unfold Ch;rw[Xa2 rfl]
 rw[hr,Xa1 (by decide),AB,AB,hp,ck,AA];refine (Bq (λs:O S×O r8×Nat×O Int=>Lk s.2.1 s.2.2.1 s.2.2.2/\(s.1.length+s.2.1.length<=1000000/\s.1.length+DP s.2.1<=1000000)/\s.1.length+s.2.2.2.length<=1000000) (λs=>s.1.length) (λs=>match RM s.1 s.2.1 with|none=>F|some p=>if Nv p=true then next (Hb { a with Path:=p }) else F) ?_ xv (x.Data,[],0,[]) ⟨.inl rfl,by simpa[DP] using hd,by simpa using hd⟩ (BE (by simp only;omega))).trans ?_;rotate_left
 ·unfold QA;dsimp only;cases RM x.Data [] with
  | none=>rfl
  | some p=>rw[Xby];show (if Nv p=true then _ else _)=_;cases Nv p<;>rfl
 rintro next' ⟨b,p,i,l⟩ ⟨h1,⟨P,J⟩,h3⟩ Z;dsimp only at h1 P J h3⊢;match b,P,J,h3,Z with
 | [],P,J,_,_=>rw[ii,Xa1 (by simp),Ri (by omega) (by simp only[X10] at J;omega),AA];show _=(if Nv p=true then next (Hb { a with Path:=p }) else F);simp only[X10] at P J;rw[Qi (by omega) (by omega)];cases C5 p<;>rfl
 | [x],_,_,_,_=>rfl
 | k::c::t,P,J,h3,Z=>
  simp only[X3] at P J h3;rw[Xa2 (by simp;omega),Zk,pY (by omega)];by_cases hb:Lh k c t=true
  ·rw[Xa2 hb,Xa2 hb];rfl
  rw[Xa1 hb,Xa1 hb];have a7:(k.toNat=1\/k.toNat=2)/\1<=c.toNat/\4*c.toNat<=t.length:=by simp only[Lh,Xy] at hb;omega
  obtain⟨b1,b2,b3⟩:=a7;have hc:=c.toNat_lt;have Q:part (k::c::t) 2 ((2+4*c.toNat:Nat):Int)=some (t.take (4*c.toNat)):=by rw[show (2:Int)=((2:Nat):Int) by rfl,Ds (by omega) (by simp;omega)];rw[List.drop_succ_cons,List.drop_succ_cons,Xer,show 2+4*c.toNat-2=4*c.toNat by omega]
  rw[Wj,AA,Uu,AA,wU,Q,AA,Es (by simp;omega),AA,kU b3,AA];have ab:(Cn (t.take (4*c.toNat))).length=c.toNat:=by rw[H8,X15];omega
  generalize hm:Cn (t.take (4*c.toNat))=m at *;have H:(t.drop (4*c.toNat)).length=t.length-4*c.toNat:=X14;have ae:=fY (l:=m) (by omega);have zx:=Qq p (k.toNat==1) (m:=m) (by omega);have U :∀K:O Int->C ρ,AC (τ:=O Int) (λa6=>if ((k.toNat:Int)==1)=true then Xx (NQ m) λa8=>Xx (BM a8) λaa=>a6 aa else a6 m) K=K (if k.toNat=1 then SF m else m):=by
   intro K;rw[AB];by_cases b1:k.toNat=1
   ·rw[Xa2 (by simp[b1]),Xa2 b1];exact VD (by omega)
   rw[Xa1 (by simp;omega),Xa1 b1]
  rw[U];rcases b1 with b1|b1
  ·have e:(k.toNat==1)=true:=by rw[b1];rfl
   have e1:((k.toNat:Int)==1)=true:=by rw[b1];rfl
   rw[e,Tz] at zx;have ef :∀K:I->C ρ,AC (τ:=I) (λM=>if (decide ((AG ((p.length:Int)-1))≥0))=true then if (cond true (!true) false)=true then Xx (gN p (AG ((p.length:Int)-1))) λV=>M (cond true (!V.Set) false) else M false else M false) K=K false:=by intro K;rw[AB];split<;>rfl
   rw[Xa2 b1,e1,ef,AB,Xa1 (by decide),AD (by decide) (by simp;omega),AA,e,Tz];exact Z (t.drop (4*c.toNat),p++[⟨true,SF m⟩],(Xa5 r8.cW p).length+0,SF m) ⟨.inr ⟨p,true,rfl,by simp⟩,⟨by simp only[X2,X19,H];omega,by simp only[H];omega⟩,by simp only[H];omega⟩ (by simp only[H,X3];omega)
  have e:(k.toNat==1)=false:=by rw[b1];rfl
  have e1:((k.toNat:Int)==1)=false:=by rw[b1];rfl
  rw[e] at zx;have ef :∀K:I->C ρ,AC (τ:=I) (λM=>if (decide ((AG ((p.length:Int)-1))≥0))=true then if (cond true (!false) false)=true then Xx (gN p (AG ((p.length:Int)-1))) λV=>M (cond true (!V.Set) false) else M false else M false) K=K (match p.getLast? with|some s=>!s.Set|none=>false):=by
   intro K;have Y:=sd (p:=p) (by omega) K;refine Eq.trans ?_ Y;rw[AB,AB];have:decide (AG ((p.length:Int)-1)≥0)=decide ((p.length:Int)>0):=by rw[AK (by omega),X25];simp;omega
   rw[this];split<;>rfl
  rw[Xa1 (by omega),e1,ef,AB,e];rcases h1 with rfl|⟨q,s,rfl,rfl⟩
  ·rw[Xa1 (by simp),AD (by decide) (by simp),AA,UZ];rw[UZ] at zx;exact Z (t.drop (4*c.toNat),[⟨false,m⟩],(Xa5 r8.cW []).length+0,m) ⟨.inr ⟨[],false,rfl,rfl⟩,⟨by simp only[X19,H];simp only[X10] at P;omega,by simp only[H];omega⟩,by simp only[H];omega⟩ (by simp only[H,X3];omega)
  simp only[X2,X19] at P;cases s
  ·rw[Q0] at zx;rw[Xa2 (by simp),fJ (by omega),F5,AA];rw[Xax];have ck:Ch (q.length=q.length)=some ():=by unfold Ch;rw[Xa2 rfl]
   rw[ck,AA,AD (by decide) (by omega),AA,AA,sH,AA,Q0];exact Z (t.drop (4*c.toNat),q++[⟨false,l++m⟩],q.length,l++m) ⟨.inr ⟨q,false,rfl,rfl⟩,⟨by simp only[X2,X19,H];omega,by simp only[H];omega⟩,by simp only[H,X2];omega⟩ (by simp only[H,X3];omega)
  rw[Kt] at zx;rw[Xa1 (by simp),AD (by decide) (by simp;omega),AA,Kt];exact Z (t.drop (4*c.toNat),q++[⟨true,l⟩]++[⟨false,m⟩],(Xa5 r8.cW (q++[⟨true,l⟩])).length+0,m) ⟨.inr ⟨q++[⟨true,l⟩],false,rfl,by simp⟩,⟨by simp only[X2,X19,H];omega,by simp only[H];omega⟩,by simp only[H];omega⟩ (by simp only[H,X3];omega)
end
end Go.AX.Q33
end
section
namespace Go.AX.Q33
open Go Go.AX
section
variable {ρ:Type} {F:C ρ} {next:Int×(O r8)×I×j×j×Int×Int×Int×(O oF)×(O iX)->C ρ} {x:gL} {a:gH}
end
end Go.AX.Q33
end
section
namespace Go.AX.Q33
open Go Go.AX
def CC (l:O gL)(t:Int):I:=l.any λy=>t==y.gE
def A8 (l:O gL):O gL:=l.foldl (λF x=>if CC F x.gE then F else F++[x]) []
def J4 (l:O gL)(x:gL):A8 (l++[x])=if CC (A8 l) x.gE then A8 l else A8 l++[x]:=by unfold A8;rw[List.foldl_append];rfl
def Fp {l:O gL}{t:Int}:CC l t=true ↔∃y∈l,y.gE=t:=by unfold CC;rw[Xeg];simp only[Xbh];exact⟨λ⟨y,F,H⟩=>⟨y,F,H.symm⟩,λ⟨y,F,H⟩=>⟨y,F,H.symm⟩⟩
def Oz (l m:O gL)(t:Int):CC (l++m) t=(CC l t || CC m t):=by unfold CC;rw[List.any_append]
def K7 (l:O gL):Prop:=l.Pairwise λa b=>a.gE≠b.gE
def FB (l:O gL):K7 (A8 l)/\(∀x∈A8 l,x∈l)/\(∀t,CC (A8 l) t=CC l t)/\(A8 l).length<=l.length:=by
 rw[<- List.reverse_reverse l];generalize l.reverse=m;induction m with
 | nil=>exact⟨.nil,by simp[A8],λt=>rfl,Xak _⟩
 | cons x t Q=>
  obtain⟨K,M,J,V⟩:=Q;rw[Xel,J4];by_cases H:CC (A8 t.reverse) x.gE=true
  ·rw[Xa2 H];refine⟨K,λy F=>Xcf _ (M y F),λu=>?_,by simp only[X2];omega⟩;rw[J u,Oz];by_cases hu:u=x.gE
   ·subst hu;rw[<- J,H];rfl
   have:CC [x] u=false:=by unfold CC;simp[hu]
   rw[this,Bool.or_false]
  rw[Xa1 H];refine⟨Xbj.2 ⟨K,by simp,λa U b P e=>?_⟩,λy F=>?_,λu=>by rw[Oz,Oz,J],by simp only[X2,X19];omega⟩
  ·rw[X11] at P;subst P;exact H (Fp.2 ⟨a,U,e⟩)
  rcases X20.1 F with F|F
  ·exact Xcf _ (M y F)
  exact Xdk _ F
def Pi {l:O gL}(h:K7 l):A8 l=l:=by
 rw[<- List.reverse_reverse l] at h⊢;generalize l.reverse=m at h⊢;induction m with
 | nil=>rfl
 | cons x t F=>rw[Xel] at h⊢;obtain⟨H,_,J⟩:=Xbj.1 h;rw[J4,F H,Xa1];intro q;obtain⟨y,K,e⟩:=Fp.1 q;exact J y K x (by simp) e
def sA {l:O gL}(hl:l.length<=1000000):C7 l=some (A8 l):=by
 have:Ok (C7 l) λr=>r=A8 l:=by
  unfold C7;refine .join (λr=>r=A8 l) (λk U=>?_) λr J=>.ret J;refine .Gd (λi s=>s.2=A8 (l.take i)/\∀t,(A1 s.1 t).getD false=CC s.2 t) ⟨rfl,λt=>rfl⟩ (λs H=>U _ (by rw[H.1,Xd3])) ?_;rintro next x i ⟨m,o⟩ V ⟨K,M⟩ Z
  dsimp only at K M;have a6:=(X13.1 V).1;have Q:=(FB (l.take i)).2.2.2;rw[<- K,X15] at Q;have e:l.take (i+1)=l.take i++[x]:=by rw[Xbr,V];rfl
  have H:=J4 (l.take i) x;rw[<- e,<- K] at H;refine .bind (P:=λv=>v=CC o x.gE) ⟨_,rfl,M _⟩ λv hv=>?_;subst hv;refine .join (λr=>r=A8 (l.take (i+1))/\∀t,CC r t=(t==x.gE || CC o t)) (λk U=>.ite (λF=>.bind (Ok.gO (by decide) (by simp;omega)) λr J=>U r ?_) λF=>U o ?_) λr J=>Z _ ⟨J.1,λt=>?_⟩
  ·have F:CC o x.gE=false:=by simpa using F
   rw[F,Xa1 (by decide)] at H;rw[H,J];refine⟨rfl,λt=>?_⟩;rw[Oz,Bool.or_comm];unfold CC;simp
  ·have F:CC o x.gE=true:=by simpa using F
   rw[F,Xa2 rfl] at H;rw[H];refine⟨rfl,λt=>?_⟩;by_cases Y:t=x.gE
   ·subst Y;rw[F];simp
   have:(t==x.gE)=false:=by simpa using Y
   rw[this];rfl
  dsimp only;rw[J.2,Ay,<- M];cases (t==x.gE)<;>rfl
 obtain⟨r,K,M⟩:=this;rw[K,M]
def MA:gH->O gL->C gH
 | a,[]=>some a
 | a,x::t=>(AR a x).bind λF=>MA F t
structure Fit (l:List gL)(a:gH):Prop where
 d:K7 l
 z :∀x∈l,x.Data.length<=1000000
 p :∀x∈l,x.gE=2->a.Path=[]
 c :∀x∈l,x.gE=8->a.fT=[]
 l :∀x∈l,x.gE=32->a.iX=[]
def YC {a F:gH}{x:gL}(h:AR a x=some F):(x.gE≠2->F.Path=a.Path)/\(x.gE≠8->F.fT=a.fT)/\(x.gE≠32->F.iX=a.iX)/\F.oE=a.oE:=by
 unfold AR at h;split at h
 ·obtain rfl:=X22 h;exact⟨λ_=>rfl,λ_=>rfl,λ_=>rfl,rfl⟩
 split at h
 ·unfold Jx at h;rcases E2 x.gE with ⟨e,_⟩|⟨e,_⟩|⟨e,_⟩|⟨e,_⟩|⟨e,_⟩|⟨e,_⟩|⟨e,_⟩|⟨e,_⟩|⟨e1,e2,e3,e4,H,J,K,M,_⟩;iterate 8
   ·rw[e] at h⊢;obtain⟨v,_,rfl⟩:=Xb3.1 h;exact⟨λq=>by first|rfl|exact absurd rfl q,λq=>by first|rfl|exact absurd rfl q,λq=>by first|rfl|exact absurd rfl q,rfl⟩
  rw[Xa1 e1,Xa1 e2,Xa1 e3,Xa1 e4,Xa1 H,Xa1 J,Xa1 K,Xa1 M] at h;obtain rfl:=X22 h;exact⟨λ_=>rfl,λ_=>rfl,λ_=>rfl,rfl⟩
 simp at h
def Fit.next {x:gL}{t:O gL}{a J:gH}(f:Fit (x::t) a)(h:AR a x=some J):Fit t J:=by obtain⟨K,M,P,_⟩:=YC h;obtain⟨H,Q⟩:=Xab.1 f.d;exact⟨Q,λy F=>f.z y (X16 _ F),λy F e=>(K (e▸H y F)).trans (f.p y (X16 _ F) e), λy F e=>(M (e▸H y F)).trans (f.c y (X16 _ F) e),λy F e=>(P (e▸H y F)).trans (f.l y (X16 _ F) e)⟩
def pL {ρ:Type}{F:C ρ}{next:Int×I×j×j×Int×Int×Int×(O r8)×(O oF)×(O iX)->C ρ}{x:gL}{a:gH}{t:O gL}(f:Fit (x::t) a):FK F next x (Hb a)=match AR a x with|none=>F|some J=>next (Hb J):=by
 have H:=f.z x (by simp);rcases E2 x.gE with ⟨h,e⟩|⟨h,e⟩|⟨h,e⟩|⟨h,e⟩|⟨h,e⟩|⟨h,e⟩|⟨h,e⟩|⟨h,e⟩|⟨K,M,P,Q,U,V,Y,Z,e⟩
 ·exact rh h e
 ·exact qj H h e (f.p x (by simp) h)
 ·exact qz h e
 ·exact rJ h e
 ·exact rB h e
 ·exact sO H h e
 ·exact pP H h e
 ·exact nj h e
 exact qk ⟨K,M,P,Q,U,V,Y,Z⟩ e
def tG {ρ:Type}{F:C ρ}{K:Int×I×j×j×Int×Int×Int×(O r8)×(O oF)×(O iX)->C ρ} :∀(l:O gL) (i:Nat) (a:gH),Fit l a->AL K (λnext x _ s=>FK F next x s) l i (Hb a)=match MA a l with|none=>F|some H=>K (Hb H)
 | [],_,_,_=>rfl
 | x::t,i,a,f=>by
  show FK F (λs=>AL K (λnext x _ s=>FK F next x s) t (i+1) s) x (Hb a)=_;rw[pL f];unfold MA;cases h:AR a x with
  | none=>rfl
  | some H=>exact tG t (i+1) H (f.next h)
def Jv (x:gL):I:=Lb x.gE&&(decide (1<=x.gE/\x.gE<=255)&&(bt x.Flags 64 !=0&&decide (x.Data.length<=255)))
def conv (x:gL):gL:=⟨224,x.gE,x.Data⟩
def GN (l:O gL):O gL:=(Xex 1 255).flatMap λ(k:Nat)=>l.flatMap λx=>if (x.gE==(k:Int)&&Jv x)=true then [conv x] else []
def K3 (x:gL):O Int:=[x.gE]
def OD (a b:gL):(K3 a).length=(K3 b).length:=rfl
def Vh {l:O gL}{y:gL}:y∈GN l ↔∃x∈l,Jv x=true/\y=conv x:=by
 unfold GN;simp only[Xc9,List.mem_range'_1];constructor
 ·rintro⟨k,F,x,H,h⟩;split at h
  ·rename_i K;simp only[X24] at K;exact⟨x,H,K.2,by simpa using h⟩
  simp at h
 rintro⟨x,H,F,rfl⟩;have J:=F;simp only[Jv,X24,Xy] at J;refine⟨x.gE.toNat,by omega,x,H,?_⟩;rw[Xa2]
 ·simp
 rw[F,Xd8,Xbh];omega
def QP {α:Type}{R:α->α->Prop}{c:I}{x:α}:(if c=true then [x] else []).Pairwise R:=by
 cases c
 ·exact .nil
 exact List.pairwise_singleton _ _
def PO {l:O gL}(h:K7 l):(GN l).Pairwise λa b=>Gb K3 a b=true:=by
 unfold GN;rw[Xe9];have J :∀(k:Nat) (x y:gL),y∈(if (x.gE==(k:Int)&&Jv x)=true then [conv x] else [])->y.gE=k/\x.gE=k:=by
  intro k x y F;split at F
  ·rename_i K;simp only[X24,Xbh] at K;rw[X11] at F;subst F;exact⟨K.1,K.1⟩
  simp at F
 constructor
 ·intro k _;rw[Xe9];refine⟨λx _=>QP,h.imp λ{a b} H x M y F=>?_⟩;exact absurd ((J k a x M).2.trans (J k b y F).2.symm) H
 refine (List.pairwise_lt_range' (s:=1) (n:=255)).imp λ{a b} H x M y F=>?_;obtain⟨U,_,P⟩:=Xc9.1 M;obtain⟨y1,_,Q⟩:=Xc9.1 F;have e1:=(J a U x P).1;have e2:=(J b y1 y Q).1;unfold Gb K3;rw[Xy,Vp,Xa2 (by omega)];decide
end Go.AX.Q33
end
