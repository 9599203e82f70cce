/-
  Texts of one proof, packed.
-/
import Derived.Test.YtgbncopbacigiaaGreatDoorD18
set_option linter.all false
set_option maxRecDepth 100000
set_option maxHeartbeats 4000000
open List renaming length_map→X10,length_append→X11,length_cons→X12,length_nil→X13,mem_singleton→X14,length_drop→X17,length_take→X18,mem_cons_of_mem→X19,length_replicate→X20,length_set→X21,length_singleton→X22,mem_append→X23
open Option.some renaming inj→X25
open Bool renaming and_eq_true→X27,eq_iff_iff→X28
open Nat renaming mul_le_mul_right→X31,add_mul→X32
open Option renaming bind→Xd,getD→Xde
open Int renaming toNat→Xi,fdiv→Xcd
open BitVec renaming ofInt→Wv
open UInt8 renaming ofNat→Xcv
section
namespace Go.AX.Q29
open Go Go.AX
def V1 {α ρ:Type}{K:Unit->C ρ}{l:O α}{body:(Unit->C ρ)->α->Nat->Unit->C ρ}(h :∀next x (i:Nat),iX l (i:Int)=some x->body next x i ()=next ()):AI K body l 0 ()=K ():=by
 have key :∀(t p:O α),l=p++t->AI K body t p.length ()=K ():=by
  intro t;induction t with
  | nil=>intro p _;rfl
  | cons x t F=>intro p e;show body (λs=>AI K body t (p.length+1) s) x p.length ()=_;rw[h _ x p.length (by rw[e];exact F3 p x t)];have:=F (p++[x]) (by rw[e];simp);simpa using this
 exact key l [] rfl
def Rr (l:O kI):BY l l=some true:=by unfold BY;rw[Xj (by simp),AB];refine V1 λnext x i hg=>?_;rw[AB];simp only[hg,AA,Xca,Xdg,Xcw,Bool.not_true];rfl
def W8 (l:O r8):Dy l l=some true:=by unfold Dy;rw[Xj (by simp),AB];refine V1 λnext x i hg=>?_;rw[hg,AA,(rC x x).2 rfl];rfl
def Xu (l:O n8):BJ l l=some true:=by unfold BJ;rw[Xj (by simp),AB];refine V1 λnext x i hg=>?_;rw[hg,AA,(qu x x).2 rfl];rfl
def XR (l:O oF):Dw l l=some true:=by unfold Dw;rw[Xj (by simp),AB];refine V1 λnext x i hg=>?_;rw[AB,AB,hg,AA,Xcw,Xj (by decide),AA];show (if (cond false true ((x.n7.length:Int) !=(x.n7.length:Int)))=true then _ else _)=_;rw[Xca,Xj (by decide),AB];refine V1 λnext H J F=>?_;rw[AA,F,AA,Xca];rfl
def qQ (a b:Addr):Addr.rO a b=true↔a=b:=by
 unfold Addr.rO;simp only[X27,Xbi,Xd3,Int.natCast_inj,Xck];constructor
 ·rintro⟨F,H,J⟩;cases a;cases b;simp_all
 rintro rfl;exact⟨rfl,rfl,rfl⟩
def Zp (a:gH):CQ a a=some true:=by unfold CQ;rw[AB,Xy (by simp),XR,AA,(qQ _ _).2 rfl,W8,AA,Xu,AA,Rr,AA,Xcw,Xcw,Xcw];rfl
def lC (a b:kI):tR VQ a b=tX a b:=by
 unfold tR VQ tX;rw[Zr,gi,X28,Xe,Xe];split
 ·simp[*]
 split<;>omega
def pi {l:O kI}(Y:l.length<=1000000){K:Unit->C I} : AI (σ:=Unit) K (λF J P _=>AC (τ:=I) (λH=>if (decide (J.oA<1))=true then H true else if (cond false true (decide (J.oA>255)))=true then H true else Xd (CL J.oA) λQ=>if (cond false true (!Q))=true then H true else if (cond false true (J.Flags !=224))=true then H true else if (cond false true (decide ((J.Data.length:Int)>255)))=true then H true else if (decide ((P:Int)>0))=true then Xd (iX l (AQ ((P:Int)-1))) λU=>H (cond false true (cond true (decide (U.oA≥J.oA)) false)) else H false ) λV=>if V=true then some false else F ()) l 0 ()=if EB l=true then K () else some false:=by
 have M :∀x:kI,okO x=!(decide (x.oA<1) || (decide (x.oA>255) || ((!vp x.oA) || ((x.Flags !=224) || decide ((x.Data.length:Int)>255))))):=by
  intro x;unfold okO;have e1:decide (1<=x.oA/\x.oA<=255)=(!decide (x.oA<1)&&!decide (x.oA>255)):=by rw[X28];simp
  have e2:decide (x.Flags=224)=!(x.Flags !=224):=by rw[X28];simp
  have e3:decide (x.Data.length<=255)=!decide ((x.Data.length:Int)>255):=by rw[X28];simp;omega
  rw[e1,e2,e3];cases decide (x.oA < 1)<;>cases decide (x.oA>255)<;>cases vp x.oA<;>cases (x.Flags !=224)<;>cases decide ((x.Data.length:Int)>255)<;>rfl
 refine lV (ok:=okO) (lt:=tX) (by omega) (λnext x _=>?_) λnext x y i _ _ hg=>?_
 ·rw[AB,IS,AA,M];cases decide (x.oA < 1)<;>cases decide (x.oA>255)<;>cases vp x.oA<;>cases (x.Flags !=224)<;>cases decide ((x.Data.length:Int)>255)<;>rfl
 have e:decide (((i+1:Nat):Int)>0)=true:=by simp
 have e2:decide (y.oA≥x.oA)=!tX y x:=by unfold tX;rw[X28];simp
 rw[AB,IS,AA,M,hg,AA,e,e2];cases decide (x.oA < 1)<;>cases decide (x.oA>255)<;>cases vp x.oA<;>cases (x.Flags !=224)<;>cases decide ((x.Data.length:Int)>255)<;>cases tX y x<;>rfl
def KQ {a:gH}(h:vb a):Bf a=some (Eh a):=by
 unfold Bf;rw[AB];refine (pi h.o).trans ?_;unfold Eh;by_cases F:EB a.lf=true;rotate_left
 ·have F:EB a.lf=false:=by simpa using F
  rw[F];rfl
 rw[F,Xy rfl,AB,HV (by have:=h.p;omega) (by have:=h.t;omega),AA,Dc,AA,PV (by have:=h.c;omega),Ks (by have:=h.l;omega)];simp only[AA];have J:decide (-1<=a.gS/\a.gS<=2)=(decide (a.gS≥-1)&&decide (a.gS<=2)):=by rw[X28];simp
 have K:decide (-1<=a.sd/\a.sd<=4294967295)=(decide (a.sd≥-1)&&decide (a.sd<=4294967295)):=by rw[X28];simp
 have M:decide (-1<=a.rh/\a.rh<=4294967295)=(decide (a.rh≥-1)&&decide (a.rh<=4294967295)):=by rw[X28];simp
 have P:Bt a.rX=(decide (a.rX≥1)&&decide (a.rX<=4294967295)):=rfl;have Q:decide (a.rX=-1)=(a.rX==-1):=rfl;have U:decide (a.lf.length<=8)=decide ((a.lf.length:Int)<=8):=by rw[X28];simp;omega
 rw[J,K,M,P,Q,U];generalize decide (a.gS≥-1)=b1;generalize decide (a.gS<=2)=b2;generalize DW a.Path=b3;generalize a.Next.ok=b4;generalize decide (a.sd≥-1)=b5;generalize decide (a.sd<=4294967295)=b6;generalize decide (a.rh≥-1)=b7;generalize decide (a.rh<=4294967295)=b8;generalize (a.rX==-1)=b9;generalize decide (a.rX≥1)=vq;generalize decide (a.rX<=4294967295)=wX;generalize IG a.fT=wU;generalize II a.n8=xS;generalize decide ((a.lf.length:Int)<=8)=H;cases b1
 ·rfl
 cases b2
 ·rfl
 cases b3
 ·rfl
 cases b4
 ·rfl
 cases b5
 ·rfl
 cases b6
 ·rfl
 cases b7
 ·rfl
 cases b8
 ·rfl
 cases b9<;>cases vq<;>cases wX<;>cases wU<;>cases xS<;>cases H<;>rfl
def w4 (n:Int):O S:=[(BF (Xcd n (2^(min (Xi 24) 64)))),(BF (Xcd n (2^(min (Xi 16) 64)))),(BF (Xcd n (2^(min (Xi 8) 64)))),(BF n)]
def w2 (n:Int):O S:=[(BF (Xcd n (2^(min (Xi 8) 64)))),(BF n)]
def VF (k n:Nat)(J:k<64)(K:n=8*k)(M:k<9):min (Xi ((AY (8*((AY (k:Int)).toNat:Int))).toNat:Int)) 64=min (Xi (n:Int)) 64:=by
 have F:(AY (k:Int)).toNat=k:=by unfold AY;simp only[Xad];omega
 rw[F];have H:(AY (8*(k:Int))).toNat=n:=by unfold AY;simp only[Xad];omega
 rw[H]
def fdiv_one (n:Int):Xcd n (2^(min (Xi ((0:Nat):Int)) 64))=n:=by have:((2:Int)^(min (Xi ((0:Nat):Int)) 64))=1:=rfl;rw[this,Int.fdiv_one]
def YN (v:Int){n:Int}(P:n=4\/n=2):AP v n=some (if n=4 then w4 v else w2 v):=by
 unfold AP;rw[AB];have H:=VF 3 24 (by omega) rfl (by omega);have J:=VF 2 16 (by omega) rfl (by omega);have K:=VF 1 8 (by omega) rfl (by omega);have M:=VF 0 0 (by omega) rfl (by omega);have H:min (Xi ((AY (8*((AY (3:Int)).toNat:Int))).toNat:Int)) 64=min (Xi 24) 64:=H;have J:min (Xi ((AY (8*((AY (2:Int)).toNat:Int))).toNat:Int)) 64=min (Xi 16) 64:=J;have K:min (Xi ((AY (8*((AY (1:Int)).toNat:Int))).toNat:Int)) 64=min (Xi 8) 64:=K;have M:min (Xi ((AY (8*((AY (0:Int)).toNat:Int))).toNat:Int)) 64=min (Xi ((0:Nat):Int)) 64:=M;refine (Cm (λs:Int×O S=>(s.1=3\/s.1=2\/s.1=1\/s.1=0\/s.1=-1)/\s.2.length+(s.1+1).toNat<=4) (λs=>(s.1+1).toNat) (λs=>some (s.2++(w4 v).drop (3-s.1).toNat)) ?_ rp (AQ (n-1),[]) ?_ ?_).trans ?_
 ·rintro next ⟨i,l⟩ ⟨Q,U⟩ F
  dsimp only at Q U⊢;rcases Q with rfl|rfl|rfl|rfl|rfl
  ·rw[Xy (by decide),H,AD (by decide) (by simp only[X22];omega),AA,AN (by omega),F _ ⟨by simp,by simp only[X11,X22];omega⟩ (by simp only;omega)];simp[w4]
  ·rw[Xy (by decide),J,AD (by decide) (by simp only[X22];omega),AA,AN (by omega),F _ ⟨by simp,by simp only[X11,X22];omega⟩ (by simp only;omega)];simp[w4]
  ·rw[Xy (by decide),K,AD (by decide) (by simp only[X22];omega),AA,AN (by omega),F _ ⟨by simp,by simp only[X11,X22];omega⟩ (by simp only;omega)];simp[w4]
  ·rw[Xy (by decide),M,fdiv_one,AD (by decide) (by simp only[X22];omega),AA,AN (by omega),F _ ⟨by simp,by simp only[X11,X22];omega⟩ (by simp only;omega)];simp[w4]
  rw[Xj (by decide)];simp[w4]
 ·dsimp only;rw[AN (by omega)];rcases P with rfl|rfl
  ·exact⟨.inl rfl,by decide⟩
  exact⟨.inr (.inr (.inl rfl)),by decide⟩
 ·dsimp only;rw[AN (by omega)];exact BK (by omega)
 dsimp only;rw[AN (by omega)];rcases P with rfl|rfl<;>rfl
def PU (v:Int):AP v 4=some (w4 v):=YN v (.inl rfl)
def lS (v:Int):AP v 2=some (w2 v):=YN v (.inr rfl)
def LQ (n:Int):(w4 n).length=4:=rfl
def R1 (l:O Int):(l.flatMap w4).length=4*l.length:=by
 induction l with
 | nil=>rfl
 | cons x t F=>rw[Xac,X11,F,LQ,X12];omega
def jb (s:oF):O S:=[(if s.Set=true then (1:S) else 2),BF (s.n7.length:Int)]++s.n7.flatMap w4
def SK (p:O oF):O S:=p.flatMap jb
def Vh (s:oF):(jb s).length=2+4*s.n7.length:=by unfold jb;rw[X11,R1];rfl
def Nh (p:O oF):(SK p).length=2*p.length+4*tg p:=by
 unfold SK;induction p with
 | nil=>rfl
 | cons s t F=>rw[Xac,X11,F,Vh,X12,ED];omega
def fP {p:O oF}(h:2*p.length+4*tg p<=100000000){ρ:Type}{K:O S->C ρ}:AC (τ:=(O S)) (λk7=>AI (σ:=(O S)) (λQ=>k7 Q ) (λH (J:oF) i11 Q=>AC (τ:=(O S)) (λU=>AC (τ:=S) (λP=>if J.Set=true then P (1:S) else P (2:S) ) λV=>Xd (gE (α:=S) 1 Q ([V,(BF (J.n7.length:Int))]:O S)) λY=>AC (τ:=(O S)) (λZ=>AI (σ:=(O S)) (λM=>Z M ) (λF (a1:Int) i20 M=>Xd (AP a1 4) λa6=>Xd (gE (α:=S) 1 M a6) λa7=>F a7 ) J.n7 0 Y ) λa8=>U a8 ) λaa=>H aa ) p 0 ([]:O S) ) K=K (SK p):=by
 rw[AB];have hl:=Nh p;unfold SK at hl⊢;refine (ec (g:=jb) (N:=100000000) (by rw[hl];simp only[X13];omega) λnext s i v _ hv=>?_).trans rfl;rw[Vh] at hv;rw[AB,HK,AD (by decide) (by simp;omega),AA,AB];refine (ec (g:=w4) (N:=1000000000) (by rw[R1];simp;omega) λnext x i v _ hv=>?_).trans ?_
 ·rw[PU,AA,AD (by decide) hv,AA]
 rw[Xau];rfl
def Wc (c:r8):O S:=w2 c.A++w2 c.B
def Qb (c:n8):O S:=w4 c.A++(w4 c.B++w4 c.C)
def SU (c:r8):(Wc c).length=4:=rfl
def Qu (c:n8):(Qb c).length=12:=rfl
def OE (l:O r8):(l.flatMap Wc).length=4*l.length:=by
 induction l with
 | nil=>rfl
 | cons x t F=>rw[Xac,X11,F,SU,X12];omega
def Nb (l:O n8):(l.flatMap Qb).length=12*l.length:=by
 induction l with
 | nil=>rfl
 | cons x t F=>rw[Xac,X11,F,Qu,X12];omega
def fd (n k:Nat):Xcd (n:Int) (2^(min (Xi (k:Int)) 64))=((n/2^(min k 64):Nat):Int):=by
 rw[Xa7];have:((2:Int)^(min k 64))=((2^(min k 64):Nat):Int):=by simp
 rw[this,Int.fdiv_eq_ediv_of_nonneg _ (Xcc _),Int.natCast_ediv]
def b4 (n:Nat):O S:=[Xcv (n/16777216),Xcv (n/65536),Xcv (n/256),Xcv n]
def PK {x:j}{k n:Nat}(F:n=8*k)(H:k<8)(J:x.toNat<4294967296):BF ((AY (Xcd (x.toNat:Int) (2^(min (Xi (n:Int)) 64)))).toNat:Int)=Xcv (x.toNat/2^n):=by rw[fd,Nat.min_eq_left (by omega),Ci,MX];congr 1;rw[Xad,Xbe];exact Nat.lt_of_le_of_lt (Nat.div_le_self _ _) (by omega)
def Addr.four {a:Addr}(h:a.ok=true)(H:a.V6=false):a.Hi.toNat=0/\a.Lo.toNat<4294967296:=by
 unfold Addr.ok at h;rw[H,Xdg] at h;cases F:((a.Hi.toNat:Int)==0)
 ·rw[F] at h;simp at h
 rw[F,Xcr,Xe] at h;simp only[Xbi] at F;omega
def bA {a:Addr}(h:a.ok=true)(Q:a.V6=false):BC a=some (b4 a.Lo.toNat):=by
 obtain⟨_,F⟩:=Addr.four h Q;unfold BC;rw[Dc,AA,h,Xj (by decide),AB,Q,Xj (by decide)];show AC _ _=_;rw[AB];have J:=VF 3 24 (by omega) rfl (by omega);have K:=VF 2 16 (by omega) rfl (by omega);have M:=VF 1 8 (by omega) rfl (by omega);have P:=VF 0 0 (by omega) rfl (by omega);have J:min (Xi ((AY (8*((AY (Int.tmod 3 8)).toNat:Int))).toNat:Int)) 64=min (Xi ((24:Nat):Int)) 64:=J;have K:min (Xi ((AY (8*((AY (Int.tmod 2 8)).toNat:Int))).toNat:Int)) 64=min (Xi ((16:Nat):Int)) 64:=K;have M:min (Xi ((AY (8*((AY (Int.tmod 1 8)).toNat:Int))).toNat:Int)) 64=min (Xi ((8:Nat):Int)) 64:=M;have P:min (Xi ((AY (8*((AY (Int.tmod 0 8)).toNat:Int))).toNat:Int)) 64=min (Xi ((0:Nat):Int)) 64:=P;refine (Cm (λs:Int×O S=>(s.1=3\/s.1=2\/s.1=1\/s.1=0\/s.1=-1)/\s.2.length+(s.1+1).toNat<=4) (λs=>(s.1+1).toNat) (λs=>some (s.2++(b4 a.Lo.toNat).drop (3-s.1).toNat)) ?_ rp (AQ (4-1),[]) ?_ ?_).trans ?_
 ·rintro next ⟨i,l⟩ ⟨U,V⟩ H
  dsimp only at U V⊢;rcases U with rfl|rfl|rfl|rfl|rfl
  ·rw[Xy (by decide),AB,Xj (by decide),J];show Xd _ _=_;rw[PK (n:=24) (k:=3) rfl (by omega) F,AD (by decide) (by simp only[X22];omega),AA,AN (by omega),H _ ⟨by simp,by simp only[X11,X22];omega⟩ (by simp only;omega)];simp[b4]
  ·rw[Xy (by decide),AB,Xj (by decide),K];show Xd _ _=_;rw[PK (n:=16) (k:=2) rfl (by omega) F,AD (by decide) (by simp only[X22];omega),AA,AN (by omega),H _ ⟨by simp,by simp only[X11,X22];omega⟩ (by simp only;omega)];simp[b4]
  ·rw[Xy (by decide),AB,Xj (by decide),M];show Xd _ _=_;rw[PK (n:=8) (k:=1) rfl (by omega) F,AD (by decide) (by simp only[X22];omega),AA,AN (by omega),H _ ⟨by simp,by simp only[X11,X22];omega⟩ (by simp only;omega)];simp[b4]
  ·rw[Xy (by decide),AB,Xj (by decide),P];show Xd _ _=_;rw[PK (n:=0) (k:=0) rfl (by omega) F,AD (by decide) (by simp only[X22];omega),AA,AN (by omega),H _ ⟨by simp,by simp only[X11,X22];omega⟩ (by simp only;omega)];simp[b4]
  rw[Xj (by decide)];simp[b4]
 ·dsimp only;rw[AN (by omega)];exact⟨.inl rfl,by decide⟩
 ·dsimp only;rw[AN (by omega)];exact BK (by omega)
 dsimp only;rw[AN (by omega)];rfl
def KV (a:gH):I:=!a.Next.V6&&!(Addr.rO a.Next ⟨false,0,0⟩)
def G (a:gH)(k:Int):C (O S):=
 if k=1 then (if a.gS≠-1 then some [BF a.gS] else none) else
 if k=2 then (if a.gS≠-1\/a.Path≠[] then some (SK a.Path) else none) else
 if k=3 then (if KV a=true then some (b4 a.Next.Lo.toNat) else none) else
 if k=4 then (if a.sd≠-1 then some (w4 a.sd) else none) else
 if k=5 then (if a.rh≠-1 then some (w4 a.rh) else none) else
 if k=8 then (if a.fT≠[] then some (a.fT.flatMap Wc) else none) else
 if k=32 then (if a.n8≠[] then some (a.n8.flatMap Qb) else none) else
 if k=35 then (if a.rX≠-1 then some (w4 a.rX) else none) else none
def uq (a:gH)(k:Int):O kI:=match G a k with
 | some b=>[⟨fl k,k,b⟩]
 | none=>[]
def wa (l:O kI)(k:Int):O kI:=l.flatMap λx=>if (x.oA==k)=true then [x] else []
def uG (a:gH):O kI:=(List.range' 0 256).flatMap λ(k:Nat)=>uq a k++wa a.lf k
def TM {a:gH}{k:Int}(h:fl k=0):G a k=none:=by
 rcases ME k with ⟨_,e⟩|⟨_,e⟩|⟨_,e⟩|⟨_,e⟩|⟨_,e⟩|⟨_,e⟩|⟨_,e⟩|⟨_,e⟩|⟨e1,e2,e3,e4,F,H,J,K,_⟩;iterate 8 (rw[e] at h;exact absurd h (by decide))
 unfold G;rw[Xj e1,Xj e2,Xj e3,Xj e4,Xj F,Xj H,Xj J,Xj K]
def PH {l:O kI}{k:Int}{y:kI}:y∈wa l k↔y∈l/\y.oA=k:=by
 unfold wa;rw[Xc5];constructor
 ·rintro⟨x,F,h⟩;split at h
  ·rename_i H;rw[X14] at h;subst h;exact⟨F,by simpa using H⟩
  simp at h
 rintro⟨J,e⟩;exact⟨y,J,by rw[Xy (by simpa using e)];simp⟩
def JE {a:gH}{k:Int}{y:kI}:y∈uq a k ↔∃b,G a k=some b/\y=⟨fl k,k,b⟩:=by
 unfold uq;cases G a k with
 | none=>simp
 | some b=>simp
def MQ {a:gH}{k:Int}{y:kI}(h:y∈uq a k):y.oA=k:=by obtain⟨b,_,rfl⟩:=JE.1 h;rfl
def XI {a:gH}(F:EB a.lf=true){y:kI}:y∈uG a↔(∃k,y∈uq a k)\/y∈a.lf:=by
 unfold uG;simp only[Xc5,List.mem_range'_1,X23];constructor
 ·rintro⟨k,J,h|h⟩
  ·exact .inl ⟨_,h⟩
  exact .inr (PH.1 h).1
 rintro (⟨k,h⟩|h)
 ·obtain⟨b,H,_⟩:=JE.1 h;have J:0<=k/\k<256:=by
   rcases ME k with ⟨e,_⟩|⟨e,_⟩|⟨e,_⟩|⟨e,_⟩|⟨e,_⟩|⟨e,_⟩|⟨e,_⟩|⟨e,_⟩|e;iterate 8 omega
   rw[TM e.2.2.2.2.2.2.2.2] at H;cases H
  refine⟨k.toNat,by omega,.inl ?_⟩;rw[show ((k.toNat:Nat):Int)=k by omega];exact h
 unfold EB at F;rw[X27,Wo] at F;have:=F.1 y h;simp only[okO,X27,Xe] at this;exact⟨y.oA.toNat,by omega,.inr (PH.2 ⟨h,by omega⟩)⟩
def Ge {l:O kI}(F:EB l=true){x:kI}(h:x∈l):vp x.oA=true/\1<=x.oA/\x.oA<=255/\x.Flags=224/\x.Data.length<=255:=by unfold EB at F;rw[X27,Wo] at F;have:=F.1 x h;simp only[okO,X27,Xe] at this;exact⟨this.2.1,this.1.1,this.1.2,this.2.2.1,this.2.2.2⟩
def eH {t:Int}(h:vp t=true):fl t=0:=by simp only[vp,X27,Xe] at h;exact h.1
def M1 {l:O kI}(F:EB l=true):l.Pairwise λa b=>tX a b=true:=by unfold EB at F;rw[X27] at F;exact (KR lT).1 F.2
def aI {a:gH}(P:EB a.lf=true):(uG a).Pairwise λa b=>tR VQ a b=true:=by
 unfold uG;rw[List.pairwise_flatMap];have Q :∀(k:Nat) y,y∈uq a k++wa a.lf k->y.oA=k:=by
  intro k y F;rcases X23.1 F with h|h
  ·exact MQ h
  exact (PH.1 h).2
 constructor
 ·intro k _;rw[Xb0];refine⟨?_,?_,?_⟩
  ·unfold uq;split
   ·exact List.pairwise_singleton _ _
   exact .nil
  ·unfold wa;rw[List.pairwise_flatMap];refine⟨λx _=>aF,(M1 P).imp λ{p q} J x H y F=>?_⟩;have e1:p.oA=k:=by
    split at H
    ·simpa using ‹(p.oA==(k:Int))=true›
    simp at H
   have e2:q.oA=k:=by
    split at F
    ·simpa using ‹(q.oA==(k:Int))=true›
    simp at F
   simp only[tX,Xe] at J;omega
  intro x H y F;obtain⟨b,U,_⟩:=JE.1 H;obtain⟨K,M⟩:=PH.1 F;have:=eH (Ge P K).1;rw[M] at this;rw[TM this] at U;cases U
 refine (List.pairwise_lt_range' (s:=0) (n:=256)).imp λ{p q} J x H y F=>?_;have e1:=Q p x H;have e2:=Q q y F;rw[lC];simp only[tX,Xe];omega
def jt {a:gH}(F:EB a.lf=true):pQ (uG a):=(aI F).imp λ{p q} h e=>by rw[lC] at h;simp only[tX,Xe] at h;omega
def yV (H:gH)(Z:O (Int×(O S))):Option ((O kI)×Int):=
 AC (τ:=I) (λa1=>if (!(Addr.rO H.Next (⟨false,(0:j),(0:j)⟩:Addr))) then a1 (cond true (!H.Next.V6) false) else a1 false
 ) λaq=>
 AC (τ:=(O (Int×(O S)))) (λa6=>if aq then Xd (BC H.Next) λar=>a6 (A3 Z 3 ar) else a6 Z
 ) λa7=>
 AC (τ:=(O (Int×(O S)))) (λa8=>if (decide (H.sd≥0)) then Xd (AP H.sd 4) λau=>a8 (A3 a7 4 au) else a8 a7
 ) λaa=>
 AC (τ:=(O (Int×(O S)))) (λab=>if (decide (H.rh≥0)) then Xd (AP H.rh 4) λax=>ab (A3 aa 5 ax) else ab aa
 ) λae=>
 AC (τ:=(O (Int×(O S)))×(O S)) (λay=>Xd (sR ((A8 ae 8).isNone=true)) λ_=>AI (σ:=(O (Int×(O S)))×(O S)) (λ(v39,v40)=>ay (v39,v40) ) (λJ (af:r8) i43 (v39,v40)=>Xd (AP af.A 2) λaz=>Xd (gE (α:=S) 1 v40 az) λb0=>Xd (AP af.B 2) λba=>Xd (gE (α:=S) 1 b0 ba) λag=>J ((A3 v39 8 ag),ag) ) H.fT 0 (ae,[])
 ) λ(ah,v49)=>
 AC (τ:=(O (Int×(O S)))×(O S)) (λbb=>Xd (sR ((A8 ah 32).isNone=true)) λ_=>AI (σ:=(O (Int×(O S)))×(O S)) (λ(v51,U)=>bb (v51,U) ) (λK (V:n8) i55 (v51,U)=>Xd (AP V.A 4) λbc=>Xd (gE (α:=S) 1 U bc) λbd=>Xd (AP V.B 4) λbe=>Xd (gE (α:=S) 1 bd be) λbf=>Xd (AP V.C 4) λbg=>Xd (gE (α:=S) 1 bf bg) λai=>K ((A3 v51 32 ai),ai) ) H.n8 0 (ah,[])
 ) λ(aj,bx)=>
 AC (τ:=(O (Int×(O S)))) (λak=>if (decide (H.rX≥0)) then Xd (AP H.rX 4) λbh=>ak (A3 aj 35 bh) else ak aj
 ) λal=>
 AC (τ:=(O kI)) (λbi=>Ai (σ:=Int×(O kI)) (λM (F,v70)=>if (decide (F<256)) then AC (τ:=(O kI)) (λbj=>Xd (some (Xde (A8 al F) [])) λan=>Xd (some (Option.isSome (A8 al F))) λbk=>AC (τ:=(O kI)) (λao=>if bk then Xd (A9 F) λbl=>Xd (gE (α:=S) 1 [] an) λ_=>Xd (gE (α:=kI) 40 v70 ([(⟨bl,F,an⟩:kI)]:O kI)) λbm=>ao bm else ao v70 ) λbn=>AC (τ:=(O kI)) (λbo=>AI (σ:=(O kI)) (λP=>bo P ) (λQ (Y:kI) i82 P=>AC (τ:=(O kI)) (λap=>if (Y.oA==F) then Xd (gE (α:=S) 1 [] Y.Data) λ_=>Xd (gE (α:=kI) 40 P ([{ Y with oA:=F }]:O kI)) λbp=>ap bp else ap P ) λbq=>Q bq ) H.lf 0 bn ) λbr=>bj br ) λbu=>M ((AQ (F+1)),bu) else bi v70 ) rp (0,[])
 ) λbw=>
 some (bw,0)
def yP (H:gH)(Z:O (Int×(O S))):Option ((O kI)×Int):=
 AC (τ:=(O (Int×(O S)))) (λa1=>if (decide (H.sd≥0)) then Xd (AP H.sd 4) λan=>a1 (A3 Z 4 an) else a1 Z
 ) λa6=>
 AC (τ:=(O (Int×(O S)))) (λa7=>if (decide (H.rh≥0)) then Xd (AP H.rh 4) λao=>a7 (A3 a6 5 ao) else a7 a6
 ) λa8=>
 AC (τ:=(O (Int×(O S)))×(O S)) (λap=>Xd (sR ((A8 a8 8).isNone=true)) λ_=>AI (σ:=(O (Int×(O S)))×(O S)) (λ(v39,v40)=>ap (v39,v40) ) (λJ (aa:r8) i43 (v39,v40)=>Xd (AP aa.A 2) λaq=>Xd (gE (α:=S) 1 v40 aq) λar=>Xd (AP aa.B 2) λau=>Xd (gE (α:=S) 1 ar au) λab=>J ((A3 v39 8 ab),ab) ) H.fT 0 (a8,[])
 ) λ(ae,v49)=>
 AC (τ:=(O (Int×(O S)))×(O S)) (λax=>Xd (sR ((A8 ae 32).isNone=true)) λ_=>AI (σ:=(O (Int×(O S)))×(O S)) (λ(v51,U)=>ax (v51,U) ) (λK (V:n8) i55 (v51,U)=>Xd (AP V.A 4) λay=>Xd (gE (α:=S) 1 U ay) λaz=>Xd (AP V.B 4) λb0=>Xd (gE (α:=S) 1 az b0) λba=>Xd (AP V.C 4) λbb=>Xd (gE (α:=S) 1 ba bb) λaf=>K ((A3 v51 32 af),af) ) H.n8 0 (ae,[])
 ) λ(ag,bp)=>
 AC (τ:=(O (Int×(O S)))) (λah=>if (decide (H.rX≥0)) then Xd (AP H.rX 4) λbc=>ah (A3 ag 35 bc) else ah ag
 ) λai=>
 AC (τ:=(O kI)) (λbd=>Ai (σ:=Int×(O kI)) (λM (F,v70)=>if (decide (F<256)) then AC (τ:=(O kI)) (λbe=>Xd (some (Xde (A8 ai F) [])) λaj=>Xd (some (Option.isSome (A8 ai F))) λbf=>AC (τ:=(O kI)) (λak=>if bf then Xd (A9 F) λbg=>Xd (gE (α:=S) 1 [] aj) λ_=>Xd (gE (α:=kI) 40 v70 ([(⟨bg,F,aj⟩:kI)]:O kI)) λbh=>ak bh else ak v70 ) λbi=>AC (τ:=(O kI)) (λbj=>AI (σ:=(O kI)) (λP=>bj P ) (λQ (Y:kI) i82 P=>AC (τ:=(O kI)) (λal=>if (Y.oA==F) then Xd (gE (α:=S) 1 [] Y.Data) λ_=>Xd (gE (α:=kI) 40 P ([{ Y with oA:=F }]:O kI)) λbk=>al bk else al P ) λbl=>Q bl ) H.lf 0 bi ) λbm=>be bm ) λbn=>M ((AQ (F+1)),bn) else bd v70 ) rp (0,[])
 ) λbo=>
 some (bo,0)
def yX (Q:gH)(Z:O (Int×(O S))):Option ((O kI)×Int):=
 AC (τ:=(O (Int×(O S)))) (λa1=>if (decide (Q.rh≥0)) then Xd (AP Q.rh 4) λak=>a1 (A3 Z 5 ak) else a1 Z
 ) λa6=>
 AC (τ:=(O (Int×(O S)))×(O S)) (λal=>Xd (sR ((A8 a6 8).isNone=true)) λ_=>AI (σ:=(O (Int×(O S)))×(O S)) (λ(v39,v40)=>al (v39,v40) ) (λH (a7:r8) i43 (v39,v40)=>Xd (AP a7.A 2) λan=>Xd (gE (α:=S) 1 v40 an) λao=>Xd (AP a7.B 2) λap=>Xd (gE (α:=S) 1 ao ap) λa8=>H ((A3 v39 8 a8),a8) ) Q.fT 0 (a6,[])
 ) λ(aa,v49)=>
 AC (τ:=(O (Int×(O S)))×(O S)) (λaq=>Xd (sR ((A8 aa 32).isNone=true)) λ_=>AI (σ:=(O (Int×(O S)))×(O S)) (λ(v51,U)=>aq (v51,U) ) (λJ (V:n8) i55 (v51,U)=>Xd (AP V.A 4) λar=>Xd (gE (α:=S) 1 U ar) λau=>Xd (AP V.B 4) λax=>Xd (gE (α:=S) 1 au ax) λay=>Xd (AP V.C 4) λaz=>Xd (gE (α:=S) 1 ay az) λab=>J ((A3 v51 32 ab),ab) ) Q.n8 0 (aa,[])
 ) λ(ae,bm)=>
 AC (τ:=(O (Int×(O S)))) (λaf=>if (decide (Q.rX≥0)) then Xd (AP Q.rX 4) λb0=>af (A3 ae 35 b0) else af ae
 ) λag=>
 AC (τ:=(O kI)) (λba=>Ai (σ:=Int×(O kI)) (λK (F,v70)=>if (decide (F<256)) then AC (τ:=(O kI)) (λbb=>Xd (some (Xde (A8 ag F) [])) λah=>Xd (some (Option.isSome (A8 ag F))) λbc=>AC (τ:=(O kI)) (λai=>if bc then Xd (A9 F) λbd=>Xd (gE (α:=S) 1 [] ah) λ_=>Xd (gE (α:=kI) 40 v70 ([(⟨bd,F,ah⟩:kI)]:O kI)) λbe=>ai be else ai v70 ) λbf=>AC (τ:=(O kI)) (λbg=>AI (σ:=(O kI)) (λM=>bg M ) (λP (Y:kI) i82 M=>AC (τ:=(O kI)) (λaj=>if (Y.oA==F) then Xd (gE (α:=S) 1 [] Y.Data) λ_=>Xd (gE (α:=kI) 40 M ([{ Y with oA:=F }]:O kI)) λbh=>aj bh else aj M ) λbi=>P bi ) Q.lf 0 bf ) λbj=>bb bj ) λbk=>K ((AQ (F+1)),bk) else ba v70 ) rp (0,[])
 ) λbl=>
 some (bl,0)
def yG (Y:gH)(Z:O (Int×(O S))):Option ((O kI)×Int):=
 AC (τ:=(O (Int×(O S)))×(O S)) (λai=>Xd (sR ((A8 Z 8).isNone=true)) λ_=>AI (σ:=(O (Int×(O S)))×(O S)) (λ(v39,v40)=>ai (v39,v40) ) (λH (a1:r8) i43 (v39,v40)=>Xd (AP a1.A 2) λaj=>Xd (gE (α:=S) 1 v40 aj) λak=>Xd (AP a1.B 2) λal=>Xd (gE (α:=S) 1 ak al) λa6=>H ((A3 v39 8 a6),a6) ) Y.fT 0 (Z,[])
 ) λ(a7,v49)=>
 AC (τ:=(O (Int×(O S)))×(O S)) (λan=>Xd (sR ((A8 a7 32).isNone=true)) λ_=>AI (σ:=(O (Int×(O S)))×(O S)) (λ(v51,Q)=>an (v51,Q) ) (λJ (U:n8) i55 (v51,Q)=>Xd (AP U.A 4) λao=>Xd (gE (α:=S) 1 Q ao) λap=>Xd (AP U.B 4) λaq=>Xd (gE (α:=S) 1 ap aq) λar=>Xd (AP U.C 4) λau=>Xd (gE (α:=S) 1 ar au) λa8=>J ((A3 v51 32 a8),a8) ) Y.n8 0 (a7,[])
 ) λ(aa,bj)=>
 AC (τ:=(O (Int×(O S)))) (λab=>if (decide (Y.rX≥0)) then Xd (AP Y.rX 4) λax=>ab (A3 aa 35 ax) else ab aa
 ) λae=>
 AC (τ:=(O kI)) (λay=>Ai (σ:=Int×(O kI)) (λK (F,v70)=>if (decide (F<256)) then AC (τ:=(O kI)) (λaz=>Xd (some (Xde (A8 ae F) [])) λaf=>Xd (some (Option.isSome (A8 ae F))) λb0=>AC (τ:=(O kI)) (λag=>if b0 then Xd (A9 F) λba=>Xd (gE (α:=S) 1 [] af) λ_=>Xd (gE (α:=kI) 40 v70 ([(⟨ba,F,af⟩:kI)]:O kI)) λbb=>ag bb else ag v70 ) λbc=>AC (τ:=(O kI)) (λbd=>AI (σ:=(O kI)) (λM=>bd M ) (λP (V:kI) i82 M=>AC (τ:=(O kI)) (λah=>if (V.oA==F) then Xd (gE (α:=S) 1 [] V.Data) λ_=>Xd (gE (α:=kI) 40 M ([{ V with oA:=F }]:O kI)) λbe=>ah be else ah M ) λbf=>P bf ) Y.lf 0 bc ) λbg=>az bg ) λbh=>K ((AQ (F+1)),bh) else ay v70 ) rp (0,[])
 ) λbi=>
 some (bi,0)
def yT (a0:gH)(P:O (Int×(O S))):C ((O kI)×Int):=
 AC (τ:=(O kI)) (λY=>Ai (σ:=Int×(O kI)) (λH (F,v70)=>if (decide (F<256)) then AC (τ:=(O kI)) (λZ=>Xd (some (Xde (A8 P F) [])) λQ=>Xd (some (Option.isSome (A8 P F))) λa1=>AC (τ:=(O kI)) (λU=>if a1 then Xd (A9 F) λa6=>Xd (gE (α:=S) 1 [] Q) λ_=>Xd (gE (α:=kI) 40 v70 ([(⟨a6,F,Q⟩:kI)]:O kI)) λa7=>U a7 else U v70 ) λa8=>AC (τ:=(O kI)) (λaa=>AI (σ:=(O kI)) (λJ=>aa J ) (λK (M:kI) i82 J=>AC (τ:=(O kI)) (λV=>if (M.oA==F) then Xd (gE (α:=S) 1 [] M.Data) λ_=>Xd (gE (α:=kI) 40 J ([{ M with oA:=F }]:O kI)) λab=>V ab else V J ) λae=>K ae ) a0.lf 0 a8 ) λaf=>Z af ) λag=>H ((AQ (F+1)),ag) else Y v70 ) rp (0,[])
 ) λah=>
 some (ah,0)
def Yv (a:gH)(k:Int):(uq a k).length<=1:=by unfold uq;split<;>simp
def kt (l:O kI)(k:Int):(wa l k).length<=l.length:=PW (λx=>by split<;>simp) l
structure tI (m:List (Int×List UInt8))(a:gH)(ks:List Int):Prop where
 h :∀k,A8 m k=if k∈ks then G a k else none
def tI.add {m:O (Int×O S)}{a:gH}{F:O Int}(p:tI m a F)(k:Int){b:O S}(H:G a k=some b):tI (A3 m k b) a (k::F):=⟨λj=>by
 rw[Go.AX.tb,p.h];by_cases h:j=k
 ·subst h;simp[H]
 have:(j==k)=false:=by simpa using h
 rw[this];simp[h]⟩
def tI.skip {m:O (Int×O S)}{a:gH}{F:O Int}(p:tI m a F)(k:Int)(H:G a k=none):tI m a (k::F):=⟨λj=>by
 rw[p.h];by_cases h:j=k
 ·subst h;simp[H]
 simp[h]⟩
def nG {J ρ:Type}{w:J->O S}{k:Int}{N:Nat}{K:O (Int×O S)×O S->C ρ}{body:(O (Int×O S)×O S->C ρ)->J->Nat->O (Int×O S)×O S->C ρ}{l:O J}{m:O (Int×O S)} {R:C ρ} (U:(l.flatMap w).length<=N) (V :∀next x i m b,x∈l->b.length+(w x).length<=N->body next x i (m,b)=next (A3 m k (b++w x),b++w x)) (Y :∀F H,(∀j,A8 F j=if l≠[]/\j=k then some (l.flatMap w) else A8 m j)->K (F,H)=R):AI K body l 0 (m,[])=R:=by
 have key :∀(t:O J) (i:Nat) (m:O (Int×O S)) (b:O S),(∀x∈t,x∈l)->b.length+(t.flatMap w).length<=N->∃F H,AI K body t i (m,b)=K (F,H)/\∀j,A8 F j=if t≠[]/\j=k then some (b++t.flatMap w) else A8 m j:=by
  intro t;induction t with
  | nil=>intro i m b _ _;exact⟨m,b,rfl,λj=>by simp⟩
  | cons x t Z=>
   intro i m b M hl;rw[Xac,X11] at hl;obtain⟨F,H,e,h⟩:=Z (i+1) (A3 m k (b++w x)) (b++w x) (λy hy=>M y (X19 _ hy)) (by rw[X11];omega);refine⟨F,H,?_,λj=>?_⟩
   ·show body (λs=>AI K body t (i+1) s) x i (m,b)=_;rw[V _ x i m b (M x (by simp)) (by omega)];exact e
   rw[h j,Go.AX.tb];by_cases P:j=k
   ·subst P;by_cases Q:t=[]
    ·subst Q;simp
    simp[Q,Xac]
   simp[P]
 obtain⟨F,H,e,h⟩:=key l 0 m [] (λ_ h=>h) (by simpa using U);rw[e];exact Y F H λj=>by rw[h j,Xax]
def lY {a:gH}{m:O (Int×O S)}{ρ:Type}{K:O kI->C ρ}(hO:a.lf.length<=1000000)(hd :∀x∈a.lf,x.Data.length<=1000000)(hg :∀k b,G a k=some b->b.length<=1000000) (hm :∀k,A8 m k=G a k) : AC (τ:=(O kI)) (λa8=>Ai (σ:=Int×(O kI)) (λJ p=>match p with
    | (F,v70)=>if (decide (F<256))=true then
     AC (τ:=(O kI)) (λaa=>Xd (some (Xde (A8 m F) [])) λZ=>Xd (some (Option.isSome (A8 m F))) λab=>AC (τ:=(O kI)) (λH=>if ab=true then Xd (A9 F) λQ=>Xd (gE (α:=S) 1 [] Z) λ_=>Xd (gE (α:=kI) 40 v70 ([(⟨Q,F,Z⟩:kI)]:O kI)) λU=>H U else H v70 ) λae=>AC (τ:=(O kI)) (λaf=>AI (σ:=(O kI)) (λM=>af M ) (λP (V:kI) i82 M=>AC (τ:=(O kI)) (λa1=>if (V.oA==F)=true then Xd (gE (α:=S) 1 [] V.Data) λ_=>Xd (gE (α:=kI) 40 M ([{ V with oA:=F }]:O kI)) λag=>a1 ag else a1 M ) λah=>P ah ) a.lf 0 ae ) λai=>aa ai
     ) λaj=>
     J ((AQ (F+1)),aj)
    else
     a8 v70
   ) rp (0,[])
  ) K=K (uG a):=by
 rw[AB];refine (Cm (λs:Int×O kI=>∃k:Nat,s.1=k/\k<=256/\s.2.length<=k*1000001) (λs=>(256-s.1).toNat) (λs=>K (s.2++(List.range' s.1.toNat (256-s.1.toNat)).flatMap λ(k:Nat)=>uq a k++wa a.lf k)) ?_ rp (0,[]) ⟨0,rfl,by omega,by simp⟩ (BK (by simp only;omega))).trans rfl;rintro next ⟨kk,v⟩ ⟨k,rfl,al,hv⟩ hn
 dsimp only at hv⊢;by_cases hk:k<256
 ·rw[Xy (by simp only[Xe];omega),AB,AA,AA,hm];have he:=Yv a k;have a6 :∀q:O kI->C ρ,AC (τ:=(O kI)) (λH=>if (G a k).isSome=true then Xd (A9 k) λQ=>Xd (gE (α:=S) 1 [] ((G a k).getD [])) λ_=>Xd (gE (α:=kI) 40 v ([(⟨Q,k,((G a k).getD [])⟩:kI)]:O kI)) λU=>H U else H v ) q=q (v++uq a k):=by
   intro q;rw[AB];unfold uq;cases hG:G a k with
   | none=>rw[Xj (by decide),Xag]
   | some b=>have:=hg k b hG;rw[Xy (show (some b).isSome=true from rfl),Jg,AA,Xao,AD (by decide) (by simp;omega),AA,AD (by decide) (by simp;omega),AA]
  rw[a6,AB];have a7:=kt a.lf k;refine (ec (g:=λx:kI=>if (x.oA==(k:Int))=true then [x] else []) (N:=(k+1)*1000001) (by unfold wa at a7;rw[X11];omega) λak x i w hx hw=>?_).trans ?_
  ·rw[AB];by_cases Y:(x.oA==(k:Int))=true
   ·rw[Xy Y] at hw;have:=hd x hx;simp only[X22] at hw;rw[Xy Y,Xy Y,AD (by decide) (by simp;omega),AA,AD (by decide) (by simp;omega),AA];have e:x.oA=(k:Int):=by simpa using Y
    rw[<- e]
   rw[Xj Y,Xj Y,Xag]
  show next (AQ ((k:Int)+1),v++uq a k++wa a.lf k)=_
  rw[AN (by omega),hn _ ⟨k+1,by simp,by omega,by simp only[X11];omega⟩ (by simp only;omega)];have e1:((k:Int)+1).toNat=k+1:=by omega
  have e2:256-k=(256-(k+1))+1:=by omega
  simp only[e1,Xa7];rw[e2,List.range'_succ,Xac,Xau,Xau,Xau]
 rw[Xj (by simp only[Xe];omega)];have:256-(k:Int).toNat=0:=by omega
 rw[this];simp
structure VA (a:gH):Prop where
 O:EB a.lf=true
 o:-1<=a.gS/\a.gS<=2
 p:DW a.Path=true
 n:a.Next.ok=true
 m:-1<=a.sd/\a.sd<=4294967295
 r:-1<=a.rh/\a.rh<=4294967295
 t:a.rX=-1\/(1<=a.rX/\a.rX<=4294967295)
 c:IG a.fT=true
 l:II a.n8=true
 e:a.lf.length<=8
def Nw {a:gH}:Eh a=true↔VA a:=by
 unfold Eh Bt;simp only[X27,Xco,Xe];constructor
 ·rintro⟨H,J,K,M,P,Q,U,V,Y,F⟩;exact⟨H,J,K,M,P,Q,U,V,Y,F⟩
 rintro⟨H,J,K,M,P,Q,U,V,Y,F⟩;exact⟨H,J,K,M,P,Q,U,V,Y,F⟩
def H4 {p:O oF}(h:DW p=true):p.length<=tg p/\tg p<=64:=by
 unfold DW at h;simp only[X27,Wo,Xe] at h;refine⟨?_,h.2⟩;have F:=h.1.1;clear h;induction p with
 | nil=>exact Xa8 _
 | cons s t H=>rw[ED,X12];have M:=H λx J=>F x (X19 _ J);have K:=F s (by simp);simp only[KF,X27,Xe] at K;omega
def VA.sm {a:gH}(v:VA a):vb a:=by obtain⟨H,J⟩:=H4 v.p;have K:=(HZ.1 v.c).2.2;have M:=(HU.1 v.l).2.2;have P:=v.e;exact⟨by omega,by omega,by omega,by omega,by omega,λu F=>by have:=(Ge v.O F).2.2.2.2;omega⟩
def ku {a:gH}(v:VA a){k:Int}{b:O S}(h:G a k=some b):b.length<=768:=by
 obtain⟨F,H⟩:=H4 v.p;have J:=(HZ.1 v.c).2.2;have K:=(HU.1 v.l).2.2;unfold G at h;split at h
 ·split at h
  ·obtain rfl:=X25 h;simp
  cases h
 split at h
 ·split at h
  ·obtain rfl:=X25 h;rw[Nh];omega
  cases h
 split at h
 ·split at h
  ·obtain rfl:=X25 h;simp[b4]
  cases h
 split at h
 ·split at h
  ·obtain rfl:=X25 h;rw[LQ];omega
  cases h
 split at h
 ·split at h
  ·obtain rfl:=X25 h;rw[LQ];omega
  cases h
 split at h
 ·split at h
  ·obtain rfl:=X25 h;rw[OE];omega
  cases h
 split at h
 ·split at h
  ·obtain rfl:=X25 h;rw[Nb];omega
  cases h
 split at h
 ·split at h
  ·obtain rfl:=X25 h;rw[LQ];omega
  cases h
 cases h
def Zx {a:gH}(v:VA a):FX a=some (uG a,0):=by
 have hs:=H4 v.p;have hc:=(HZ.1 v.c).2.2;have hl:=(HU.1 v.l).2.2;unfold FX;rw[KQ v.sm,AA,Nw.2 v,Xj (by decide)];have p0:tI [] a []:=⟨λk=>by simp[A8]⟩;rw[HK];have p1:tI (if decide (a.gS≥0)=true then A3 ([]:List (Int×List S)) (1:Int) [BF a.gS] else []) a [1]:=by
  by_cases h:a.gS≥0
  ·rw[Xy (by simpa using h)];exact p0.add 1 (by unfold G;rw[Xy rfl,Xy (by omega)])
  rw[Xj (by simpa using h)];exact p0.skip 1 (by unfold G;rw[Xy rfl,Xj (by have:=v.o;omega)])
 generalize (if decide (a.gS≥0)=true then A3 ([]:List (Int×List S)) (1:Int) [BF a.gS] else [])=m1 at p1;rw[HK];have eb:(if decide (a.gS≥0)=true then true else (cond false true (decide ((a.Path.length:Int)>0))))=decide (a.gS≠-1\/a.Path≠[]):=by
  have:=v.o;have e:(a.Path≠[])↔0<a.Path.length:=Xc7.symm;by_cases h:a.gS≥0
  ·rw[Xy (by simpa using h),Wd (.inl (by omega))]
  rw[Xj (by simpa using h),Xdg];have h1:a.gS=-1:=by omega
  have e2:(a.gS≠-1\/a.Path≠[])↔0<a.Path.length:=by rw[e];omega
  rw[X28,Xe,Xe,e2];omega
 rw[eb,AB];have M :∃Y,tI Y a [2,1]/\∀(F:Type) (q:List (Int×List S)->C F),(if decide (a.gS≠-1\/a.Path≠[])=true then q (A3 m1 2 (SK a.Path)) else q m1)=q Y:=by
  by_cases h:a.gS≠-1\/a.Path≠[]
  ·exact⟨_,p1.add 2 (by unfold G;rw[Xj (by decide),Xy rfl,Xy h]),λF q=>by rw[Xy (by simpa using h)]⟩
  exact⟨_,p1.skip 2 (by unfold G;rw[Xj (by decide),Xy rfl,Xj h]),λF q=>by rw[Xj (by simpa using h)]⟩
 rw[fP (by omega)];obtain⟨Y,p2,e2⟩:=M;refine (e2 _ (yV a)).trans ?_;unfold yV;have en :∀{F:Type} (q:I->C F),AC (τ:=I) (λZ=>if (!(Addr.rO a.Next (⟨false,(0:UInt64),(0:UInt64)⟩:Addr)))=true then Z (cond true (!a.Next.V6) false) else Z false) q=q (KV a):=by intro F q;rw[AB];unfold KV;cases a.Next.V6<;>cases Addr.rO a.Next ⟨false,0,0⟩<;>rfl
 refine (en _).trans ?_;rw[AB];have P :∃m3,tI m3 a [3,2,1]/\∀(F:Type) (q:List (Int×List S)->C F),(if KV a=true then Xd (BC a.Next) λa6=>q (A3 Y 3 a6) else q Y)=q m3:=by
  by_cases h:KV a=true
  ·have h6:a.Next.V6=false:=by
    unfold KV at h;cases h6:a.Next.V6
    ·rfl
    rw[h6] at h;simp at h
   exact⟨_,p2.add 3 (by unfold G;rw[Xj (by decide),Xj (by decide),Xy rfl,Xy h]),λF q=>by rw[Xy h,bA v.n h6,AA]⟩
  exact⟨_,p2.skip 3 (by unfold G;rw[Xj (by decide),Xj (by decide),Xy rfl,Xj h]),λF q=>by rw[Xj h]⟩
 obtain⟨m3,p3,e3⟩:=P;refine (e3 _ (yP a)).trans ?_;unfold yP;rw[AB];have Q :∃m4,tI m4 a [4,3,2,1]/\∀(F:Type) (q:List (Int×List S)->C F),(if decide (a.sd≥0)=true then Xd (AP a.sd 4) λH=>q (A3 m3 4 H) else q m3)=q m4:=by
  have:=v.m;by_cases h:a.sd≥0
  ·exact⟨_,p3.add 4 (by unfold G;rw[Xj (by decide),Xj (by decide),Xj (by decide),Xy rfl,Xy (by omega)]),λF q=>by rw[Xy (by simpa using h),PU,AA]⟩
  exact⟨_,p3.skip 4 (by unfold G;rw[Xj (by decide),Xj (by decide),Xj (by decide),Xy rfl,Xj (by omega)]),λF q=>by rw[Xj (by simpa using h)]⟩
 obtain⟨m4,p4,e4⟩:=Q;refine (e4 _ (yX a)).trans ?_;unfold yX;rw[AB];have U :∃m5,tI m5 a [5,4,3,2,1]/\∀(F:Type) (q:List (Int×List S)->C F),(if decide (a.rh≥0)=true then Xd (AP a.rh 4) λH=>q (A3 m4 5 H) else q m4)=q m5:=by
  have:=v.r;by_cases h:a.rh≥0
  ·exact⟨_,p4.add 5 (by unfold G;rw[Xj (by decide),Xj (by decide),Xj (by decide),Xj (by decide),Xy rfl,Xy (by omega)]),λF q=>by rw[Xy (by simpa using h),PU,AA]⟩
  exact⟨_,p4.skip 5 (by unfold G;rw[Xj (by decide),Xj (by decide),Xj (by decide),Xj (by decide),Xy rfl,Xj (by omega)]),λF q=>by rw[Xj (by simpa using h)]⟩
 obtain⟨m5,p5,e5⟩:=U;refine (e5 _ (yG a)).trans ?_;unfold yG;have a7:sR ((A8 m5 8).isNone=true)=some ():=by
  have hn:A8 m5 8=none:=by rw[p5.h,Xj (by decide)]
  unfold sR;rw[hn];rfl
 rw[AB,a7,AA]
 refine nG (w:=Wc) (k:=8) (N:=1000000) (l:=a.fT) (by rw[OE];omega) (λnext x i m b _ hb=>by
  rw[SU] at hb;dsimp only;rw[lS,AA,AD (by decide) (by simp[w2];omega),AA,lS,AA,AD (by decide) (by simp[w2];omega),AA,Xau]
  rfl) λm8 b8 h8=>?_
 have p8:tI m8 a [8,5,4,3,2,1]:=⟨λj=>by
  rw[h8 j,p5.h];by_cases hj:j=8
  ·subst hj;have:G a 8=if a.fT≠[] then some (a.fT.flatMap Wc) else none:=rfl;simp[this]
  simp[hj]⟩
 dsimp only;have a1:sR ((A8 m8 32).isNone=true)=some ():=by
  have hn:A8 m8 32=none:=by rw[p8.h,Xj (by decide)]
  unfold sR;rw[hn];rfl
 rw[AB,a1,AA]
 refine nG (w:=Qb) (k:=32) (N:=1000000) (l:=a.n8) (by rw[Nb];omega) (λnext x i m b _ hb=>by
  rw[Qu] at hb;dsimp only;rw[PU,AA,AD (by decide) (by simp[w4];omega),AA,PU,AA,AD (by decide) (by simp[w4];omega),AA,PU,AA,AD (by decide) (by simp[w4];omega),AA,Xau,Xau]
  rfl) λm9 b9 h9=>?_
 have p9:tI m9 a [32,8,5,4,3,2,1]:=⟨λj=>by
  rw[h9 j,p8.h];by_cases hj:j=32
  ·subst hj;have:G a 32=if a.n8≠[] then some (a.n8.flatMap Qb) else none:=rfl;simp[this]
  simp[hj]⟩
 dsimp only;rw[AB];have J :∃V,tI V a [35,32,8,5,4,3,2,1]/\∀(F:Type) (q:List (Int×List S)->C F),(if decide (a.rX≥0)=true then Xd (AP a.rX 4) λH=>q (A3 m9 35 H) else q m9)=q V:=by
  have:=v.t;have hG:G a 35=if a.rX≠-1 then some (w4 a.rX) else none:=rfl;by_cases h:a.rX≥0
  ·exact⟨_,p9.add 35 (by rw[hG,Xy (by omega)]),λF q=>by rw[Xy (by simpa using h),PU,AA]⟩
  exact⟨_,p9.skip 35 (by rw[hG,Xj (by omega)]),λF q=>by rw[Xj (by simpa using h)]⟩
 obtain⟨V,a8,aa⟩:=J;refine (aa _ (yT a)).trans ?_;unfold yT;refine (lY (a:=a) (by have:=v.e;omega) (λx hx=>by have:=(Ge v.O hx).2.2.2.2;omega) (λk b h=>by have:=ku v h;omega) λk=>?_).trans rfl;rw[a8.h];split
 ·rfl
 rename_i K;simp only[Wp,Xbf,Xdm,not_or] at K;unfold G;rw[Xj K.2.2.2.2.2.2.2,Xj K.2.2.2.2.2.2.1,Xj K.2.2.2.2.2.1,Xj K.2.2.2.2.1,Xj K.2.2.2.1,Xj K.2.2.1,Xj K.2.1,Xj K.1]
def NR:O Int:=[1,2,3,4,5,8,32,35]
def bE (a:gH):O kI:=NR.flatMap (uq a)++a.lf
def TD {a:gH}{k:Int}{y:kI}(h:y∈uq a k):k∈NR:=by
 obtain⟨b,F,_⟩:=JE.1 h;rcases ME k with ⟨e,_⟩|⟨e,_⟩|⟨e,_⟩|⟨e,_⟩|⟨e,_⟩|⟨e,_⟩|⟨e,_⟩|⟨e,_⟩|e;iterate 8 (subst e;decide)
 rw[TM e.2.2.2.2.2.2.2.2] at F;cases F
def eL {a:gH}{y:kI}:y∈bE a↔(∃k,y∈uq a k)\/y∈a.lf:=by unfold bE;rw[X23,Xc5];exact⟨λh=>h.imp_left λ⟨k,_,h⟩=>⟨k,h⟩,λh=>h.imp_left λ⟨k,h⟩=>⟨k,TD h,h⟩⟩
def Zw {a:gH}(K:EB a.lf=true):(bE a).Pairwise λx y=>VQ x≠VQ y:=by
 unfold bE;have H :∀{x y:kI},x.oA≠y.oA->VQ x≠VQ y:=λh e=>h (by simpa[VQ] using e);refine Xb0.2 ⟨?_,(M1 K).imp λ{x y} h=>H (by simp only[tX,Xe] at h;omega),λx F y J=>H λe=>?_⟩
 ·rw[List.pairwise_flatMap];refine⟨λk _=>?_,?_⟩
  ·unfold uq;split
   ·exact List.pairwise_singleton _ _
   exact .nil
  have:NR.Pairwise (·≠·):=by decide
  exact this.imp λ{k j} h x F y J=>H (by rw[MQ F,MQ J];exact h)
 obtain⟨k,_,F⟩:=Xc5.1 F;obtain⟨b,M,_⟩:=JE.1 F;have:=eH (Ge K J).1;rw[<- e,MQ F] at this;rw[TM this] at M;cases M
def dD (a:gH):(NR.flatMap (uq a)).length<=8:=PW (Yv a) NR
def eE {a:gH}(v:VA a):(uG a).length<=16:=by
 have nd :∀{l:List kI},pQ l->l.Nodup:=λh=>h.imp λ{p q} h e=>h (by rw[e]);have h:(uG a).Perm (bE a):=(List.perm_ext_iff_of_nodup (nd (jt v.O)) ((Zw v.O).imp λ{p q} h e=>h (by rw[e]))).2 λx=>by rw[XI v.O,eL]
 rw[h.length_eq];unfold bE;rw[X11];have:=dD a;have:=v.e;omega
def jP {a:gH}(v:VA a){x:kI}(h:x∈uG a):x.Data.length<=768:=by
 rcases (XI v.O).1 h with ⟨k,h⟩|h
 ·obtain⟨b,F,rfl⟩:=JE.1 h;exact ku v F
 have:=(Ge v.O h).2.2.2.2;omega
def ve (x:kI):I:=decide (0<=x.Flags)&&(decide (x.Flags<=255)&&(decide (0<=x.oA)&&(decide (x.oA<=255)&&decide ((x.Data.length:Int)<=65535))))
def wB (x:kI):O S:=if decide ((x.Data.length:Int)>255)=true then ([(BF ((Wv 8 ((BF ((Wv 8 ((BF x.Flags).toNat:Int) &&& Wv 8 224).toNat:Int)).toNat:Int) ||| Wv 8 16).toNat:Int)),(BF x.oA),(BF (Xcd (x.Data.length:Int) (2^(min (Xi 8) 64)))),(BF (x.Data.length:Int))]:O S)
 else ([(BF ((Wv 8 ((BF x.Flags).toNat:Int) &&& Wv 8 224).toNat:Int)),(BF x.oA),(BF (x.Data.length:Int))]:O S)
def XB (x:kI):O S:=wB x++x.Data
def HO (l:O kI):O S:=l.flatMap XB
def He (l:O kI):O S×Int:=if l.all ve=true then (if (HO l).length>2048 then ([],3) else (HO l,0)) else ([],1)
def Pe (x:kI):(XB x).length<=x.Data.length+4:=by unfold XB wB;rw[X11];split<;>simp<;>omega
def Nj {N:Nat} :∀{l:O kI},(∀x∈l,x.Data.length<=N)->(HO l).length<=l.length*(N+4)
 | [],_=>by simp[HO]
 | x::t,h=>by have F:=Nj (l:=t) λy H=>h y (X19 _ H);have J:=Pe x;have K:=h x (by simp);unfold HO at F⊢;rw[Xac,X11,X12,X32];omega
def m7 {x:kI}{v:O S}{ρ:Type}{K:O S->C ρ}(M:v.length+4<=1000000000) : AC (τ:=(O S)) (λF=>if (decide ((x.Data.length:Int)>255))=true then Xd (gE (α:=S) 1 v ([(BF ((Wv 8 ((BF ((Wv 8 ((BF x.Flags).toNat:Int) &&& Wv 8 224).toNat:Int)).toNat:Int) ||| Wv 8 16).toNat:Int)),(BF x.oA),(BF (Xcd (x.Data.length:Int) (2^(min (Xi 8) 64)))),(BF (x.Data.length:Int))]:O S)) λH=>F H else Xd (gE (α:=S) 1 v ([(BF ((Wv 8 ((BF x.Flags).toNat:Int) &&& Wv 8 224).toNat:Int)),(BF x.oA),(BF (x.Data.length:Int))]:O S)) λJ=>F J ) K=K (v++wB x):=by
 rw[AB];unfold wB;split
 ·rw[AD (by decide) (by simp;omega),AA]
 rw[AD (by decide) (by simp;omega),AA]
def cY {l:O kI}(M:l.length<=1000)(P :∀x∈l,x.Data.length<=100000):Hf l=some (He l):=by
 have H:=Nj P;have F:l.length*(100000+4)<=1000*100004:=X31 _ M;unfold Hf He;rw[AB];refine (Oo (g:=ve) (r0:=some ([],1)) λnext x i _=>?_).trans ?_
 ·have e:ve x=!(decide (x.Flags<0) || (decide (x.Flags>255) || (decide (x.oA<0) || (decide (x.oA>255) || decide ((x.Data.length:Int)>65535))))):=by unfold ve;rw[X28];simp only[X27,Xb7,Bool.or_eq_false_iff,Xe,Xb2];omega
  rw[AB,e];cases decide (x.Flags < 0)<;>cases decide (x.Flags>255)<;>cases decide (x.oA < 0)<;>cases decide (x.oA>255)<;>cases decide ((x.Data.length:Int)>65535)<;>rfl
 cases Q:l.all ve
 ·rfl
 rw[Xcr,Xy rfl,AB];refine (ec (g:=XB) (N:=999999990) (by show [].length+(HO l).length<=_;simp only[X13];omega) λnext x i v U J=>?_).trans ?_
 ·unfold XB at J⊢;rw[X11] at J;have V:(wB x).length<=4/\3<=(wB x).length:=by unfold wB;split<;>simp
  rw[m7 (by omega),AD (by decide) (by rw[X11];omega),AA,Xau]
 show (if decide (((HO l).length:Int)>2048)=true then _ else _)=_;by_cases K:(HO l).length>2048
 ·rw[Xy (by simp only[Xe];omega),Xy K]
 rw[Xj (by simp only[Xe];omega),Xj K];rfl
def Z0 {l:O kI}:(He l).1.length<=2048:=by
 unfold He;split
 ·split
  ·simp
  dsimp only;omega
 simp
structure VB (a:gH):Prop where
 o:-1<=a.gS/\a.gS<=2
 p:DW a.Path=true
 n:a.Next.ok=true
 m:-1<=a.sd/\a.sd<=4294967295
 r:-1<=a.rh/\a.rh<=4294967295
 t:a.rX=-1\/(1<=a.rX/\a.rX<=4294967295)
 c:IG a.fT=true
 l:II a.n8=true
def VB.empty:VB eA:=⟨by decide,rfl,by decide,by decide,by decide,.inl rfl,rfl,rfl⟩
end Go.AX.Q29
end
