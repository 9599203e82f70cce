/-
  Texts of one proof, packed.
-/
import Derived.Test.YtppcmaidcgimpaaGreatDoorS19
set_option linter.all false
set_option maxRecDepth 100000
set_option maxHeartbeats 4000000
open List renaming length_map→X6,length_append→X10,length_cons→X11,length_nil→X12,mem_singleton→X13,length_drop→X16,length_take→X17,length_replicate→X19,length_set→X20,length_singleton→X21,mem_append→X22
open Bool renaming and_eq_true→X26,eq_iff_iff→X27
open Option renaming bind→Xg,getD→Xbk
open Int renaming toNat→Xi,fdiv→Xay
open UInt8 renaming ofNat→Xd1
section
namespace Go.AX.Q25
open Go Go.AX
def Dh (n:Int):C:=decide (1<=n)&&decide (n<=4294967295)
def OQ (s:oA):C:=decide (s.lf.length≠0)&&(s.lf.all Dh&&qD (λa b=>!s.Set || sk a b) s.lf)
def wc (a b:oA):C:=b.Set || a.Set
def rZ (p:I oA):Nat:=p.foldl (λn s=>n+s.lf.length) 0
def dl (p:I oA)(n:Nat):p.foldl (λn s=>n+s.lf.length) n=n+rZ p:=by
 unfold rZ;induction p generalizing n with
 | nil=>rfl
 | cons s t H=>rw[Xbb,Xbb,H,H (0+_)];omega
def E5 (s:oA)(p:I oA):rZ (s::p)=s.lf.length+rZ p:=by
 conv=>lhs;unfold rZ
 rw[Xbb,dl];omega
def Uu {p:I oA}{s:oA}(h:s∈p):s.lf.length<=rZ p:=by
 induction p with
 | nil=>simp at h
 | cons x t H=>
  rw[E5];rcases Xp.1 h with rfl|h
  ·omega
  have:=H h;omega
def Ez (p:I oA):C:=p.all OQ&&qD wc p&&decide (rZ p<=64)
def ZH :∀(p:I oA) (n:Nat),n+rZ p<=1000000000->p.foldl (λ(v:Int) s=>AQ (v+(s.lf.length:Int))) (n:Int)=((n+rZ p:Nat):Int)
 | [],n,_=>rfl
 | s::t,n,h=>by rw[E5] at h;rw[Xbb,E5,AM (by omega),show (n:Int)+(s.lf.length:Int)=((n+s.lf.length:Nat):Int) by omega,ZH t _ (by omega)];congr 1;omega
def bX {s:oA}(Q:s.lf.length<=1000000000){K:Unit->O C}{body:(Unit->O C)->Int->Nat->Unit->O C} (P :∀next x i,body next x i ()=AB (τ:=C) (λH=>if (!Dh x)=true then H true else if s.Set=true then if (cond true (decide ((i:Int)>0)) false)=true then Xg (iB s.lf (AQ ((i:Int)-1))) λJ=>H (cond false true (cond true (decide (J≥x)) false)) else H false else H false) λM=>if M=true then some false else next ()) :
  AH K body s.lf 0 ()=if s.lf.all Dh&&qD (λa b=>!s.Set || sk a b) s.lf then K () else some false:=by
 refine jH (by omega) (λnext x _=>?_) λnext x y i _ _ hg=>?_
 ·rw[P,AC];cases Dh x<;>cases s.Set<;>rfl
 rw[P,AC,hg,AA];have e:decide (((i+1:Nat):Int)>0)=true:=by simp
 have e2:decide (y≥x)=!sk y x:=by unfold sk;rw[X27];simp
 rw[e,e2];cases Dh x<;>cases s.Set<;>cases sk y x<;>rfl
def UZ {p:I oA}(hl:p.length<=1000000000)(ht:rZ p<=1000000000){body:(Int->O C)->oA->Nat->Int->O C}{H:oA->(Unit->O C)->Int->Nat->Unit->O C} (hb :∀next x i v,body next x i v=AB (τ:=Unit) (λk6=>AB (τ:=C) (λU=>if ((x.lf.length:Int)==0)=true then U true else if (decide ((i:Int)>0))=true then if (cond true (!x.Set) false)=true then Xg (iB p (AQ ((i:Int)-1))) λv8=>U (cond false true (cond true (!v8.Set) false)) else U false else U false) λv9=>if v9=true then some false else AB (τ:=Unit) (λV=>AH (σ:=Unit) (λ_=>V ()) (H x) x.lf 0 ()) λ_=>k6 ()) λ_=>next (AQ (v+(x.lf.length:Int))))
  (hi :∀s next x i,H s next x i ()=AB (τ:=C) (λJ=>if (!Dh x)=true then J true else if s.Set=true then if (cond true (decide ((i:Int)>0)) false)=true then Xg (iB s.lf (AQ ((i:Int)-1))) λY=>J (cond false true (cond true (decide (Y≥x)) false)) else J false else J false) λZ=>if Z=true then some false else next ()) :
  (AB (τ:=Int) (λk1=>AH (σ:=Int) (λv=>k1 v) body p 0 0) λv=>some (decide (v<=64)))=some (Ez p):=by
 rw[AC];have Q :∀s∈p,∀K:Unit->O C,AH K (H s) s.lf 0 ()=if s.lf.all Dh&&qD (λa b=>!s.Set || sk a b) s.lf then K () else some false:=λs P K=>bX (by have:=Uu P;omega) (hi s);refine (oU (g:=λ(v:Int) s=>AQ (v+(s.lf.length:Int))) (ok:=OQ) (lt:=wc) (F:=some false) (by omega) (λnext x v hx=>?_) λnext x y i v hx _ hg=>?_).trans ?_
 ·rw[hb,AC,AC];unfold OQ;by_cases M:x.lf.length=0
  ·have e:((x.lf.length:Int)==0)=true:=by simp[M]
   rw[Xl e];simp[M]
  have e:¬ ((x.lf.length:Int)==0)=true:=by simpa using M
  rw[Xk e,Xk (by simp)];show (if false=true then _ else _)=_;rw[Xk (by decide),AC,Q x hx];simp only[M,ne_eq,Xdm,decide_true,Xca]
 ·rw[hb,AC,AC,hg];unfold OQ wc;by_cases M:x.lf.length=0
  ·have e:((x.lf.length:Int)==0)=true:=by simp[M]
   rw[Xl e];simp[M]
  have e:¬ ((x.lf.length:Int)==0)=true:=by simpa using M
  have e2:decide (((i+1:Nat):Int)>0)=true:=by simp
  rw[Xk e,Xl e2,AA,AC,Q x hx];simp only[M,ne_eq,Xdm,decide_true,Xca];generalize (x.lf.all Dh&&qD (λa b=>!x.Set || sk a b) x.lf)=c;cases x.Set<;>cases y.Set<;>cases c<;>rfl
 have P:=ZH p 0 (by omega);rw[Xaa] at P;have P:p.foldl (λ(v:Int) s=>AQ (v+(s.lf.length:Int))) 0=(rZ p:Int):=P;rw[P];unfold Ez;have e:decide ((rZ p:Int)<=64)=decide (rZ p<=64):=by rw[X27];simp;omega
 simp only[e];generalize (p.all OQ&&qD wc p)=c;cases c<;>rfl
def Hw {p:I oA}(H:p.length<=1000000000)(J:rZ p<=1000000000):Ed p=some (Ez p):=by
 unfold Ed;refine UZ H J (λnext x i v=>rfl) λs next x i=>?_
 have e:(!Dh x)=(decide (x < 1) || decide (x>4294967295)):=by unfold Dh;rw[X27];simp<;>omega
 rw[AC,AC,e];cases decide (x < 1)<;>cases decide (x>4294967295)<;>rfl
def QE {p:I oA}(H:p.length<=1000000000)(J:rZ p<=1000000000):D6 p=some (Ez p):=by
 unfold D6;refine UZ H J (λnext x i v=>rfl) λs next x i=>?_
 rw[sv];rfl
section
variable {ρ:Type} {F:O ρ} {next:Int×C×j×j×Int×Int×Int×(I oA)×(I oF)×(I ls)->O ρ} {x:gF} {a:gE}
end
end Go.AX.Q25
end
section
namespace Go.AX.Q25
open Go Go.AX
section
variable {ρ:Type} {F:O ρ} {next:Int×(I oA)×C×j×j×Int×Int×Int×(I oF)×(I ls)->O ρ} {x:gF} {a:gE}
end
end Go.AX.Q25
end
section
namespace Go.AX.Q25
open Go Go.AX
def conv (x:gF):gF:=⟨224,x.hB,x.Data⟩
def M7 (x:gF):I Int:=[x.hB]
def Qg (a b:gF):(M7 a).length=(M7 b).length:=rfl
def bR {α:Type}{R:α->α->Prop}{c:C}{x:α}:(if c=true then [x] else []).Pairwise R:=by
 cases c
 ·exact .nil
 exact List.pairwise_singleton _ _
def eA:gE:=⟨(-1),[],(⟨false,(0:j),(0:j)⟩:Addr),(-1),(-1),(-1),[],[],[]⟩
def Qq {α F:Type}{g:α->I F}(hg :∀x,(g x).length<=1) :∀l:I α,(l.flatMap g).length<=l.length
 | []=>by simp
 | x::t=>by rw[Xat,X10,X11];have:=Qq hg t;have:=hg x;omega
def iP (a b:gF):Bt a b=some (CS (M7 a) (M7 b)):=by unfold Bt M7;rw[Jl,AA];unfold X0 CS CS;rfl
def sizeOf (b:I S)(h:Nat):Nat:=val ((b.drop 2).take (h-2))
def mo (b:I S):O (I S×I S):=match b with
 | x::y::t=>if t.length<x.toNat*256+y.toNat then none else some (t.take (x.toNat*256+y.toNat),t.drop (x.toNat*256+y.toNat))
 | _=>none
def wC:Addr:=⟨false,(0:j),(0:j)⟩
def Tv (b:I S):I S×I S×C:=match mo b with
 | none=>([],[],false)
 | some (p,r)=>(p,r,true)
def Gq (a:Addr):ET a=some a.ok:=by unfold ET Addr.ok;rw[AC];generalize ((a.Hi.toNat:Int)==0)=x;generalize decide ((a.Lo.toNat:Int)<4294967296)=y;generalize a.V6=z;cases z<;>cases x<;>rfl
def QR (a:Addr):BG a=some (a.w:Int):=by unfold BG Addr.w;split<;>rfl
def BX {α σ ρ:Type}{K:σ->O ρ}{b:(σ->O ρ)->α->Nat->σ->O ρ}{x:α}{t:I α}{i:Nat}{s:σ}:AH K b (x::t) i s=b (λs=>AH K b t (i+1) s) x i s:=rfl
def Kx {α σ ρ:Type}{K:σ->O ρ}{b:(σ->O ρ)->α->Nat->σ->O ρ}{i:Nat}{s:σ}:AH K b [] i s=K s:=rfl
def oH {α:Type}(l:I α):((l.length:Int)==0)=true↔l=[]:=by rw[Xc0,Int.natCast_eq_zero,List.length_eq_zero_iff]
def wr (x:gF)(n:Int):C:=decide (n>0)&&(bt x.Flags 192 !=128)
def okO (x:gF):C:=decide (1<=x.hB/\x.hB<=255)&&(tc x.hB&&(decide (x.Flags=224)&&decide (x.Data.length<=255)))
def sx (a b:gF):C:=decide (a.hB<b.hB)
def EO (l:I gF):C:=l.all okO&&qD sx l
def GE (a:gE):C:=EO a.gS&&(decide (-1<=a.gT/\a.gT<=2)&&(Ez a.Path&&(a.Next.ok&&(decide (-1<=a.qW/\a.qW<=4294967295)&&(decide (-1<=a.qd/\a.qd<=4294967295)&&((decide (a.qz=-1) || Dh a.qz)&&(H4 a.cW&&(H9 a.ls&&decide (a.gS.length<=8)))))))))
def lE (a b c:gF)(F:sx a b=true)(H:sx b c=true):sx a c=true:=by simp only[sx,Xh] at *;omega
structure tf (a:gE):Prop where
 p:a.Path.length<=1000000
 t:rZ a.Path<=1000000
 c:a.cW.length<=1000000
 l:a.ls.length<=1000000
 o:a.gS.length<=1000000
 d :∀u∈a.gS,u.Data.length<=1000000
def nG (a b:gF):s4 M7 a b=sx a b:=by
 unfold s4 M7 sx;rw[aV,iS,X27,Xh,Xh];split
 ·simp[*]
 split<;>omega
def oh {l:I gF}(Y:l.length<=1000000){K:Unit->O C} : AH (σ:=Unit) K (λF J P _=>AB (τ:=C) (λH=>if (decide (J.hB<1))=true then H true else if (cond false true (decide (J.hB>255)))=true then H true else Xg (Cb J.hB) λQ=>if (cond false true (!Q))=true then H true else if (cond false true (J.Flags !=224))=true then H true else if (cond false true (decide ((J.Data.length:Int)>255)))=true then H true else if (decide ((P:Int)>0))=true then Xg (iB l (AQ ((P:Int)-1))) λU=>H (cond false true (cond true (decide (U.hB≥J.hB)) false)) else H false ) λV=>if V=true then some false else F ()) l 0 ()=if EO l=true then K () else some false:=by
 have M :∀x:gF,okO x=!(decide (x.hB<1) || (decide (x.hB>255) || ((!tc x.hB) || ((x.Flags !=224) || decide ((x.Data.length:Int)>255))))):=by
  intro x;unfold okO;have e1:decide (1<=x.hB/\x.hB<=255)=(!decide (x.hB<1)&&!decide (x.hB>255)):=by rw[X27];simp
  have e2:decide (x.Flags=224)=!(x.Flags !=224):=by rw[X27];simp
  have e3:decide (x.Data.length<=255)=!decide ((x.Data.length:Int)>255):=by rw[X27];simp;omega
  rw[e1,e2,e3];cases decide (x.hB < 1)<;>cases decide (x.hB>255)<;>cases tc x.hB<;>cases (x.Flags !=224)<;>cases decide ((x.Data.length:Int)>255)<;>rfl
 refine jH (ok:=okO) (lt:=sx) (by omega) (λnext x _=>?_) λnext x y i _ _ hg=>?_
 ·rw[AC,I6,AA,M];cases decide (x.hB < 1)<;>cases decide (x.hB>255)<;>cases tc x.hB<;>cases (x.Flags !=224)<;>cases decide ((x.Data.length:Int)>255)<;>rfl
 have e:decide (((i+1:Nat):Int)>0)=true:=by simp
 have e2:decide (y.hB≥x.hB)=!sx y x:=by unfold sx;rw[X27];simp
 rw[AC,I6,AA,M,hg,AA,e,e2];cases decide (x.hB < 1)<;>cases decide (x.hB>255)<;>cases tc x.hB<;>cases (x.Flags !=224)<;>cases decide ((x.Data.length:Int)>255)<;>cases sx y x<;>rfl
def aC {l:I gF}(J:l.length<=1000000):Ci l=some (EO l&&decide (l.length<=8)):=by
 unfold Ci;rw[AC];have H :∀x:gF,okO x=(tc x.hB&&((decide (1<=x.hB)&&decide (x.hB<=255))&&(!(x.Flags !=224)&&!decide ((x.Data.length:Int)>255)))):=by
  intro x;unfold okO;have e1:decide (1<=x.hB/\x.hB<=255)=(decide (1<=x.hB)&&decide (x.hB<=255)):=by rw[X27];simp
  have e2:decide (x.Flags=224)=!(x.Flags !=224):=by rw[X27];simp
  have e3:decide (x.Data.length<=255)=!decide ((x.Data.length:Int)>255):=by rw[X27];simp;omega
  rw[e1,e2,e3];cases decide (1<=x.hB)<;>cases decide (x.hB<=255)<;>cases tc x.hB<;>cases (x.Flags !=224)<;>cases decide ((x.Data.length:Int)>255)<;>rfl
 refine (jH (ok:=okO) (lt:=sx) (F:=some false) (by omega) (λnext x _=>?_) λnext x y i _ _ hg=>?_).trans ?_
 ·rw[AC,HA,AA,Hh,H];cases decide (1<=x.hB)<;>cases decide (x.hB<=255)<;>cases tc x.hB<;>cases (x.Flags !=224)<;>cases decide ((x.Data.length:Int)>255)<;>rfl
 ·have e:decide (((i+1:Nat):Int)>0)=true:=by simp
  have e2:decide (y.hB≥x.hB)=!sx y x:=by unfold sx;rw[X27];simp
  rw[AC,HA,AA,Hh,H,hg,e];simp only[AA,e2];cases decide (1<=x.hB)<;>cases decide (x.hB<=255)<;>cases tc x.hB<;>cases (x.Flags !=224)<;>cases decide ((x.Data.length:Int)>255)<;>cases sx y x<;>rfl
 have e:decide ((l.length:Int)<=8)=decide (l.length<=8):=by rw[X27];simp;omega
 rw[e];unfold EO;generalize (l.all okO&&qD sx l)=b;cases b<;>rfl
def Ld {a:gE}(h:tf a):DV a=some (GE a):=by
 unfold DV;rw[AC];refine (oh h.o).trans ?_;unfold GE;by_cases F:EO a.gS=true;rotate_left
 ·have F:EO a.gS=false:=by simpa using F
  rw[F];rfl
 rw[F,Xl rfl,AC,Hw (by have:=h.p;omega) (by have:=h.t;omega),AA,Dx,AA,Qp (by have:=h.c;omega),MC (by have:=h.l;omega)];simp only[AA];have J:decide (-1<=a.gT/\a.gT<=2)=(decide (a.gT≥-1)&&decide (a.gT<=2)):=by rw[X27];simp
 have K:decide (-1<=a.qW/\a.qW<=4294967295)=(decide (a.qW≥-1)&&decide (a.qW<=4294967295)):=by rw[X27];simp
 have M:decide (-1<=a.qd/\a.qd<=4294967295)=(decide (a.qd≥-1)&&decide (a.qd<=4294967295)):=by rw[X27];simp
 have P:Dh a.qz=(decide (a.qz≥1)&&decide (a.qz<=4294967295)):=rfl;have Q:decide (a.qz=-1)=(a.qz==-1):=rfl;have U:decide (a.gS.length<=8)=decide ((a.gS.length:Int)<=8):=by rw[X27];simp;omega
 rw[J,K,M,P,Q,U];generalize decide (a.gT≥-1)=b1;generalize decide (a.gT<=2)=b2;generalize Ez a.Path=b3;generalize a.Next.ok=b4;generalize decide (a.qW≥-1)=b5;generalize decide (a.qW<=4294967295)=b6;generalize decide (a.qd≥-1)=b7;generalize decide (a.qd<=4294967295)=b8;generalize (a.qz==-1)=b9;generalize decide (a.qz≥1)=tZ;generalize decide (a.qz<=4294967295)=vb;generalize H4 a.cW=uC;generalize H9 a.ls=ul;generalize decide ((a.gS.length:Int)<=8)=H;cases b1
 ·rfl
 cases b2
 ·rfl
 cases b3
 ·rfl
 cases b4
 ·rfl
 cases b5
 ·rfl
 cases b6
 ·rfl
 cases b7
 ·rfl
 cases b8
 ·rfl
 cases b9<;>cases tZ<;>cases vb<;>cases uC<;>cases ul<;>cases H<;>rfl
def Yc {a:gE}(h:tf a):Be a=some (GE a):=by
 unfold Be GE;rw[AC,Hh,AA,QE (by have:=h.p;omega) (by have:=h.t;omega),AA,Gq,AA,Hh,AA,Hh,AA,M5 (by have:=h.c;omega),JG (by have:=h.l;omega),aC h.o,sv];simp only[AA];have J:decide (-1<=a.gT/\a.gT<=2)=(decide (-1<=a.gT)&&decide (a.gT<=2)):=by rw[X27];simp
 have K:decide (-1<=a.qW/\a.qW<=4294967295)=(decide (-1<=a.qW)&&decide (a.qW<=4294967295)):=by rw[X27];simp
 have M:decide (-1<=a.qd/\a.qd<=4294967295)=(decide (-1<=a.qd)&&decide (a.qd<=4294967295)):=by rw[X27];simp
 have P:Dh a.qz=(decide (1<=a.qz)&&decide (a.qz<=4294967295)):=rfl;have Q:decide (a.qz=-1)=(a.qz==-1):=rfl;rw[J,K,M,P,Q];generalize (decide (-1<=a.gT)&&decide (a.gT<=2))=b1;generalize Ez a.Path=b3;generalize a.Next.ok=b4;generalize (decide (-1<=a.qW)&&decide (a.qW<=4294967295))=b5;generalize (decide (-1<=a.qd)&&decide (a.qd<=4294967295))=b7;generalize (a.qz==-1)=b9;generalize (decide (1<=a.qz)&&decide (a.qz<=4294967295))=tZ;generalize H4 a.cW=uC;generalize H9 a.ls=ul;generalize EO a.gS=F;generalize decide (a.gS.length<=8)=H;cases b1
 ·simp
 cases b3
 ·simp
 cases b4
 ·simp
 cases b5
 ·simp
 cases b7
 ·simp
 cases b9<;>cases tZ<;>cases uC<;>cases ul<;>cases F<;>cases H<;>rfl
def w4 (n:Int):I S:=[(Az (Xay n (2^(min (Xi 24) 64)))),(Az (Xay n (2^(min (Xi 16) 64)))),(Az (Xay n (2^(min (Xi 8) 64)))),(Az n)]
def w2 (n:Int):I S:=[(Az (Xay n (2^(min (Xi 8) 64)))),(Az n)]
def WP (k n:Nat)(J:k<64)(K:n=8*k)(M:k<9):min (Xi ((AY (8*((AY (k:Int)).toNat:Int))).toNat:Int)) 64=min (Xi (n:Int)) 64:=by
 have F:(AY (k:Int)).toNat=k:=by unfold AY;simp only[Xag];omega
 rw[F];have H:(AY (8*(k:Int))).toNat=n:=by unfold AY;simp only[Xag];omega
 rw[H]
def fdiv_one (n:Int):Xay n (2^(min (Xi ((0:Nat):Int)) 64))=n:=by have:((2:Int)^(min (Xi ((0:Nat):Int)) 64))=1:=rfl;rw[this,Int.fdiv_one]
def Yv (v:Int){n:Int}(M:n=4\/n=2):AO v n=some (if n=4 then w4 v else w2 v):=by
 unfold AO;rw[AC];have F:=WP 3 24 (by omega) rfl (by omega);have H:=WP 2 16 (by omega) rfl (by omega);have J:=WP 1 8 (by omega) rfl (by omega);have K:=WP 0 0 (by omega) rfl (by omega);have F:min (Xi ((AY (8*((AY (3:Int)).toNat:Int))).toNat:Int)) 64=min (Xi 24) 64:=F;have H:min (Xi ((AY (8*((AY (2:Int)).toNat:Int))).toNat:Int)) 64=min (Xi 16) 64:=H;have J:min (Xi ((AY (8*((AY (1:Int)).toNat:Int))).toNat:Int)) 64=min (Xi 8) 64:=J;have K:min (Xi ((AY (8*((AY (0:Int)).toNat:Int))).toNat:Int)) 64=min (Xi ((0:Nat):Int)) 64:=K;refine (EL (λs:Int×I S=>(s.1=3\/s.1=2\/s.1=1\/s.1=0\/s.1=-1)/\s.2.length+(s.1+1).toNat<=4) (λs=>(s.1+1).toNat) (λs=>some (s.2++(w4 v).drop (3-s.1).toNat)) ?_ qb (AQ (n-1),[]) ?_ ?_).trans ?_
 ·rintro next ⟨i,l⟩ ⟨P,Q⟩ hk
  dsimp only at P Q⊢;rcases P with rfl|rfl|rfl|rfl|rfl
  ·rw[Xl (by decide),F,AI (by decide) (by simp only[X21];omega),AA,AM (by omega),hk _ ⟨by simp,by simp only[X10,X21];omega⟩ (by simp only;omega)];simp[w4]
  ·rw[Xl (by decide),H,AI (by decide) (by simp only[X21];omega),AA,AM (by omega),hk _ ⟨by simp,by simp only[X10,X21];omega⟩ (by simp only;omega)];simp[w4]
  ·rw[Xl (by decide),J,AI (by decide) (by simp only[X21];omega),AA,AM (by omega),hk _ ⟨by simp,by simp only[X10,X21];omega⟩ (by simp only;omega)];simp[w4]
  ·rw[Xl (by decide),K,fdiv_one,AI (by decide) (by simp only[X21];omega),AA,AM (by omega),hk _ ⟨by simp,by simp only[X10,X21];omega⟩ (by simp only;omega)];simp[w4]
  rw[Xk (by decide)];simp[w4]
 ·dsimp only;rw[AM (by omega)];rcases M with rfl|rfl
  ·exact⟨.inl rfl,by decide⟩
  exact⟨.inr (.inr (.inl rfl)),by decide⟩
 ·dsimp only;rw[AM (by omega)];exact CB (by omega)
 dsimp only;rw[AM (by omega)];rcases M with rfl|rfl<;>rfl
def Qn (v:Int):AO v 4=some (w4 v):=Yv v (.inl rfl)
def lD (v:Int):AO v 2=some (w2 v):=Yv v (.inr rfl)
def VF (n:Int):(w4 n).length=4:=rfl
def Tq (l:I Int):(l.flatMap w4).length=4*l.length:=by
 induction l with
 | nil=>rfl
 | cons x t F=>rw[Xat,X10,F,VF,X11];omega
def jk (s:oA):I S:=[(if s.Set=true then (1:S) else 2),Az (s.lf.length:Int)]++s.lf.flatMap w4
def UF (p:I oA):I S:=p.flatMap jk
def Ws (s:oA):(jk s).length=2+4*s.lf.length:=by unfold jk;rw[X10,Tq];rfl
def UI (p:I oA):(UF p).length=2*p.length+4*rZ p:=by
 unfold UF;induction p with
 | nil=>rfl
 | cons s t F=>rw[Xat,X10,F,Ws,X11,E5];omega
def gQ {p:I oA}(h:2*p.length+4*rZ p<=100000000){ρ:Type}{K:I S->O ρ}:AB (τ:=(I S)) (λk7=>AH (σ:=(I S)) (λQ=>k7 Q ) (λH (J:oA) i11 Q=>AB (τ:=(I S)) (λU=>AB (τ:=S) (λP=>if J.Set=true then P (1:S) else P (2:S) ) λV=>Xg (gH (α:=S) 1 Q ([V,(Az (J.lf.length:Int))]:I S)) λY=>AB (τ:=(I S)) (λZ=>AH (σ:=(I S)) (λM=>Z M ) (λF (a1:Int) i20 M=>Xg (AO a1 4) λa6=>Xg (gH (α:=S) 1 M a6) λa7=>F a7 ) J.lf 0 Y ) λa8=>U a8 ) λaa=>H aa ) p 0 ([]:I S) ) K=K (UF p):=by
 rw[AC];have hl:=UI p;unfold UF at hl⊢;refine (fb (g:=jk) (N:=100000000) (by rw[hl];simp only[X12];omega) λnext s i v _ hv=>?_).trans rfl;rw[Ws] at hv;rw[AC,JL,AI (by decide) (by simp;omega),AA,AC];refine (fb (g:=w4) (N:=1000000000) (by rw[Tq];simp;omega) λnext x i v _ hv=>?_).trans ?_
 ·rw[Qn,AA,AI (by decide) hv,AA]
 rw[Xav];rfl
def Xb (c:oF):I S:=w2 c.A++w2 c.B
def SE (c:ls):I S:=w4 c.A++(w4 c.B++w4 c.C)
def UP (c:oF):(Xb c).length=4:=rfl
def Sm (c:ls):(SE c).length=12:=rfl
def Ul (l:I oF):(l.flatMap Xb).length=4*l.length:=by
 induction l with
 | nil=>rfl
 | cons x t F=>rw[Xat,X10,F,UP,X11];omega
def UH (l:I ls):(l.flatMap SE).length=12*l.length:=by
 induction l with
 | nil=>rfl
 | cons x t F=>rw[Xat,X10,F,Sm,X11];omega
def fd (n k:Nat):Xay (n:Int) (2^(min (Xi (k:Int)) 64))=((n/2^(min k 64):Nat):Int):=by
 rw[Xa3];have:((2:Int)^(min k 64))=((2^(min k 64):Nat):Int):=by simp
 rw[this,Xc3 _ (Xcg _),Int.natCast_ediv]
def b4 (n:Nat):I S:=[Xd1 (n/16777216),Xd1 (n/65536),Xd1 (n/256),Xd1 n]
def Qe {x:j}{k n:Nat}(F:n=8*k)(H:k<8)(J:x.toNat<4294967296):Az ((AY (Xay (x.toNat:Int) (2^(min (Xi (n:Int)) 64)))).toNat:Int)=Xd1 (x.toNat/2^n):=by rw[fd,Xda (by omega),DN,OF];congr 1;rw[Xag,Xbd];exact Nat.lt_of_le_of_lt (Nat.div_le_self _ _) (by omega)
def Addr.four {a:Addr}(h:a.ok=true)(F:a.V6=false):a.Hi.toNat=0/\a.Lo.toNat<4294967296:=by
 unfold Addr.ok at h;rw[F,Xdf] at h;cases h1:((a.Hi.toNat:Int)==0)
 ·rw[h1] at h;simp at h
 rw[h1,Xcm,Xh] at h;simp only[Xc0] at h1;omega
def cM {a:Addr}(h:a.ok=true)(P:a.V6=false):BV a=some (b4 a.Lo.toNat):=by
 obtain⟨_,F⟩:=Addr.four h P;unfold BV;rw[Dx,AA,h,Xk (by decide),AC,P,Xk (by decide)];show AB _ _=_;rw[AC];have H:=WP 3 24 (by omega) rfl (by omega);have J:=WP 2 16 (by omega) rfl (by omega);have K:=WP 1 8 (by omega) rfl (by omega);have M:=WP 0 0 (by omega) rfl (by omega);have H:min (Xi ((AY (8*((AY (Int.tmod 3 8)).toNat:Int))).toNat:Int)) 64=min (Xi ((24:Nat):Int)) 64:=H;have J:min (Xi ((AY (8*((AY (Int.tmod 2 8)).toNat:Int))).toNat:Int)) 64=min (Xi ((16:Nat):Int)) 64:=J;have K:min (Xi ((AY (8*((AY (Int.tmod 1 8)).toNat:Int))).toNat:Int)) 64=min (Xi ((8:Nat):Int)) 64:=K;have M:min (Xi ((AY (8*((AY (Int.tmod 0 8)).toNat:Int))).toNat:Int)) 64=min (Xi ((0:Nat):Int)) 64:=M;refine (EL (λs:Int×I S=>(s.1=3\/s.1=2\/s.1=1\/s.1=0\/s.1=-1)/\s.2.length+(s.1+1).toNat<=4) (λs=>(s.1+1).toNat) (λs=>some (s.2++(b4 a.Lo.toNat).drop (3-s.1).toNat)) ?_ qb (AQ (4-1),[]) ?_ ?_).trans ?_
 ·rintro next ⟨i,l⟩ ⟨Q,U⟩ hk
  dsimp only at Q U⊢;rcases Q with rfl|rfl|rfl|rfl|rfl
  ·rw[Xl (by decide),AC,Xk (by decide),H];show Xg _ _=_;rw[Qe (n:=24) (k:=3) rfl (by omega) F,AI (by decide) (by simp only[X21];omega),AA,AM (by omega),hk _ ⟨by simp,by simp only[X10,X21];omega⟩ (by simp only;omega)];simp[b4]
  ·rw[Xl (by decide),AC,Xk (by decide),J];show Xg _ _=_;rw[Qe (n:=16) (k:=2) rfl (by omega) F,AI (by decide) (by simp only[X21];omega),AA,AM (by omega),hk _ ⟨by simp,by simp only[X10,X21];omega⟩ (by simp only;omega)];simp[b4]
  ·rw[Xl (by decide),AC,Xk (by decide),K];show Xg _ _=_;rw[Qe (n:=8) (k:=1) rfl (by omega) F,AI (by decide) (by simp only[X21];omega),AA,AM (by omega),hk _ ⟨by simp,by simp only[X10,X21];omega⟩ (by simp only;omega)];simp[b4]
  ·rw[Xl (by decide),AC,Xk (by decide),M];show Xg _ _=_;rw[Qe (n:=0) (k:=0) rfl (by omega) F,AI (by decide) (by simp only[X21];omega),AA,AM (by omega),hk _ ⟨by simp,by simp only[X10,X21];omega⟩ (by simp only;omega)];simp[b4]
  rw[Xk (by decide)];simp[b4]
 ·dsimp only;rw[AM (by omega)];exact⟨.inl rfl,by decide⟩
 ·dsimp only;rw[AM (by omega)];exact CB (by omega)
 dsimp only;rw[AM (by omega)];rfl
def Ln (a:gE):C:=!a.Next.V6&&!(Addr.qK a.Next ⟨false,0,0⟩)
def G (a:gE)(k:Int):O (I S):=
 if k=1 then (if a.gT≠-1 then some [Az a.gT] else none) else
 if k=2 then (if a.gT≠-1\/a.Path≠[] then some (UF a.Path) else none) else
 if k=3 then (if Ln a=true then some (b4 a.Next.Lo.toNat) else none) else
 if k=4 then (if a.qW≠-1 then some (w4 a.qW) else none) else
 if k=5 then (if a.qd≠-1 then some (w4 a.qd) else none) else
 if k=8 then (if a.cW≠[] then some (a.cW.flatMap Xb) else none) else
 if k=32 then (if a.ls≠[] then some (a.ls.flatMap SE) else none) else
 if k=35 then (if a.qz≠-1 then some (w4 a.qz) else none) else none
def sV (a:gE)(k:Int):I gF:=match G a k with
 | some b=>[⟨fl k,k,b⟩]
 | none=>[]
def uy (l:I gF)(k:Int):I gF:=l.flatMap λx=>if (x.hB==k)=true then [x] else []
def tw (a:gE):I gF:=(List.range' 0 256).flatMap λ(k:Nat)=>sV a k++uy a.gS k
def Uw {a:gE}{k:Int}(h:fl k=0):G a k=none:=by
 rcases Nu k with ⟨_,e⟩|⟨_,e⟩|⟨_,e⟩|⟨_,e⟩|⟨_,e⟩|⟨_,e⟩|⟨_,e⟩|⟨_,e⟩|⟨e1,e2,e3,e4,F,H,J,K,_⟩;iterate 8 (rw[e] at h;exact absurd h (by decide))
 unfold G;rw[Xk e1,Xk e2,Xk e3,Xk e4,Xk F,Xk H,Xk J,Xk K]
def Qd {l:I gF}{k:Int}{y:gF}:y∈uy l k↔y∈l/\y.hB=k:=by
 unfold uy;rw[Xd0];constructor
 ·rintro⟨x,F,h⟩;split at h
  ·rename_i H;rw[X13] at h;subst h;exact⟨F,by simpa using H⟩
  simp at h
 rintro⟨J,e⟩;exact⟨y,J,by rw[Xl (by simpa using e)];simp⟩
def L1 {a:gE}{k:Int}{y:gF}:y∈sV a k ↔∃b,G a k=some b/\y=⟨fl k,k,b⟩:=by
 unfold sV;cases G a k with
 | none=>simp
 | some b=>simp
def N6 {a:gE}{k:Int}{y:gF}(h:y∈sV a k):y.hB=k:=by obtain⟨b,_,rfl⟩:=L1.1 h;rfl
def eo {a:gE}(F:EO a.gS=true){y:gF}:y∈tw a↔(∃k,y∈sV a k)\/y∈a.gS:=by
 unfold tw;simp only[Xd0,List.mem_range'_1,X22];constructor
 ·rintro⟨k,J,h|h⟩
  ·exact .inl ⟨_,h⟩
  exact .inr (Qd.1 h).1
 rintro (⟨k,h⟩|h)
 ·obtain⟨b,H,_⟩:=L1.1 h;have J:0<=k/\k<256:=by
   rcases Nu k with ⟨e,_⟩|⟨e,_⟩|⟨e,_⟩|⟨e,_⟩|⟨e,_⟩|⟨e,_⟩|⟨e,_⟩|⟨e,_⟩|e;iterate 8 omega
   rw[Uw e.2.2.2.2.2.2.2.2] at H;cases H
  refine⟨k.toNat,by omega,.inl ?_⟩;rw[show ((k.toNat:Nat):Int)=k by omega];exact h
 unfold EO at F;rw[X26,Xm] at F;have:=F.1 y h;simp only[okO,X26,Xh] at this;exact⟨y.hB.toNat,by omega,.inr (Qd.2 ⟨h,by omega⟩)⟩
def JP {l:I gF}(F:EO l=true){x:gF}(h:x∈l):tc x.hB=true/\1<=x.hB/\x.hB<=255/\x.Flags=224/\x.Data.length<=255:=by unfold EO at F;rw[X26,Xm] at F;have:=F.1 x h;simp only[okO,X26,Xh] at this;exact⟨this.2.1,this.1.1,this.1.2,this.2.2.1,this.2.2.2⟩
def fE {t:Int}(h:tc t=true):fl t=0:=by simp only[tc,X26,Xh] at h;exact h.1
def OL {l:I gF}(F:EO l=true):l.Pairwise λa b=>sx a b=true:=by unfold EO at F;rw[X26] at F;exact (Lh lE).1 F.2
def bU {a:gE}(P:EO a.gS=true):(tw a).Pairwise λa b=>s4 M7 a b=true:=by
 unfold tw;rw[List.pairwise_flatMap];have Q :∀(k:Nat) y,y∈sV a k++uy a.gS k->y.hB=k:=by
  intro k y F;rcases X22.1 F with h|h
  ·exact N6 h
  exact (Qd.1 h).2
 constructor
 ·intro k _;rw[Xb4];refine⟨?_,?_,?_⟩
  ·unfold sV;split
   ·exact List.pairwise_singleton _ _
   exact .nil
  ·unfold uy;rw[List.pairwise_flatMap];refine⟨λx _=>bR,(OL P).imp λ{p q} J x H y F=>?_⟩;have e1:p.hB=k:=by
    split at H
    ·simpa using ‹(p.hB==(k:Int))=true›
    simp at H
   have e2:q.hB=k:=by
    split at F
    ·simpa using ‹(q.hB==(k:Int))=true›
    simp at F
   simp only[sx,Xh] at J;omega
  intro x H y F;obtain⟨b,U,_⟩:=L1.1 H;obtain⟨K,M⟩:=Qd.1 F;have:=fE (JP P K).1;rw[M] at this;rw[Uw this] at U;cases U
 refine (List.pairwise_lt_range' (s:=0) (n:=256)).imp λ{p q} J x H y F=>?_;have e1:=Q p x H;have e2:=Q q y F;rw[nG];simp only[sx,Xh];omega
def wY (H:gE)(Z:I (Int×(I S))):O ((I gF)×Int):=
 AB (τ:=Bool) (λa1=>if (!(Addr.qK H.Next (⟨false,(0:j),(0:j)⟩:Addr))) then a1 (cond true (!H.Next.V6) false) else a1 false
 ) λaq=>
 AB (τ:=(I (Int×(I S)))) (λa6=>if aq then Xg (BV H.Next) λar=>a6 (BJ Z 3 ar) else a6 Z
 ) λa7=>
 AB (τ:=(I (Int×(I S)))) (λa8=>if (decide (H.qW≥0)) then Xg (AO H.qW 4) λau=>a8 (BJ a7 4 au) else a8 a7
 ) λaa=>
 AB (τ:=(I (Int×(I S)))) (λab=>if (decide (H.qd≥0)) then Xg (AO H.qd 4) λax=>ab (BJ aa 5 ax) else ab aa
 ) λae=>
 AB (τ:=(I (Int×(I S)))×(I S)) (λay=>Xg (rv ((BA ae 8).isNone=true)) λ_=>AH (σ:=(I (Int×(I S)))×(I S)) (λ(v39,v40)=>ay (v39,v40) ) (λJ (af:oF) i43 (v39,v40)=>Xg (AO af.A 2) λaz=>Xg (gH (α:=S) 1 v40 az) λb0=>Xg (AO af.B 2) λba=>Xg (gH (α:=S) 1 b0 ba) λag=>J ((BJ v39 8 ag),ag) ) H.cW 0 (ae,[])
 ) λ(ah,v49)=>
 AB (τ:=(I (Int×(I S)))×(I S)) (λbb=>Xg (rv ((BA ah 32).isNone=true)) λ_=>AH (σ:=(I (Int×(I S)))×(I S)) (λ(v51,U)=>bb (v51,U) ) (λK (V:ls) i55 (v51,U)=>Xg (AO V.A 4) λbc=>Xg (gH (α:=S) 1 U bc) λbd=>Xg (AO V.B 4) λbe=>Xg (gH (α:=S) 1 bd be) λbf=>Xg (AO V.C 4) λbg=>Xg (gH (α:=S) 1 bf bg) λai=>K ((BJ v51 32 ai),ai) ) H.ls 0 (ah,[])
 ) λ(aj,v63)=>
 AB (τ:=(I (Int×(I S)))) (λak=>if (decide (H.qz≥0)) then Xg (AO H.qz 4) λbh=>ak (BJ aj 35 bh) else ak aj
 ) λal=>
 AB (τ:=(I gF)) (λbi=>A3 (σ:=Int×(I gF)) (λM (F,v70)=>if (decide (F<256)) then AB (τ:=(I gF)) (λbj=>Xg (some (Xbk (BA al F) [])) λan=>Xg (some (Option.isSome (BA al F))) λbk=>AB (τ:=(I gF)) (λao=>if bk then Xg (BQ F) λbl=>Xg (gH (α:=S) 1 [] an) λ_=>Xg (gH (α:=gF) 40 v70 ([(⟨bl,F,an⟩:gF)]:I gF)) λbm=>ao bm else ao v70 ) λbn=>AB (τ:=(I gF)) (λbo=>AH (σ:=(I gF)) (λP=>bo P ) (λQ (Y:gF) i82 P=>AB (τ:=(I gF)) (λap=>if (Y.hB==F) then Xg (gH (α:=S) 1 [] Y.Data) λ_=>Xg (gH (α:=gF) 40 P ([{ Y with hB:=F }]:I gF)) λbp=>ap bp else ap P ) λbq=>Q bq ) H.gS 0 bn ) λbr=>bj br ) λbu=>M ((AQ (F+1)),bu) else bi v70 ) qb (0,[])
 ) λbw=>
 some (bw,0)
def wT (H:gE)(Z:I (Int×(I S))):O ((I gF)×Int):=
 AB (τ:=(I (Int×(I S)))) (λa1=>if (decide (H.qW≥0)) then Xg (AO H.qW 4) λan=>a1 (BJ Z 4 an) else a1 Z
 ) λa6=>
 AB (τ:=(I (Int×(I S)))) (λa7=>if (decide (H.qd≥0)) then Xg (AO H.qd 4) λao=>a7 (BJ a6 5 ao) else a7 a6
 ) λa8=>
 AB (τ:=(I (Int×(I S)))×(I S)) (λap=>Xg (rv ((BA a8 8).isNone=true)) λ_=>AH (σ:=(I (Int×(I S)))×(I S)) (λ(v39,v40)=>ap (v39,v40) ) (λJ (aa:oF) i43 (v39,v40)=>Xg (AO aa.A 2) λaq=>Xg (gH (α:=S) 1 v40 aq) λar=>Xg (AO aa.B 2) λau=>Xg (gH (α:=S) 1 ar au) λab=>J ((BJ v39 8 ab),ab) ) H.cW 0 (a8,[])
 ) λ(ae,v49)=>
 AB (τ:=(I (Int×(I S)))×(I S)) (λax=>Xg (rv ((BA ae 32).isNone=true)) λ_=>AH (σ:=(I (Int×(I S)))×(I S)) (λ(v51,U)=>ax (v51,U) ) (λK (V:ls) i55 (v51,U)=>Xg (AO V.A 4) λay=>Xg (gH (α:=S) 1 U ay) λaz=>Xg (AO V.B 4) λb0=>Xg (gH (α:=S) 1 az b0) λba=>Xg (AO V.C 4) λbb=>Xg (gH (α:=S) 1 ba bb) λaf=>K ((BJ v51 32 af),af) ) H.ls 0 (ae,[])
 ) λ(ag,v63)=>
 AB (τ:=(I (Int×(I S)))) (λah=>if (decide (H.qz≥0)) then Xg (AO H.qz 4) λbc=>ah (BJ ag 35 bc) else ah ag
 ) λai=>
 AB (τ:=(I gF)) (λbd=>A3 (σ:=Int×(I gF)) (λM (F,v70)=>if (decide (F<256)) then AB (τ:=(I gF)) (λbe=>Xg (some (Xbk (BA ai F) [])) λaj=>Xg (some (Option.isSome (BA ai F))) λbf=>AB (τ:=(I gF)) (λak=>if bf then Xg (BQ F) λbg=>Xg (gH (α:=S) 1 [] aj) λ_=>Xg (gH (α:=gF) 40 v70 ([(⟨bg,F,aj⟩:gF)]:I gF)) λbh=>ak bh else ak v70 ) λbi=>AB (τ:=(I gF)) (λbj=>AH (σ:=(I gF)) (λP=>bj P ) (λQ (Y:gF) i82 P=>AB (τ:=(I gF)) (λal=>if (Y.hB==F) then Xg (gH (α:=S) 1 [] Y.Data) λ_=>Xg (gH (α:=gF) 40 P ([{ Y with hB:=F }]:I gF)) λbk=>al bk else al P ) λbl=>Q bl ) H.gS 0 bi ) λbm=>be bm ) λbn=>M ((AQ (F+1)),bn) else bd v70 ) qb (0,[])
 ) λbo=>
 some (bo,0)
def x0 (Q:gE)(Z:I (Int×(I S))):O ((I gF)×Int):=
 AB (τ:=(I (Int×(I S)))) (λa1=>if (decide (Q.qd≥0)) then Xg (AO Q.qd 4) λak=>a1 (BJ Z 5 ak) else a1 Z
 ) λa6=>
 AB (τ:=(I (Int×(I S)))×(I S)) (λal=>Xg (rv ((BA a6 8).isNone=true)) λ_=>AH (σ:=(I (Int×(I S)))×(I S)) (λ(v39,v40)=>al (v39,v40) ) (λH (a7:oF) i43 (v39,v40)=>Xg (AO a7.A 2) λan=>Xg (gH (α:=S) 1 v40 an) λao=>Xg (AO a7.B 2) λap=>Xg (gH (α:=S) 1 ao ap) λa8=>H ((BJ v39 8 a8),a8) ) Q.cW 0 (a6,[])
 ) λ(aa,v49)=>
 AB (τ:=(I (Int×(I S)))×(I S)) (λaq=>Xg (rv ((BA aa 32).isNone=true)) λ_=>AH (σ:=(I (Int×(I S)))×(I S)) (λ(v51,U)=>aq (v51,U) ) (λJ (V:ls) i55 (v51,U)=>Xg (AO V.A 4) λar=>Xg (gH (α:=S) 1 U ar) λau=>Xg (AO V.B 4) λax=>Xg (gH (α:=S) 1 au ax) λay=>Xg (AO V.C 4) λaz=>Xg (gH (α:=S) 1 ay az) λab=>J ((BJ v51 32 ab),ab) ) Q.ls 0 (aa,[])
 ) λ(ae,v63)=>
 AB (τ:=(I (Int×(I S)))) (λaf=>if (decide (Q.qz≥0)) then Xg (AO Q.qz 4) λb0=>af (BJ ae 35 b0) else af ae
 ) λag=>
 AB (τ:=(I gF)) (λba=>A3 (σ:=Int×(I gF)) (λK (F,v70)=>if (decide (F<256)) then AB (τ:=(I gF)) (λbb=>Xg (some (Xbk (BA ag F) [])) λah=>Xg (some (Option.isSome (BA ag F))) λbc=>AB (τ:=(I gF)) (λai=>if bc then Xg (BQ F) λbd=>Xg (gH (α:=S) 1 [] ah) λ_=>Xg (gH (α:=gF) 40 v70 ([(⟨bd,F,ah⟩:gF)]:I gF)) λbe=>ai be else ai v70 ) λbf=>AB (τ:=(I gF)) (λbg=>AH (σ:=(I gF)) (λM=>bg M ) (λP (Y:gF) i82 M=>AB (τ:=(I gF)) (λaj=>if (Y.hB==F) then Xg (gH (α:=S) 1 [] Y.Data) λ_=>Xg (gH (α:=gF) 40 M ([{ Y with hB:=F }]:I gF)) λbh=>aj bh else aj M ) λbi=>P bi ) Q.gS 0 bf ) λbj=>bb bj ) λbk=>K ((AQ (F+1)),bk) else ba v70 ) qb (0,[])
 ) λbl=>
 some (bl,0)
def wM (Y:gE)(Z:I (Int×(I S))):O ((I gF)×Int):=
 AB (τ:=(I (Int×(I S)))×(I S)) (λai=>Xg (rv ((BA Z 8).isNone=true)) λ_=>AH (σ:=(I (Int×(I S)))×(I S)) (λ(v39,v40)=>ai (v39,v40) ) (λH (a1:oF) i43 (v39,v40)=>Xg (AO a1.A 2) λaj=>Xg (gH (α:=S) 1 v40 aj) λak=>Xg (AO a1.B 2) λal=>Xg (gH (α:=S) 1 ak al) λa6=>H ((BJ v39 8 a6),a6) ) Y.cW 0 (Z,[])
 ) λ(a7,v49)=>
 AB (τ:=(I (Int×(I S)))×(I S)) (λan=>Xg (rv ((BA a7 32).isNone=true)) λ_=>AH (σ:=(I (Int×(I S)))×(I S)) (λ(v51,Q)=>an (v51,Q) ) (λJ (U:ls) i55 (v51,Q)=>Xg (AO U.A 4) λao=>Xg (gH (α:=S) 1 Q ao) λap=>Xg (AO U.B 4) λaq=>Xg (gH (α:=S) 1 ap aq) λar=>Xg (AO U.C 4) λau=>Xg (gH (α:=S) 1 ar au) λa8=>J ((BJ v51 32 a8),a8) ) Y.ls 0 (a7,[])
 ) λ(aa,v63)=>
 AB (τ:=(I (Int×(I S)))) (λab=>if (decide (Y.qz≥0)) then Xg (AO Y.qz 4) λax=>ab (BJ aa 35 ax) else ab aa
 ) λae=>
 AB (τ:=(I gF)) (λay=>A3 (σ:=Int×(I gF)) (λK (F,v70)=>if (decide (F<256)) then AB (τ:=(I gF)) (λaz=>Xg (some (Xbk (BA ae F) [])) λaf=>Xg (some (Option.isSome (BA ae F))) λb0=>AB (τ:=(I gF)) (λag=>if b0 then Xg (BQ F) λba=>Xg (gH (α:=S) 1 [] af) λ_=>Xg (gH (α:=gF) 40 v70 ([(⟨ba,F,af⟩:gF)]:I gF)) λbb=>ag bb else ag v70 ) λbc=>AB (τ:=(I gF)) (λbd=>AH (σ:=(I gF)) (λM=>bd M ) (λP (V:gF) i82 M=>AB (τ:=(I gF)) (λah=>if (V.hB==F) then Xg (gH (α:=S) 1 [] V.Data) λ_=>Xg (gH (α:=gF) 40 M ([{ V with hB:=F }]:I gF)) λbe=>ah be else ah M ) λbf=>P bf ) Y.gS 0 bc ) λbg=>az bg ) λbh=>K ((AQ (F+1)),bh) else ay v70 ) qb (0,[])
 ) λbi=>
 some (bi,0)
def wW (a0:gE)(P:I (Int×(I S))):O ((I gF)×Int):=
 AB (τ:=(I gF)) (λY=>A3 (σ:=Int×(I gF)) (λH (F,v70)=>if (decide (F<256)) then AB (τ:=(I gF)) (λZ=>Xg (some (Xbk (BA P F) [])) λQ=>Xg (some (Option.isSome (BA P F))) λa1=>AB (τ:=(I gF)) (λU=>if a1 then Xg (BQ F) λa6=>Xg (gH (α:=S) 1 [] Q) λ_=>Xg (gH (α:=gF) 40 v70 ([(⟨a6,F,Q⟩:gF)]:I gF)) λa7=>U a7 else U v70 ) λa8=>AB (τ:=(I gF)) (λaa=>AH (σ:=(I gF)) (λJ=>aa J ) (λK (M:gF) i82 J=>AB (τ:=(I gF)) (λV=>if (M.hB==F) then Xg (gH (α:=S) 1 [] M.Data) λ_=>Xg (gH (α:=gF) 40 J ([{ M with hB:=F }]:I gF)) λab=>V ab else V J ) λae=>K ae ) a0.gS 0 a8 ) λaf=>Z af ) λag=>H ((AQ (F+1)),ag) else Y v70 ) qb (0,[])
 ) λah=>
 some (ah,0)
end Go.AX.Q25
end
