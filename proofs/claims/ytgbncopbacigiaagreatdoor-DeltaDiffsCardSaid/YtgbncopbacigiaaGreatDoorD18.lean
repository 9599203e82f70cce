/-
  Texts of one proof, packed.
-/
import Derived.Test.YtgbncopbacigiaaGreatDoorD17
import Derived.KernelRfl
set_option linter.all false
set_option maxRecDepth 100000
set_option maxHeartbeats 4000000
open List renaming length_map→X10,length_append→X11,length_cons→X12,length_nil→X13,getElem?_eq_getElem→X15,getElem?_eq_some_iff→X16,length_drop→X17,length_take→X18,mem_cons_of_mem→X19,length_replicate→X20,length_set→X21,length_singleton→X22
open Option.some renaming inj→X25
open Bool renaming and_eq_true→X27,eq_iff_iff→X28
open Nat renaming add_mul→X32
open Option renaming bind→Xd
open Int renaming toNat→Xi,fdiv→Xcd
open List renaming cons→Xbj,toArray→Xcq
open BitVec renaming ofInt→Wv
open Nat renaming ble→Xdi
open UInt64 renaming ofNat→Xae
open ByteArray renaming mk→Xcp
open UInt8 renaming ofNat→Xcv
section
namespace Go.AX.Q29
open Go Go.AX
instance (F:Addr):Tt (Bh F):=by unfold Bh;exact Tt.so
instance (F:Addr):Tt (Bz F):=by unfold Bz;exact Tt.so
instance (F:O S):Tt (BM F):=by unfold BM;exact Tt.so
instance (F:Int):Tt (A9 F):=by unfold A9;exact Tt.so
instance (F:Int):Tt (CL F):=by unfold CL;exact Tt.so
instance (F:r8):Tt (EE F):=by unfold EE;exact Tt.so
instance (F:r8) (H:r8):Tt (E2 F H):=by unfold E2;exact Tt.so
instance (F:n8):Tt (Bo F):=by unfold Bo;exact Tt.so
instance (F:n8) (H:n8):Tt (B5 F H):=by unfold B5;exact Tt.so
instance (F:O r8) (H:r8):Tt (EY F H):=by unfold EY;exact Tt.so
instance:Tt (CE):=by unfold CE;exact Tt.so
instance (F:O r8) (H:O r8):Tt (Dy F H):=by unfold Dy;exact Tt.so
instance (F:O n8) (H:O n8):Tt (BJ F H):=by unfold BJ;exact Tt.so
instance (F:O kI) (H:O kI):Tt (BY F H):=by unfold BY;exact Tt.so
instance (F:Addr):Tt (BO F):=by unfold BO;exact Tt.so
instance (F:Int):Tt (Ec F):=by unfold Ec;exact Tt.so
instance (F:Addr) (H:Int):Tt (Dv F H):=by unfold Dv;exact Tt.so
def XY {a k:Nat}(J:a<2^64)(K:k<=64):(Wv 64 (a:Int) &&& ~~~Wv 64 ((2^k-1:Nat):Int)).toNat=a/2^k*2^k:=by
 apply Nat.eq_of_testBit_eq;intro i;rw[Xcy,Xcy,BitVec.testBit_toNat];simp only[BitVec.getLsbD_and,BitVec.getLsbD_not,BitVec.getLsbD_ofNat,Nat.testBit_mul_two_pow,Nat.testBit_div_two_pow,Nat.testBit_two_pow_sub_one];by_cases H:i<64
 ·by_cases F:k<=i
  ·simp[H,F,Nat.not_lt.2 F]
  simp[H,F,Xaz F]
 have:a.testBit i=false:=Nat.testBit_lt_two_pow (Xap J (Nat.pow_le_pow_right (by omega) (by omega)));by_cases F:k<=i
 ·simp[H,F,this]
 omega
def Ci (n:Nat):AY (n:Int)=Xae n:=by unfold AY;apply Xck.1;simp only[Xad];omega
def Addr.n (a:Addr):Nat:=a.Hi.toNat*2^64+a.Lo.toNat
def Addr.w (a:Addr):Nat:=if a.V6 then 128 else 32
def Addr.ok (a:Addr):I:=cond a.V6 true (cond ((a.Hi.toNat:Int)==0) (decide ((a.Lo.toNat:Int)<4294967296)) false)
def uO (F:I)(n:Nat):Addr:=⟨F,Xae (n/2^64),Xae n⟩
def Addr.cut (a:Addr)(n:Nat):Addr:=uO a.V6 (a.n/2^(a.w-n)*2^(a.w-n))
def nB (b:I)(m:Nat):(uO b m).V6=b:=by unfold uO;rfl
def qB (h l k:Nat)(F:l<2^64)(H:k<=64):(h*2^64+l)/2^k*2^k=h*2^64+l/2^k*2^k:=by
 have:(2:Nat)^64=2^(64-k)*2^k:=by rw[<- Nat.pow_add];congr 1;omega
 rw[this,<- Nat.mul_assoc,Xci,Nat.add_mul_div_right _ _ (Xda k),X32,Xci]
def lU:AY (((0:Nat):Int)-1)=Xae 18446744073709551615:=by unfold AY;congr 1
def nE {k:Nat}(J:k<64):AY (((Xae (2^k)).toNat:Int)-1)=Xae (2^k-1):=by
  have K:(2:Nat)^k<2^64:=Nat.pow_lt_pow_right (by omega) (by omega);have M:0<(2:Nat)^k:=Xda k;have F:(Xae (2^k)).toNat=2^k:=by simp only[Xad];omega
  rw[F];have H:((2^k:Nat):Int)-1=((2^k-1:Nat):Int):=by omega
  rw[H,Ci]
def mX:AY (((Xae (2^64)).toNat:Int)-1)=Xae (2^64-1):=by
  have F:(Xae (2^64)).toNat=0:=by simp only[Xad,Nat.mod_self]
  rw[F];exact lU
def ml {k:Nat}(F:k<=64):AY (1*(2^(min (Xi ((AY (k:Int)).toNat:Int)) 64)))=Xae (2^k):=by
 rw[Ci];have H:(Xae k).toNat=k:=by simp;omega
 rw[H,Xa7,Nat.min_eq_left F,Int.one_mul];have J:((2:Int)^k)=((2^k:Nat):Int):=by simp
 rw[J,Ci]
def Uy {k:Nat}(F:k<=64):AY (((AY (1*(2^(min (Xi ((AY (k:Int)).toNat:Int)) 64)))).toNat:Int)-1)=Xae (2^k-1):=by
 rw[ml F];rcases Nat.lt_or_eq_of_le F with h|h
 ·exact nE h
 rw[h];exact mX
def Lm {x:j}{k:Nat}(F:k<=64):AY ((Wv 64 (x.toNat:Int) &&& ~~~Wv 64 ((Xae (2^k-1)).toNat:Int)).toNat:Int)=Xae (x.toNat/2^k*2^k):=by
 have h:(Xae (2^k-1)).toNat=2^k-1:=by have:(2:Nat)^k<=2^64:=Nat.pow_le_pow_right (by omega) F;have H:0<(2:Nat)^k:=Xda k;simp only[Xad];omega
 rw[h,XY x.toNat_lt F,Ci]
def JO (a:Addr){n:Nat}(hn:n<=a.w):Dv a (n:Int)=some (a.cut n):=by
 have U:BO a=some (a.w:Int):=by unfold BO Addr.w;split<;>rfl
 have J:AQ ((a.w:Int)-(n:Int))=((a.w-n:Nat):Int):=by
  have:a.w<=128:=by unfold Addr.w;split<;>omega
  rw[AN (by omega)];omega
 have H:=a.Lo.toNat_lt;have V:=a.Hi.toNat_lt;unfold Dv;rw[U,AA,J];have K:a.w-n<=128:=by unfold Addr.w;split<;>omega
 generalize P:a.w-n=k at *;unfold Ec;by_cases Y:k>64
 ·rw[Xy (by simp;omega),AA];have e:AQ ((k:Int)-64)=((k-64:Nat):Int):=by rw[AN (by omega)];omega
  rw[e,Uy (by omega)];simp only[Lm (show k-64<=64 by omega)];have M:(18446744073709551615:j)=Xae (2^64-1):=rfl;rw[M,Lm (Xa8 64)];have Q:a.Lo.toNat/2^64=0:=Nat.div_eq_of_lt H;unfold Addr.cut uO Addr.n;rw[P];have F:(2:Nat)^k=2^64*2^(k-64):=by rw[<- Nat.pow_add];congr 1;omega
  have Z:(a.Hi.toNat*2^64+a.Lo.toNat)/2^k=a.Hi.toNat/2^(k-64):=by rw[F,<- Nat.div_div_eq_div_mul,Xci,Nat.add_mul_div_right _ _ (Xda 64),Q,Xan]
  rw[Z];have he:a.Hi.toNat/2^(k-64)*2^k=a.Hi.toNat/2^(k-64)*2^(k-64)*2^64:=by rw[F,Xc0 (2^64),Nat.mul_assoc]
  rw[he,Nat.mul_div_cancel _ (Xda 64),Q];have e0:Xae (a.Hi.toNat/2^(k-64)*2^(k-64)*2^64)=Xae 0:=by apply Xck.1;simp only[Xad,Nat.mul_mod_left,Nat.zero_mod]
  rw[e0,Nat.zero_mul]
 rw[Xj (by simp;omega),AA,Uy (by omega)];simp only[Lm (show k<=64 by omega)];have M:(0:j)=Xae (2^0-1):=rfl;rw[M,Lm (Xd9 64)];unfold Addr.cut uO Addr.n;rw[P,qB _ _ _ H (by omega)];have a1:a.Lo.toNat/2^k*2^k<2^64:=Nat.lt_of_le_of_lt (Nat.div_mul_le_self _ _) H;have e1:Xae (a.Hi.toNat/2^0*2^0)=Xae ((a.Hi.toNat*2^64+a.Lo.toNat/2^k*2^k)/2^64):=by congr 1;omega
 have e2:Xae (a.Lo.toNat/2^k*2^k)=Xae (a.Hi.toNat*2^64+a.Lo.toNat/2^k*2^k):=by apply Xck.1;simp only[Xad];omega
 rw[e1,e2]
def MX (n:Nat):BF (n:Int)=Xcv n:=by unfold BF;apply UInt8.toNat_inj.1;simp only[Xct];omega
def Addr.L (a:Addr):Nat:=if a.V6 then 16 else 4
def SS (a:Addr)(k:Nat):S:=Xcv (a.n/2^(8*k))
def Dc (a:Addr):Bh a=some a.ok:=by unfold Bh Addr.ok;rw[AB];generalize ((a.Hi.toNat:Int)==0)=x;generalize decide ((a.Lo.toNat:Int)<4294967296)=y;generalize a.V6=z;cases z<;>cases x<;>rfl
def Xh {w:j}{k:Nat}(M:k<8) : BF ((AY (Xcd (w.toNat:Int) (2^(min (Xi ((AY (8*((AY (k:Int)).toNat:Int))).toNat:Int)) 64)))).toNat:Int)=Xcv (w.toNat/2^(8*k)):=by
 have F:(AY (k:Int)).toNat=k:=by rw[Ci];simp;omega
 have H:(AY (8*((AY (k:Int)).toNat:Int))).toNat=8*k:=by
  rw[F];have:(8*(k:Int))=((8*k:Nat):Int):=by omega
  rw[this,Ci];simp;omega
 have J:Xcd (w.toNat:Int) ((2:Int)^(8*k))=((w.toNat/2^(8*k):Nat):Int):=by
  have:((2:Int)^(8*k))=((2^(8*k):Nat):Int):=by simp
  rw[this,Int.fdiv_eq_ediv_of_nonneg _ (Xcc _),Int.natCast_ediv]
 rw[H,Xa7,Nat.min_eq_left (by omega),J,Ci,MX];have:(Xae (w.toNat/2^(8*k))).toNat=w.toNat/2^(8*k):=by have K:w.toNat/2^(8*k)<2^64:=Nat.lt_of_le_of_lt (Nat.div_le_self _ _) w.toNat_lt;rw[Xad,Xbe K]
 rw[this]
def UO {a b:Nat}(h:a%256=b%256):Xcv a=Xcv b:=by apply UInt8.toNat_inj.1;simp only[Xct];exact h
def Td {a:Addr}{k:Nat}(J:k<16)(K:a.ok=true)(M:a.V6=false->k<4) : Xcv ((if k≥8 then a.Hi else a.Lo).toNat/2^(8*(k%8)))=SS a k:=by
 unfold SS Addr.n;have F:=a.Lo.toNat_lt;by_cases H:k≥8
 ·rw[Xy H];have e:8*k=64+8*(k%8):=by omega
  rw[e,Nat.pow_add,<- Nat.div_div_eq_div_mul,Xci (a.Hi.toNat*2^64),Nat.add_mul_div_right _ _ (Xda 64),Nat.div_eq_of_lt F,Xan]
 rw[Xj H];have e:k%8=k:=Xbe (by omega);rw[e];apply UO;have e2:(2:Nat)^64=2^(8*k)*2^(64-8*k):=by rw[<- Nat.pow_add];congr 1;omega
 have e3:(2:Nat)^(64-8*k)=256*2^(56-8*k):=by have:(256:Nat)=2^8:=rfl;rw[this,<- Nat.pow_add];congr 1;omega
 have e4:a.Hi.toNat*2^64=a.Hi.toNat*2^(56-8*k)*256*2^(8*k):=by rw[e2,e3,Nat.mul_assoc,Nat.mul_assoc];congr 1;rw[Xc0 (2^(56-8*k)),Xc0 (2^(8*k))];rw[Nat.mul_assoc,Xc0 (2^(56-8*k)),Nat.mul_assoc]
 rw[e4,Xci,Nat.add_mul_div_right _ _ (Xda _),Nat.add_mul_mod_self_right]
def KN {a:Addr}(U:a.ok=true):Ok (BC a) λl=>l.length=a.L/\∀j,j<a.L->l[j]?=some (SS a (a.L-1-j)):=by
 unfold BC;rw[Dc,AA,U];refine .ite (λh=>by simp at h) λ_=>?_;refine .join (λn:Int=>n=a.L) (λk K=>.ite (λh=>K _ (by unfold Addr.L;rw[Xy h];rfl)) λh=>K _ (by unfold Addr.L;rw[Xj h];rfl)) λn M=>?_;have hL:a.L=16\/a.L=4:=by unfold Addr.L;split<;>simp
 subst M;refine .join (λl:O S=>l.length=a.L/\∀j,j<a.L->l[j]?=some (SS a (a.L-1-j))) (λk K=>?_) λl Y=>.ret Y;refine .sP (λs:Int×O S=>-1<=s.1/\s.1=a.L-1-s.2.length/\∀j,j<s.2.length->s.2[j]?=some (SS a (a.L-1-j))) (λs=>(s.1+1).toNat) ?_ ?_ ?_
 ·rw[AN (by omega)];simp;omega
 ·rw[AN (by omega)];exact BK (by omega)
 rintro next ⟨p,l⟩ ⟨Z,P,Q⟩ M
 simp only at Z P Q;refine .ite (λh=>?_) λh=>K _ ⟨by simp at h;omega,λj V=>Q j (by simp at h;omega)⟩;simp only[Xe] at h;obtain⟨k,rfl⟩ :∃k:Nat,p=k:=⟨p.toNat,by omega⟩;refine .join (λw:UInt64=>w=if k≥8 then a.Hi else a.Lo) (λk' F=>.ite (λh=>F _ (by rw[Xy (by simp at h;omega)]) ) λh=>F _ (by rw[Xj (by simp at h;omega)])) λw hw=>?_;refine .bind (Ok.gE (by decide) (by simp;omega)) λl' H=>?_;have hb:k<16:=by omega
 have ht:Int.tmod (k:Int) 8=((k%8:Nat):Int):=by rw[Int.tmod_eq_emod_of_nonneg (by omega)];omega
 rw[ht,Xh (Nat.mod_lt _ (by omega)),hw,Td hb U (λh4=>by unfold Addr.L at P;simp[h4] at P;omega)] at H;subst H;rw[AN (by omega)];refine M _ ⟨by simp only;omega,by simp;omega,λj V=>?_⟩ (by simp only;omega);simp only[X11,X22] at V;by_cases J:j<l.length
 ·simp only;rw[Ww J];exact Q j J
 have:j=l.length:=by omega
 subst this;simp only[Xa4 (Xa8 _),Nat.sub_self,List.getElem?_cons_zero];congr 2;omega
def Y9 {u v:Nat}(K:u<2^64)(M:v<256):AY ((Wv 64 ((AY ((u:Int)*(2^(min (Xi 8) 64)))).toNat:Int) ||| Wv 64 ((AY (v:Int)).toNat:Int)).toNat:Int)=Xae (u*256+v):=by
 have F:((u:Int)*(2^(min (Xi 8) 64)))=((u*256:Nat):Int):=by have:min (Xi 8) 64=8:=rfl;rw[this];omega
 rw[F,Ci,Ci,Ci];have H:(Xae v).toNat=v:=by simp only[Xad];omega
 have J:(Xae (u*256)).toNat=2^8*(u%2^56):=by simp only[Xad];omega
 rw[H,J,Xcy,Xcy,BitVec.toNat_or,BitVec.toNat_ofNat,BitVec.toNat_ofNat,Xbe (show 2^8*(u%2^56)<2^64 by omega),Xbe (show v<2^64 by omega), ← Nat.two_pow_add_eq_or_of_lt (show v<2^8 by omega)];apply Xck.1;simp only[Xad];omega
def LW {l:O S}(Q:l.length=4\/l.length=16):Ok (BM l) λr=>r=(uO (l.length==16) (val l%2^128),0):=by
 unfold BM;refine .join (λb=>b=false) (λk F=>.ite (λh=>F _ ?_) λ_=>F _ rfl) λb U=>?_
 ·rcases Q with M|M<;>simp[M] at h⊢
 subst U;refine .ite (λh=>by simp at h) λ_=>?_;refine .join (λa=>a=uO (l.length==16) (val l%2^128)) (λk F=>?_) λa V=>.ret (by rw[V]);refine .tn (λi s=>s=uO (l.length==16) (val (l.take i)%2^128)) ?_ (λs Y=>F _ (by rw[Y,Xcj])) ?_
 ·have:((l.length:Int)==16)=(l.length==16):=by rw[X28];simp only[Xbi];omega
  rw[this,List.take_zero];have e0:val []%2^128=0:=by simp[val]
  rw[e0];unfold uO;rfl
 rintro next x i s P rfl Z
 refine Z _ ?_;have a1:=(X16.1 P).1;have ht:l.take (i+1)=l.take i++[x]:=by rw[Xb8,P];rfl
 rw[ht,Ur];generalize val (l.take i)=m;have H:=x.toNat_lt;have J:(uO (l.length==16) (m%2^128)).Lo.toNat=m%2^64:=by unfold uO;simp only[Xad];omega
 have K:(uO (l.length==16) (m%2^128)).Hi.toNat=m/2^64%2^64:=by unfold uO;simp only[Xad];omega
 have h1:=Y9 (u:=m%2^64) (v:=x.toNat) (by omega) H;have h2:=Y9 (u:=m/2^64%2^64) (v:=m%2^64/2^56) (by omega) (by omega);have h3:Xcd ((m%2^64:Nat):Int) (2^(min (Xi 56) 64))=((m%2^64/2^56:Nat):Int):=by
  have:min (Xi 56) 64=56:=rfl;have e5:((2:Int)^56)=((2^56:Nat):Int):=by simp
  rw[this,e5,Int.fdiv_eq_ediv_of_nonneg _ (Xcc _),Int.natCast_ediv]
 rw[J,K,h3,h1,h2,nB];unfold uO;have e1:Xae (m/2^64%2^64*256+m%2^64/2^56)=Xae ((m*256+x.toNat)%2^128/2^64):=by apply Xck.1;simp only[Xad];omega
 have e2:Xae (m%2^64*256+x.toNat)=Xae ((m*256+x.toNat)%2^128):=by apply Xck.1;simp only[Xad];omega
 rw[e1,e2]
def U4 :∀(l:O S) (q:Nat),(val l).testBit q=if q<8*l.length then (l.getD (l.length-1-q/8) 0).toNat.testBit (q%8) else false:=by
 intro l;induction h:l.length generalizing l with
 | zero=>intro q;have:l=[]:=Xab h;subst this;simp[val]
 | succ n P=>
  intro q;obtain⟨F,x,rfl⟩ :∃F x,l=F++[x]:=by
   rcases List.eq_nil_or_concat l with H|⟨F,x,H⟩
   ·subst H;simp at h
   exact⟨F,x,by simpa using H⟩
  have J:F.length=n:=by simpa using h
  rw[Ur,Xc0,show (256:Nat)=2^8 from rfl,Nat.testBit_two_pow_mul_add _ (show x.toNat<2^8 from x.toNat_lt)];by_cases K:q<8
  ·rw[Xy K,Xy (by omega)];have e1:n+1-1-q/8=F.length:=by omega
   rw[e1,Xbe K];simp[Wq]
  rw[Xj K,P F J];by_cases M:q-8<8*n
  ·rw[Xy M,Xy (by omega)];have e1:n-1-(q-8)/8=n+1-1-q/8:=by omega
   have e2:(q-8)%8=q%8:=by omega
   rw[e1,e2,Wq,Wq,Ww (by omega)]
  rw[Xj M,Xj (by omega)]
def aQ {x:S}{r:Nat}(M:r<8){s:Nat}(F:s<8) : (BF ((Wv 8 (x.toNat:Int) &&& ~~~Wv 8 ((BF (Xcd 128 (2^(min (Xi ((AY (r:Int)).toNat:Int)) 8)))).toNat:Int)).toNat:Int)).toNat.testBit s=(x.toNat.testBit s&&!decide (7-r=s)):=by
 have H:(AY (r:Int)).toNat=r:=by rw[Ci];simp;omega
 have J:Xcd 128 ((2:Int)^r)=((2^(7-r):Nat):Int):=by
  have e1:((2:Int)^r)=((2^r:Nat):Int):=by simp
  have e2:(128:Int)=((128:Nat):Int):=rfl;rw[e1,e2,Int.fdiv_eq_ediv_of_nonneg _ (Xcc _),<- Int.natCast_ediv];congr 1;have e3:(128:Nat)=2^(7-r)*2^r:=by rw[<- Nat.pow_add,show 7-r+r=7 by omega]
  rw[e3,Nat.mul_div_cancel _ (Xda r)]
 rw[H,Xa7,Nat.min_eq_left (by omega),J,MX,MX,Xcy,Xcy];have hp:2^(7-r)<256:=Nat.lt_of_le_of_lt (Nat.pow_le_pow_right (by omega) (show 7-r<=7 by omega)) (by decide);have K:(Xcv (2^(7-r))).toNat=2^(7-r):=by simp only[Xct];exact Xbe hp
 rw[K,Xct,Nat.testBit_mod_two_pow,BitVec.testBit_toNat];simp only[BitVec.getLsbD_and,BitVec.getLsbD_not,BitVec.getLsbD_ofNat,F,decide_true,Xc6,Nat.testBit_two_pow]
def Addr.vR (a:Addr){n q:Nat}(F:n<=a.w):(a.n/2^(a.w-n)*2^(a.w-n)).testBit q=(a.n.testBit q&&decide (a.w-n<=q)):=by
 rw[Nat.testBit_mul_two_pow,Nat.testBit_div_two_pow];by_cases h:a.w-n<=q
 ·simp[h]
 simp[h]
def fS {b c:I}(h:cond b c false=true):b=true/\c=true:=by cases b<;>simp at h⊢;exact h
def Addr.z8 {a:Addr}(F:a.ok=true)(K:a.V6=false):a.Hi.toNat=0/\a.Lo.toNat<2^32:=by unfold Addr.ok at F;rw[K] at F;obtain⟨H,J⟩:=fS F;have J:=of_decide_eq_true J;have H:=eq_of_beq H;omega
def Addr.xj {a:Addr}(J:a.ok=true):a.n<2^a.w:=by
 have Q:=a.Lo.toNat_lt;have U:=a.Hi.toNat_lt;cases F:a.V6
 ·obtain⟨K,M⟩:=Addr.z8 J F;have H:a.w=32:=by unfold Addr.w;rw[F];rfl
  have P:a.n=a.Lo.toNat:=by unfold Addr.n;rw[K,Nat.zero_mul,Xan]
  rw[H,P];exact M
 have H:a.w=128:=by unfold Addr.w;rw[F];rfl
 rw[H];unfold Addr.n;omega
def RP {a:Addr}{n:Nat}(U:a.ok=true)(hn:n<=a.w):Ok (CS a (n:Int)) λr=>r=(⟨a.cut n,n⟩,0):=by
 have hw:a.w=8*a.L:=by unfold Addr.w Addr.L;split<;>rfl
 have hL:a.L=16\/a.L=4:=by unfold Addr.L;split<;>simp
 unfold CS;rw[Dc,AA,U];refine .ite (λh=>by simp at h) λ_=>?_;have J:Bz a=some (a.w:Int):=by unfold Bz Addr.w;split<;>rfl
 refine .join (λb=>b=false) (λk hk=>.ite (λh=>by simp at h;omega) λ_=>?_) λb V=>?_
 ·rw[J,AA];refine hk _ ?_;simp only[Xdg,Xb2];omega
 subst V;refine .ite (λh=>by simp at h) λ_=>?_;refine .bind (KN U) λl hl=>?_;refine .join (λl:O S=>l.length=a.L/\val l=a.n/2^(a.w-n)*2^(a.w-n)) (λk hk=>?_) λY F=>?_
 ·refine .sP (λs:Int×O S=>∃P:Nat,s.1=P/\n<=P/\P<=8*a.L/\s.2.length=a.L/\∀q,q<8*a.L->(s.2.getD (a.L-1-q/8) 0).toNat.testBit (q%8)=(a.n.testBit q&&!decide (8*a.L-P<=q/\q<8*a.L-n)))
   (λs=>(8*a.L-s.1).toNat) ⟨n,rfl,Xa8 _,by omega,hl.1,λq H=>?_⟩ (BK (by simp only;omega)) ?_
  ·have Z:a.L-1-q/8<a.L:=by omega
   have h2:=hl.2 _ Z;have h3:a.L-1-(a.L-1-q/8)=q/8:=by omega
   have K:¬ (8*a.L-n<=q/\q<8*a.L-n):=by omega
   rw[Wq,h2,h3];simp only[Xao,K,decide_false,Bool.not_false,Xd3];unfold SS;rw[Xct,Nat.testBit_mod_two_pow,Nat.testBit_div_two_pow,Nat.mod_add_div];simp[Nat.mod_lt]
  rintro next ⟨p,l⟩ ⟨P,Z,h2,h3,K,h5⟩ a1
  simp only at Z K h5;subst Z;have e8:AQ (8*(l.length:Int))=((8*a.L:Nat):Int):=by rw[AN (by omega)];omega
  refine .ite (λh=>?_) λh=>hk _ ?_
  ·rw[e8] at h;simp only[Xe] at h;have ed:AQ (Int.tdiv (P:Int) 8)=((P/8:Nat):Int):=by rw[Int.tdiv_eq_ediv_of_nonneg (by omega),AN (by omega)];omega
   have et:Int.tmod (P:Int) 8=((P%8:Nat):Int):=by rw[Int.tmod_eq_emod_of_nonneg (by omega)];omega
   have M:P/8<l.length:=by omega
   rw[ed,As M,AA,AA];refine .bind (Ok.sx (by omega)) λY F=>?_;rw[Xa7,et] at F;rw[AN (by omega)];refine a1 _ ⟨P+1,by simp only;omega,by omega,by omega,by simp only;omega,λq H=>?_⟩ (by simp only;omega);simp only;rw[F.1];by_cases V:a.L-1-q/8=P/8
   ·have Q:=h5 q H;rw[V,Wq,X15 M,Xao] at Q;rw[V,Wq,Xcm (by omega),Xao,aQ (Nat.mod_lt _ (by omega)) (Nat.mod_lt _ (by omega)),Q,Bool.and_assoc];congr 1;rw[X28];simp only[X27,Xb7,Xb2];omega
   have Q:=h5 q H;rw[Wq] at Q;rw[Wq,Xcf (by omega),Q];congr 2;rw[decide_eq_decide];omega
  rw[e8] at h;simp only[Xe] at h;have hP:P=8*a.L:=by omega
  subst hP;refine⟨K,?_⟩;apply Nat.eq_of_testBit_eq;intro q;rw[U4,a.vR hn,K];by_cases H:q<8*a.L
  ·rw[Xy H,h5 q H];congr 1;rw[X28];simp only[Xb7,Xb2,Xe];omega
  rw[Xj H];have:a.n.testBit q=false:=Nat.testBit_lt_two_pow (Xap (Addr.xj U) (Nat.pow_le_pow_right (by omega) (by omega)));rw[this,Bool.false_and]
 refine .bind (LW (by omega)) λr hr=>?_;subst hr;refine .ret ?_;have e1:(Y.length==16)=a.V6:=by rw[F.1];unfold Addr.L;cases a.V6<;>rfl
 have e2:val Y%2^128=val Y:=by refine Xbe ?_;rw[F.2];exact Nat.lt_of_le_of_lt (Nat.div_mul_le_self _ _) (Xap (Addr.xj U) (Nat.pow_le_pow_right (by omega) (by rw[hw];omega)))
 rw[e1,e2,F.2,Addr.cut]
def PP {a:Addr}{n:Int}(K:¬ (a.ok=true/\0<=n/\n<=a.w)):Ok (CS a n) λr=>r.2≠0:=by
 have F:Bz a=some (a.w:Int):=by unfold Bz Addr.w;split<;>rfl
 unfold CS;rw[Dc,AA];refine .ite (λ_=>.ret (by decide)) λH=>?_;have H:a.ok=true:=by simpa using H
 refine .join (λb=>b=true) (λk J=>.ite (λ_=>J _ rfl) λh=>?_) λb M=>?_
 ·rw[F,AA];refine J _ ?_;show decide (n>(a.w:Int))=true;simp at h⊢;have:¬ (0<=n/\n<=a.w):=λq=>K ⟨H,q⟩;omega
 subst M;exact .ite (λ_=>.ret (by decide)) λh=>absurd rfl h
def Gg (a:Addr)(n:Int) :∃r e,CS a n=some (r,e)/\((a.ok=true/\0<=n/\n<=a.w)/\e=0/\r=⟨a.cut n.toNat,n⟩\/¬ (a.ok=true/\0<=n/\n<=a.w)/\e≠0):=by
 by_cases h:a.ok=true/\0<=n/\n<=a.w
 ·obtain⟨k,rfl⟩ :∃k:Nat,n=k:=⟨n.toNat,by omega⟩;obtain⟨r,F,H⟩:=RP h.1 (n:=k) (by omega);exact⟨_,_,by rw[F,H],.inl ⟨h,rfl,by rw[Xa7]⟩⟩
 obtain⟨r,F,H⟩:=PP h;exact⟨r.1,r.2,F,.inr ⟨h,H⟩⟩
instance (a:Addr) (n:Int):Tt (CS a n):=by obtain⟨r,e,h,_⟩:=Gg a n;exact⟨_,h⟩
def xW (p:fv)(x:Addr):I:=decide (0<=p.rL/\p.rL<=x.w)&&Addr.rO (x.cut p.rL.toNat) p.Addr
instance (p:fv):Tt (Ae p):=by unfold Ae;exact Tt.so
def NU {i n:Nat}(h:i<n)(H:n<=1000000000)(F:¬ (((i:Int)==0)=true)):0<=AQ ((i:Int)-1)/\AQ ((i:Int)-1)<(n:Int):=by
 have:i≠0:=by intro e;subst e;simp at F
 rw[AN (by omega)];omega
def HN {i n:Nat}(h:i<n)(F:n<=1000000000)(H:(decide ((i:Int)>0))=true):0<=AQ ((i:Int)-1)/\AQ ((i:Int)-1)<(n:Int):=
 NU h F (by simp at H⊢;omega)
theorem Jz {l:O oF}(F:l.length<=1000000000)(H :∀s∈l,s.n7.length<=1000000000):Tt (CH l):=by unfold CH;have M:=λi (h:i<l.length)=>HN h F;have P:=λ(s:oF) (J:s∈l) i (h:i<s.n7.length) (K:(cond true (decide ((i:Int)>0)) false)=true)=>HN h (H s J) K;exact Tt.so
theorem QJ {l:O r8}(F:l.length<=1000000000):Tt (Dj l):=by unfold Dj;have H:=λi (h:i<l.length)=>HN h F;exact Tt.so
theorem Kr {l:O n8}(F:l.length<=1000000000):Tt (BQ l):=by unfold BQ;have H:=λi (h:i<l.length)=>HN h F;exact Tt.so
structure ui (n:Nat)(a:gH):Prop where
 p:a.Path.length<=n
 s :∀s∈a.Path,s.n7.length<=n
 c:a.fT.length<=n
 l:a.n8.length<=n
 o:a.lf.length<=n
 d :∀u∈a.lf,u.Data.length<=n
theorem Px {n:Nat}{a:gH}(h:ui n a)(J:n<=10000):Tt (Bf a):=by
 unfold Bf;have:=Jz (l:=a.Path) (by have:=h.p;omega) λs F=>by have:=h.s s F;omega
 have:=QJ (l:=a.fT) (by have:=h.c;omega);have:=Kr (l:=a.n8) (by have:=h.l;omega);have K:=λi (H:i<a.lf.length)=>HN H (by have:=h.o;omega);exact Tt.so
def ui.mono {n m:Nat}{a:gH}(h:ui n a)(F:n<=m):ui m a:=
 ⟨Xa3 h.p F,λs H=>Xa3 (h.s s H) F,Xa3 h.c F,Xa3 h.l F,Xa3 h.o F,λu J=>Xa3 (h.d u J) F⟩
def ui.zero (n:Nat)(x:Addr)(a b c d:Int):ui n ⟨a,[],x,b,c,d,[],[],[]⟩:=⟨Xd9 _,λ_ h=>absurd h (by simp),Xd9 _,Xd9 _,Xd9 _,λ_ h=>absurd h (by simp)⟩
instance (a b:O oF):Tt (Dw a b):=by
 unfold Dw;refine Ok.tt (Q:=λ_=>True) (.ite (λ_=>.ret trivial) λV=>.join (λ_=>True) (λk Y=>?_) λ_ _=>.ret trivial);have V:a.length=b.length:=by simp at V;omega
 refine .for_ (λ_=>Y _ trivial) λnext x i s hi hx J=>.join (λ_=>True) (λk2 K=>?_) λ_ _=>J _;have F:i<b.length:=by omega
 refine .join (λc=>c=false->x.n7.length=b[i].n7.length) (λk3 H=>?_) λc Z=>.ite (λ_=>.ret trivial) λM=>.join (λ_=>True) (λk4 P=>?_) λ_ _=>K _ trivial
 ·rw[As F,AA];refine .ite (λ_=>H _ (by simp)) λ_=>?_;rw[AA];exact H _ λh=>by simp at h;omega
 have:=Z (by simpa using M);refine .for_ (λ_=>P _ trivial) λnext y j s hj hy U=>?_;rw[As F,AA];refine .bind (.iX (by omega)) λ_ _=>.ite (λ_=>.ret trivial) λ_=>U _
instance (a b:gH):Tt (CQ a b):=by unfold CQ;exact Tt.so
def Xo {K V:Type}[BEq K](H :∀a b:K,(a==b)=true↔a=b){l:O (K×V)}{k F:K}{v:V}:A8 (A3 l k v) F=cond (F==k) (some v) (A8 l F):=by
 induction l with
 | nil=>simp only[A3,A8];cases F==k<;>rfl
 | cons p l J=>
  simp only[A3];cases h:(k==p.1)
  ·simp only[Bool.false_eq_true,Xd0,A8,J];cases M:(F==p.1)
   ·simp
   have P:(F==k)=false:=by
    cases Q:(F==k)
    ·rfl
    have e1:=(H _ _).1 M;have e2:=(H _ _).1 Q;rw[<- e2,e1,(H _ _).2 rfl] at h;simp at h
   rw[P];simp
  simp only[Xdl,A8];have e:=(H _ _).1 h;rw[<- e];cases F==k<;>simp
def tb {V:Type}{l:O (Int×V)}{k F:Int}{v:V}:A8 (A3 l k v) F=if F=k then some v else A8 l F:=by
 rw[Xo (λa b=>Xbi)];by_cases h:F=k
 ·rw[Xy h,h];simp
 rw[Xj h,show (F==k)=false by simpa using h];rfl
def Mb (n:Nat)(F:O Int)(m:O (Int×O S)):Prop:=(∀k v,A8 m k=some v->v.length<=n)/\∀k∈F,A8 m k=none
def Mb.set {n:Nat}{J H:O Int}{m:O (Int×O S)}{k:Int}{v:O S}(h:Mb n J m)(M:v.length<=n)(K :∀q∈H,q∈J/\q≠k):Mb n H (A3 m k v):=by
 refine⟨λq u F=>?_,λq F=>?_⟩
 ·rw[tb] at F;split at F
  ·obtain rfl:=X25 F;exact M
  exact h.1 _ _ F
 rw[tb,Xj (K q F).2];exact h.2 q (K q F).1
def Mb.sub {n:Nat}{H F:O Int}{m:O (Int×O S)}(h:Mb n H m)(J :∀q∈F,q∈H):Mb n F m:=⟨h.1,λq K=>h.2 q (J q K)⟩
def Cd (p:fv):Prop:=p.Addr.ok=true/\0<=p.rL/\p.rL<=p.Addr.w/\p.Addr.cut p.rL.toNat=p.Addr
def Addr.rb (a b:Addr):Addr.rO a b=true↔a=b:=by
 unfold Addr.rO;simp only[X27,Xbi,Xd3,Int.natCast_inj,Xck];constructor
 ·rintro⟨F,H,J⟩;cases a;cases b;simp_all
 rintro rfl;exact⟨rfl,rfl,rfl⟩
def fv.rb (a b:fv):fv.rO a b=true↔a=b:=by
 have h:=Addr.rb a.Addr b.Addr;unfold Addr.rO at h;unfold fv.rO;rw[X27,h];simp only[Xd3,Xbi];constructor
 ·rintro⟨F,H⟩;cases a;cases b;simp_all
 rintro rfl;exact⟨rfl,rfl⟩
def Fg (p:fv):Ok (Ae p) λb=>b=true↔Cd p:=by
 obtain⟨r,e,K,M⟩:=Gg p.Addr p.rL;unfold Ae;rw[K,AA];dsimp only;unfold Cd;rcases M with ⟨F,rfl,rfl⟩|⟨F,P⟩
 ·refine .join (λb=>b=true↔p.Addr.cut p.rL.toNat=p.Addr) (λk H=>.ite (λ_=>H _ ?_) λh=>absurd rfl h) λb J=>.ret (by rw[J];exact⟨λh=>⟨F.1,F.2.1,F.2.2,h⟩,λh=>h.2.2.2⟩);show fv.rO p _=true↔_;rw[fv.rb];exact⟨λh=>(congrArg fv.Addr h).symm,λh=>by rw[h]⟩
 refine .join (λb=>b=false) (λk H=>.ite (λh=>absurd (by simpa using h) P) λ_=>H _ rfl) λb J=>.ret ⟨λh=>by rw[J] at h;simp at h,λh=>absurd ⟨h.1,h.2.1,h.2.2.1⟩ F⟩
def Dk (d:oX):Prop:=0<=d.At/\d.L.length<=9223372036854775807
def wO (p:fv):Prop:=Ae p=some true/\(p.rL=16/\p.Addr.V6=false\/p.rL=48/\p.Addr.V6=true)
def wO.vO {p:fv}(h:wO p):Cd p:=by obtain⟨b,F,H⟩:=Fg p;rw[h.1] at F;exact H.1 (X25 F).symm
def oO:T:=Xcp (Xcq (Xbj 65 (Xbj 76 (Xbj 76 List.nil))))
def oP:T:=Xcp (Xcq (Xbj 79 (Xbj 78 (Xbj 69 List.nil))))
def Vx {α:Type}{l:O α}{x y:α}{i:Nat}(h:(l++[x])[i]?=some y):l[i]?=some y\/i=l.length/\y=x:=by
 rcases Nat.lt_trichotomy i l.length with F|F|F
 ·rw[Ww F] at h;exact .inl h
 ·subst F;simp at h;exact .inr ⟨rfl,h.symm⟩
 rw[List.getElem?_eq_none (by simp;omega)] at h;cases h
def Qe:CE=some ⟨-1,[],⟨false,0,0⟩,-1,-1,-1,[],[],[]⟩:=rfl
def Sh (p:O oF)(o:O kI):Prop:=(p.length<=4/\∀s∈p,s.n7.length<=20)/\o.length<=4/\∀u∈o,u.Data.length<=4
def Sh.a {p:O oF}{o:O kI}(h:Sh p o){a b c d:Int}{x:Addr}{e:O r8}{f:O n8}(J:e.length<=8)(K:f.length<=8):ui 1000 ⟨a,p,x,b,c,d,e,f,o⟩:=
 ⟨by have:=h.1.1;simp only;omega,λs F=>by have:=h.1.2 s F;omega,by simp only;omega,by simp only;omega,by have:=h.2.1;simp only;omega,λu H=>by have:=h.2.2 u H;omega⟩
def tF (a b:Int):I:=decide (a<b)
def Yw (a:Int):tF a a=false:=by simp[tF]
def eP (a b c:Int)(F:tF a b=true)(H:tF b c=true):tF a c=true:=by simp only[tF,Xe] at *;omega
def jq (a b:Int)(h:tF a b=false):a=b\/tF b a=true:=by simp only[tF,Xe,Xb2] at *;omega
def sN (l r:O Int):Prop:=r.Pairwise (λa b=>tF a b=true)/\∀x,x∈r↔x∈l
end Go.AX.Q29
end
section
namespace Go.AX
section
variable {α ρ:Type}
def rN (lt:α->α->I):O α->I
 | x::y::t=>lt x y&&rN lt (y::t)
 | _=>true
def Jv (lt:α->α->I)(x y:α)(t:O α):rN lt (x::y::t)=(lt x y&&rN lt (y::t)):=rfl
def QN (lt:α->α->I)(x:α):rN lt [x]=true:=rfl
def KR {lt:α->α->I}(F :∀a b c,lt a b=true->lt b c=true->lt a c=true) :∀{l:O α},rN lt l=true↔l.Pairwise λa b=>lt a b=true
 | []=>by simp[rN]
 | [x]=>by simp[rN]
 | x::y::t=>by
  rw[Jv,X27,KR F (l:=y::t),Wu (a:=x)];constructor
  ·rintro⟨H,J⟩;refine⟨λz K=>?_,J⟩;rcases Wp.1 K with e|K
   ·rw[e];exact H
   exact F _ _ _ H ((Wu.1 J).1 z K)
  rintro⟨H,J⟩;exact⟨H y (by simp),J⟩
def lV {ok:α->I}{lt:α->α->I}{l:O α}{K:Unit->C ρ}{F:C ρ}{body:(Unit->C ρ)->α->Nat->Unit->C ρ}(V:l.length<=4611686018427387904) (H :∀next x,x∈l->body next x 0 ()=if ok x then next () else F) (P :∀next x y i,x∈l->y∈l->iX l (AQ (((i+1:Nat):Int)-1))=some y->body next x (i+1) ()=if ok x&&lt y x then next () else F) : AI K body l 0 ()=if l.all ok&&rN lt l then K () else F:=by
 have key :∀(t p:O α) (y:α),l=p++y::t->AI K body t (p.length+1) ()=if t.all ok&&rN lt (y::t) then K () else F:=by
  intro t;induction t with
  | nil=>intro p y _;rw[QN];rfl
  | cons x t U=>
   intro p y e;show body (λs=>AI K body t (p.length+1+1) s) x (p.length+1) ()=_;have Q:p.length<l.length:=by rw[e];simp
   rw[P _ x y p.length (by rw[e];simp) (by rw[e];simp) (by
    rw[AN (by omega),show ((p.length+1:Nat):Int)-1=(p.length:Int) by omega,e]
    exact F3 p y (x::t))]
   have:=U (p++[y]) x (by rw[e];simp);rw[X11,X22] at this;rw[this,Jv,Xd1];generalize rN lt (x::t)=J;generalize t.all ok=M;cases ok x<;>cases lt y x<;>cases J<;>cases M<;>rfl
 match l,H,P,key with
 | [],_,_,_=>rfl
 | x::t,H,_,key=>show body (λs=>AI K body t (0+1) s) x 0 ()=_;rw[H _ x (by simp)];have:=key t [] x rfl;rw[X13] at this;rw[this,Xd1];generalize rN lt (x::t)=J;generalize t.all ok=M;cases ok x<;>cases J<;>cases M<;>rfl
def pK {σ:Type}{g:σ->α->σ}{ok:α->I}{lt:α->α->I}{l:O α}{H:σ}{K:σ->C ρ}{F:C ρ}{body:(σ->C ρ)->α->Nat->σ->C ρ}(Y:l.length<=4611686018427387904) (J :∀next x s,x∈l->body next x 0 s=if ok x then next (g s x) else F) (Q :∀next x y i s,x∈l->y∈l->iX l (AQ (((i+1:Nat):Int)-1))=some y->body next x (i+1) s=if ok x&&lt y x then next (g s x) else F) : AI K body l 0 H=if l.all ok&&rN lt l then K (l.foldl g H) else F:=by
 have key :∀(t p:O α) (y:α) (s:σ),l=p++y::t->AI K body t (p.length+1) s=if t.all ok&&rN lt (y::t) then K (t.foldl g s) else F:=by
  intro t;induction t with
  | nil=>intro p y s _;rw[QN];rfl
  | cons x t V=>
   intro p y s e;show body (λs=>AI K body t (p.length+1+1) s) x (p.length+1) s=_;have U:p.length<l.length:=by rw[e];simp
   rw[Q _ x y p.length s (by rw[e];simp) (by rw[e];simp) (by
    rw[AN (by omega),show ((p.length+1:Nat):Int)-1=(p.length:Int) by omega,e]
    exact F3 p y (x::t))]
   have:=V (p++[y]) x (g s x) (by rw[e];simp);rw[X11,X22] at this;rw[this,Jv,Xd1,Xai];generalize rN lt (x::t)=M;generalize t.all ok=P;cases ok x<;>cases lt y x<;>cases M<;>cases P<;>rfl
 match l,J,Q,key with
 | [],_,_,_=>rfl
 | x::t,J,_,key=>show body (λs=>AI K body t (0+1) s) x 0 H=_;rw[J _ x H (by simp)];have:=key t [] x (g H x) rfl;rw[X13] at this;rw[this,Xd1,Xai];generalize rN lt (x::t)=M;generalize t.all ok=P;cases ok x<;>cases M<;>cases P<;>rfl
def ec {F:Type}{g:F->O α}{N:Nat}{body:(O α->C ρ)->F->Nat->O α->C ρ}{K:O α->C ρ} :∀{l:O F} {i:Nat} {v:O α},v.length+(l.flatMap g).length<=N-> (∀next x i v,x∈l->v.length+(g x).length<=N->body next x i v=next (v++g x))->AI K body l i v=K (v++l.flatMap g)
 | [],i,v,_,_=>by rw[List.flatMap_nil,Xag];rfl
 | x::t,i,v,h,H=>by rw[Xac,X11] at h;show body (λs=>AI K body t (i+1) s) x i v=_;rw[H _ x i v (by simp) (by omega),ec (l:=t) (by rw[X11];omega) λnext y j w J M=>H next y j w (X19 _ J) M,Xac,Xau]
end
end Go.AX
end
section
namespace Go.AX.Q29
open Go Go.AX
def jo (a b:Int):sg a b=some (Zo a b):=by unfold sg cmp_isNaN_int Zo;simp only[AA,Xca,Bool.false_eq_true,Xd0,Xe,gt_iff_lt];split<;>(try split)<;>rfl
def mS (l:O Int):GX l=some (vi l):=by
 unfold GX;rw[AB];have key :∀(l:O Int) (i:Nat),AI (σ:=Unit) (λ_=>some (0:Int)) (λnext x _ _=>if (x !=0)=true then some x else next ()) l i ()=some (vi l):=by
  intro l;induction l with
  | nil=>intro i;rfl
  | cons x t F=>intro i;show (if (x !=0)=true then some x else AI _ _ t (i+1) ())=_;rw[F];rw[Wn];by_cases h:x=0<;>simp[h]
 exact key l 0
def jR (c:r8):O Int:=[c.A,c.B]
def jN (c:n8):O Int:=[c.A,c.B,c.C]
def fB (a b:r8):(jR a).length=(jR b).length:=rfl
def dK (a b:n8):(jN a).length=(jN b).length:=rfl
def XU:r8->r8->I:=tR jR
def X0:n8->n8->I:=tR jN
def jw (a b c:r8)(F:XU a b=true)(H:XU b c=true):XU a c=true:=Qj fB a b c F H
def iq (a b c:n8)(F:X0 a b=true)(H:X0 b c=true):X0 a c=true:=Qj dK a b c F H
def rC (a b:r8):r8.rO a b=true↔a=b:=by
 unfold r8.rO;simp only[X27,Xd3,Xbi];constructor
 ·rintro⟨F,H⟩;cases a;cases b;simp_all
 rintro rfl;exact⟨rfl,rfl⟩
def qu (a b:n8):n8.rO a b=true↔a=b:=by
 unfold n8.rO;simp only[X27,Xd3,Xbi];constructor
 ·rintro⟨F,H,J⟩;cases a;cases b;simp_all
 rintro rfl;exact⟨rfl,rfl,rfl⟩
def cH (a b:r8):E2 a b=some (XU a b):=by unfold E2 XU tR jR;rw[AB];simp only[DL,Xe,Xbi,Xcr,Xdg];by_cases F:a.A < b.A<;>by_cases a2:a.A=b.A<;>by_cases a3:b.A < a.A<;>by_cases b1:a.B < b.B<;>by_cases b3:b.B < a.B<;>first|(exfalso;omega)|simp[F,a2,a3,b1,b3]
def er (a b:n8):B5 a b=some (X0 a b):=by unfold B5 X0 tR jN;simp only[AB];simp only[DL,Xe,Xbi,Xcr,Xdg];by_cases F:a.A < b.A<;>by_cases a2:a.A=b.A<;>by_cases a3:b.A < a.A<;>by_cases b1:a.B < b.B<;>by_cases b2:a.B=b.B<;>by_cases b3:b.B < a.B<;>by_cases H:a.C < b.C<;>by_cases J:b.C < a.C<;>first|(exfalso;omega)|simp[F,a2,a3,b1,b2,b3,H,J]
def wH (m x:Int):I:=decide (0<=x)&&decide (x<=m)
def uM (c:r8):I:=wH 65535 c.A&&wH 65535 c.B
def xX (c:n8):I:=wH 4294967295 c.A&&(wH 4294967295 c.B&&wH 4294967295 c.C)
def Zj (c:r8):EE c=some (uM c):=by unfold EE uM wH;rw[AB];simp only[Xe,Xcr,ge_iff_le];by_cases F:0<=c.A<;>by_cases a2:c.A<=65535<;>by_cases a3:0<=c.B<;>by_cases a4:c.B<=65535<;>simp[F,a2,a3,a4]
def aX (c:n8):Bo c=some (xX c):=by unfold Bo xX wH;rw[AB];simp only[Xe,Xcr,ge_iff_le];by_cases F:0<=c.A<;>by_cases a2:c.A<=4294967295<;>by_cases a3:0<=c.B<;>by_cases a4:c.B<=4294967295<;>by_cases a5:0<=c.C<;>by_cases H:c.C<=4294967295<;>simp[F,a2,a3,a4,a5,H]
def mx (a b:Int):Int:=if b>a then b else a
def IG (l:O r8):I:=l.all uM&&rN XU l&&decide (l.length<=64)
def II (l:O n8):I:=l.all xX&&rN X0 l&&decide (l.length<=64)
def nL {α:Type}{ok:α->I}{lt:α->α->I}{l:O α}(U:l.length<=1000000000){body:(Unit->C I)->α->Nat->Unit->C I} (h :∀next x i,body next x i ()=AC (τ:=I) (λH=>Xd (some (ok x)) λJ=>if (!J)=true then H true else if (decide ((i:Int)>0))=true then Xd (iX l (AQ ((i:Int)-1))) λK=>Xd (some (lt K x)) λM=>H (cond false true (cond true (!M) false)) else H false) λP=>if P=true then some false else next ()) :
  (AC (τ:=Unit) (λQ=>AI (σ:=Unit) (λ_=>Q ()) body l 0 ()) λ_=>some (decide ((l.length:Int)<=64)))=some (l.all ok&&rN lt l&&decide (l.length<=64)):=by
 rw[AB,lV (ok:=ok) (lt:=lt) (F:=some false) (by omega)]
 ·have e:decide ((l.length:Int)<=64)=decide (l.length<=64):=by rw[X28];simp;omega
  rw[e];generalize (l.all ok&&rN lt l)=b;cases b<;>rfl
 ·intro next x _
  rw[h,AB,AA];cases ok x<;>rfl
 intro next x y i _ _ hg
 rw[h,AB,AA,hg,AA,AA,Xy (show decide (((i+1:Nat):Int)>0)=true by simp)];cases ok x<;>cases lt y x<;>rfl
def PV {l:O r8}(F:l.length<=1000000000):Dj l=some (IG l):=by unfold Dj IG;exact nL F λnext x i=>by simp only[Zj,cH]
def Ks {l:O n8}(F:l.length<=1000000000):BQ l=some (II l):=by unfold BQ II;exact nL F λnext x i=>by simp only[aX,er]
def HZ {l:O r8}:IG l=true↔(∀c∈l,uM c=true)/\(l.Pairwise λa b=>XU a b=true)/\l.length<=64:=by unfold IG;rw[X27,X27,KR jw,Wo,Xe,Xdn]
def HU {l:O n8}:II l=true↔(∀c∈l,xX c=true)/\(l.Pairwise λa b=>X0 a b=true)/\l.length<=64:=by unfold II;rw[X27,X27,KR iq,Wo,Xe,Xdn]
def ki {α:Type}{e:α->α->I}{x:α} :∀(l:O α) (i:Nat),AI (σ:=Unit) (λ_=>some false) (λ(next:Unit->C I) (y:α) _ _=>if e y x=true then some true else next ()) l i ()=some (l.any λy=>e y x)
 | [],_=>rfl
 | y::t,i=>by show (if e y x=true then some true else AI _ _ t (i+1) ())=_;rw[ki t (i+1),List.any_cons];cases e y x<;>rfl
def TQ (l:O r8)(c:r8):EY l c=some (l.any λy=>r8.rO y c):=by unfold EY;rw[AB];exact ki l 0
def WC {α:Type}{l:O α}{n:Nat}(h:n<=l.length):part l 0 (n:Int)=some (l.take n):=by have:=Hu (l:=l) (a:=0) (b:=n) (by omega) h;simpa using this
def P3 {α:Type}{l:O α}{n:Nat}(h:n<=l.length):part l (n:Int) (l.length:Int)=some (l.drop n):=by rw[Hu h (Xa8 _),List.take_of_length_le (by simp)]
def dz {α:Type}{b:Nat}{lt:α->α->I}{l:O α}{x:α}(H:Xdi b 65536=true)(U:l.length+1<=1000000000){ρ:Type}{K:O α->C ρ} : (Xd (part l 0 ((l.takeWhile (lt · x)).length:Int)) λF=>Xd (gE (α:=α) b [] F) λ_=>Xd (gE (α:=α) b F ([x]:O α)) λJ=>Xd (part l ((l.takeWhile (lt · x)).length:Int) (l.length:Int)) λM=>Xd (gE (α:=α) b J M) K)=K (KJ lt l x):=by have V:=CN (lt · x) l;obtain⟨P,Q⟩:=sD (lt · x) l;rw[WC (by omega),AA,AD H (by simp;omega),AA,AD H (by simp;omega),AA,P3 (by omega),AA,AD H (by simp;omega),AA,P,Q];unfold KJ;simp
end Go.AX.Q29
end
section
end
section
namespace Go.AX.Q29
open Go Go.AX
section
variable {ρ:Type} {F:C ρ} {next:Int×I×j×j×Int×Int×Int×(O oF)×(O r8)×(O n8)->C ρ} {x:kI} {a:gH}
end
end Go.AX.Q29
end
section
namespace Go.AX.Q29
open Go Go.AX
def Bt (n:Int):I:=decide (1<=n)&&decide (n<=4294967295)
def KF (s:oF):I:=decide (s.n7.length≠0)&&(s.n7.all Bt&&rN (λa b=>!s.Set || tF a b) s.n7)
def xo (a b:oF):I:=b.Set || a.Set
def tg (p:O oF):Nat:=p.foldl (λn s=>n+s.n7.length) 0
def cI (p:O oF)(n:Nat):p.foldl (λn s=>n+s.n7.length) n=n+tg p:=by
 unfold tg;induction p generalizing n with
 | nil=>rfl
 | cons s t H=>rw[Xai,Xai,H,H (0+_)];omega
def ED (s:oF)(p:O oF):tg (s::p)=s.n7.length+tg p:=by
 conv=>lhs;unfold tg
 rw[Xai,cI];omega
def TL {p:O oF}{s:oF}(h:s∈p):s.n7.length<=tg p:=by
 induction p with
 | nil=>simp at h
 | cons x t H=>
  rw[ED];rcases Wp.1 h with rfl|h
  ·omega
  have:=H h;omega
def DW (p:O oF):I:=p.all KF&&rN xo p&&decide (tg p<=64)
def Yi :∀(p:O oF) (n:Nat),n+tg p<=1000000000->p.foldl (λ(v:Int) s=>AQ (v+(s.n7.length:Int))) (n:Int)=((n+tg p:Nat):Int)
 | [],n,_=>rfl
 | s::t,n,h=>by rw[ED] at h;rw[Xai,ED,AN (by omega),show (n:Int)+(s.n7.length:Int)=((n+s.n7.length:Nat):Int) by omega,Yi t _ (by omega)];congr 1;omega
def aM {s:oF}(Q:s.n7.length<=1000000000){K:Unit->C I}{body:(Unit->C I)->Int->Nat->Unit->C I} (P :∀next x i,body next x i ()=AC (τ:=I) (λH=>if (!Bt x)=true then H true else if s.Set=true then if (cond true (decide ((i:Int)>0)) false)=true then Xd (iX s.n7 (AQ ((i:Int)-1))) λJ=>H (cond false true (cond true (decide (J≥x)) false)) else H false else H false) λM=>if M=true then some false else next ()) :
  AI K body s.n7 0 ()=if s.n7.all Bt&&rN (λa b=>!s.Set || tF a b) s.n7 then K () else some false:=by
 refine lV (by omega) (λnext x _=>?_) λnext x y i _ _ hg=>?_
 ·rw[P,AB];cases Bt x<;>cases s.Set<;>rfl
 rw[P,AB,hg,AA];have e:decide (((i+1:Nat):Int)>0)=true:=by simp
 have e2:decide (y≥x)=!tF y x:=by unfold tF;rw[X28];simp
 rw[e,e2];cases Bt x<;>cases s.Set<;>cases tF y x<;>rfl
def aC {p:O oF}(hl:p.length<=1000000000)(ht:tg p<=1000000000){body:(Int->C I)->oF->Nat->Int->C I}{H:oF->(Unit->C I)->Int->Nat->Unit->C I} (hb :∀next x i v,body next x i v=AC (τ:=Unit) (λk6=>AC (τ:=I) (λU=>if ((x.n7.length:Int)==0)=true then U true else if (decide ((i:Int)>0))=true then if (cond true (!x.Set) false)=true then Xd (iX p (AQ ((i:Int)-1))) λv8=>U (cond false true (cond true (!v8.Set) false)) else U false else U false) λv9=>if v9=true then some false else AC (τ:=Unit) (λV=>AI (σ:=Unit) (λ_=>V ()) (H x) x.n7 0 ()) λ_=>k6 ()) λ_=>next (AQ (v+(x.n7.length:Int))))
  (hi :∀s next x i,H s next x i ()=AC (τ:=I) (λJ=>if (!Bt x)=true then J true else if s.Set=true then if (cond true (decide ((i:Int)>0)) false)=true then Xd (iX s.n7 (AQ ((i:Int)-1))) λY=>J (cond false true (cond true (decide (Y≥x)) false)) else J false else J false) λZ=>if Z=true then some false else next ()) :
  (AC (τ:=Int) (λk1=>AI (σ:=Int) (λv=>k1 v) body p 0 0) λv=>some (decide (v<=64)))=some (DW p):=by
 rw[AB];have Q :∀s∈p,∀K:Unit->C I,AI K (H s) s.n7 0 ()=if s.n7.all Bt&&rN (λa b=>!s.Set || tF a b) s.n7 then K () else some false:=λs P K=>aM (by have:=TL P;omega) (hi s);refine (pK (g:=λ(v:Int) s=>AQ (v+(s.n7.length:Int))) (ok:=KF) (lt:=xo) (F:=some false) (by omega) (λnext x v hx=>?_) λnext x y i v hx _ hg=>?_).trans ?_
 ·rw[hb,AB,AB];unfold KF;by_cases M:x.n7.length=0
  ·have e:((x.n7.length:Int)==0)=true:=by simp[M]
   rw[Xy e];simp[M]
  have e:¬ ((x.n7.length:Int)==0)=true:=by simpa using M
  rw[Xj e,Xj (by simp)];show (if false=true then _ else _)=_;rw[Xj (by decide),AB,Q x hx];simp only[M,ne_eq,Xdf,decide_true,Xc6]
 ·rw[hb,AB,AB,hg];unfold KF xo;by_cases M:x.n7.length=0
  ·have e:((x.n7.length:Int)==0)=true:=by simp[M]
   rw[Xy e];simp[M]
  have e:¬ ((x.n7.length:Int)==0)=true:=by simpa using M
  have e2:decide (((i+1:Nat):Int)>0)=true:=by simp
  rw[Xj e,Xy e2,AA,AB,Q x hx];simp only[M,ne_eq,Xdf,decide_true,Xc6];generalize (x.n7.all Bt&&rN (λa b=>!x.Set || tF a b) x.n7)=c;cases x.Set<;>cases y.Set<;>cases c<;>rfl
 have P:=Yi p 0 (by omega);rw[Xan] at P;have P:p.foldl (λ(v:Int) s=>AQ (v+(s.n7.length:Int))) 0=(tg p:Int):=P;rw[P];unfold DW;have e:decide ((tg p:Int)<=64)=decide (tg p<=64):=by rw[X28];simp;omega
 simp only[e];generalize (p.all KF&&rN xo p)=c;cases c<;>rfl
def HV {p:O oF}(H:p.length<=1000000000)(J:tg p<=1000000000):CH p=some (DW p):=by
 unfold CH;refine aC H J (λnext x i v=>rfl) λs next x i=>?_
 have e:(!Bt x)=(decide (x < 1) || decide (x>4294967295)):=by unfold Bt;rw[X28];simp<;>omega
 rw[AB,AB,e];cases decide (x < 1)<;>cases decide (x>4294967295)<;>rfl
section
variable {ρ:Type} {F:C ρ} {next:Int×I×j×j×Int×Int×Int×(O oF)×(O r8)×(O n8)->C ρ} {x:kI} {a:gH}
end
end Go.AX.Q29
end
section
namespace Go.AX.Q29
open Go Go.AX
section
variable {ρ:Type} {F:C ρ} {next:Int×(O oF)×I×j×j×Int×Int×Int×(O r8)×(O n8)->C ρ} {x:kI} {a:gH}
end
end Go.AX.Q29
end
section
namespace Go.AX.Q29
open Go Go.AX
def pQ (l:O kI):Prop:=l.Pairwise λa b=>a.oA≠b.oA
def conv (x:kI):kI:=⟨224,x.oA,x.Data⟩
def VQ (x:kI):O Int:=[x.oA]
def aF {α:Type}{R:α->α->Prop}{c:I}{x:α}:(if c=true then [x] else []).Pairwise R:=by
 cases c
 ·exact .nil
 exact List.pairwise_singleton _ _
def eA:gH:=⟨(-1),[],(⟨false,(0:j),(0:j)⟩:Addr),(-1),(-1),(-1),[],[],[]⟩
def PW {α F:Type}{g:α->O F}(hg :∀x,(g x).length<=1) :∀l:O α,(l.flatMap g).length<=l.length
 | []=>by simp
 | x::t=>by rw[Xac,X11,X12];have:=PW hg t;have:=hg x;omega
def sizeOf (b:O S)(h:Nat):Nat:=val ((b.drop 2).take (h-2))
def nQ (b:O S):C (O S×O S):=match b with
 | x::y::t=>if t.length<x.toNat*256+y.toNat then none else some (t.take (x.toNat*256+y.toNat),t.drop (x.toNat*256+y.toNat))
 | _=>none
def wE:Addr:=⟨false,(0:j),(0:j)⟩
def R7 (b:O S):O S×O S×I:=match nQ b with
 | none=>([],[],false)
 | some (p,r)=>(p,r,true)
def IL (a:Addr):GL a=some a.ok:=by unfold GL Addr.ok;rw[AB];generalize ((a.Hi.toNat:Int)==0)=x;generalize decide ((a.Lo.toNat:Int)<4294967296)=y;generalize a.V6=z;cases z<;>cases x<;>rfl
def Ox (a:Addr):BO a=some (a.w:Int):=by unfold BO Addr.w;split<;>rfl
def Be {α σ ρ:Type}{K:σ->C ρ}{b:(σ->C ρ)->α->Nat->σ->C ρ}{x:α}{t:O α}{i:Nat}{s:σ}:AI K b (x::t) i s=b (λs=>AI K b t (i+1) s) x i s:=rfl
def Ve {α σ ρ:Type}{K:σ->C ρ}{b:(σ->C ρ)->α->Nat->σ->C ρ}{i:Nat}{s:σ}:AI K b [] i s=K s:=rfl
def pD {α:Type}(l:O α):((l.length:Int)==0)=true↔l=[]:=by rw[Xbi,Int.natCast_eq_zero,List.length_eq_zero_iff]
def wr (x:kI)(n:Int):I:=decide (n>0)&&(bt x.Flags 192 !=128)
def okO (x:kI):I:=decide (1<=x.oA/\x.oA<=255)&&(vp x.oA&&(decide (x.Flags=224)&&decide (x.Data.length<=255)))
def tX (a b:kI):I:=decide (a.oA<b.oA)
def EB (l:O kI):I:=l.all okO&&rN tX l
def Eh (a:gH):I:=EB a.lf&&(decide (-1<=a.gS/\a.gS<=2)&&(DW a.Path&&(a.Next.ok&&(decide (-1<=a.sd/\a.sd<=4294967295)&&(decide (-1<=a.rh/\a.rh<=4294967295)&&((decide (a.rX=-1) || Bt a.rX)&&(IG a.fT&&(II a.n8&&decide (a.lf.length<=8)))))))))
def lT (a b c:kI)(F:tX a b=true)(H:tX b c=true):tX a c=true:=by simp only[tX,Xe] at *;omega
structure vb (a:gH):Prop where
 p:a.Path.length<=1000000
 t:tg a.Path<=1000000
 c:a.fT.length<=1000000
 l:a.n8.length<=1000000
 o:a.lf.length<=1000000
 d :∀u∈a.lf,u.Data.length<=1000000
end Go.AX.Q29
end
