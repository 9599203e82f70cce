/-
  Texts of one proof, packed.
-/
import Derived.Test.YtppcmaidcgimpaaGreatDoorS17
import Derived.Test.YtppcmaidcgimpaaGreatDoorS18
import Derived.KernelRfl
set_option linter.all false
set_option maxRecDepth 100000
set_option maxHeartbeats 4000000
open List renaming length_map→X6,length_append→X10,length_cons→X11,length_nil→X12,getElem?_eq_getElem→X14,getElem?_eq_some_iff→X15,length_drop→X16,length_take→X17,mem_cons_of_mem→X18,length_replicate→X19,length_set→X20,length_singleton→X21
open Option.some renaming inj→X24
open Bool renaming and_eq_true→X26,eq_iff_iff→X27
open Nat renaming add_mul→X31
open Option renaming bind→Xg
open Int renaming toNat→Xi,fdiv→Xay
open List renaming cons→Xt,toArray→Xcf,nil→Xdr
open BitVec renaming ofInt→Xq
open Nat renaming ble→Xdl
open ByteArray renaming mk→Xce
open UInt64 renaming ofNat→Xah
open UInt8 renaming ofNat→Xd1
section
namespace Go.AX.Q25
open Go Go.AX
def fl (t:Int):Int:=if t=1 then 64 else if t=2 then 64 else if t=3 then 64 else if t=4 then 128 else if t=5 then 64 else if t=8 then 192 else if t=32 then 192 else if t=35 then 192 else 0
def tc (t:Int):C:=decide (fl t=0)&&(decide (t≠14)&&decide (t≠15))
def jd (t:Int):(BA HS t).getD 0=fl t:=by
 unfold HS fl;simp only[BA,Xc0];repeat' (split;· rfl)
 rfl
def Nu (t:Int):(t=1/\fl t=64)\/(t=2/\fl t=64)\/(t=3/\fl t=64)\/(t=4/\fl t=128)\/(t=5/\fl t=64)\/(t=8/\fl t=192)\/(t=32/\fl t=192)\/(t=35/\fl t=192) \/ (t≠1/\t≠2/\t≠3/\t≠4/\t≠5/\t≠8/\t≠32/\t≠35/\fl t=0):=by unfold fl;by_cases h1:t=1<;>by_cases F:t=2<;>by_cases H:t=3<;>by_cases J:t=4<;>by_cases K:t=5<;>by_cases M:t=8<;>by_cases P:t=32<;>by_cases Q:t=35<;>first|(exfalso;omega)|simp[h1,F,H,J,K,M,P,Q]
def KX (t:Int):BQ t=some (fl t):=by
 unfold BQ;simp only[AC,Xc0];rcases Nu t with ⟨h,e⟩|⟨h,e⟩|⟨h,e⟩|⟨h,e⟩|⟨h,e⟩|⟨h,e⟩|⟨h,e⟩|⟨h,e⟩|⟨F,H,J,K,M,P,Q,U,e⟩<;>rw[e];iterate 8 (subst h;rfl)
 simp[F,H,J,K,M,P,Q,U]
def fA (t:Int)(k:C->O C):(if (fl t==0)=true then if (cond true (t !=14) false)=true then k (cond true (t !=15) false) else k false else k false)=k (tc t):=by have e1:(t !=14)=!decide (t=14):=rfl;have e2:(t !=15)=!decide (t=15):=rfl;unfold tc;rw[e1,e2];by_cases h1:fl t=0<;>by_cases F:t=14<;>by_cases H:t=15<;>simp[h1,F,H]
def HA (t:Int):Da t=some (tc t):=by unfold Da;rw[AC,jd,AA];exact fA t some
def I6 (t:Int):Cb t=some (tc t):=by unfold Cb;rw[AC,KX,AA];exact fA t some
def Hh (a b c:Int):BL a b c=some (decide (b<=a)&&decide (a<=c)):=by
 unfold BL;rw[AC];by_cases h:b<=a
 ·rw[Xl (by simpa using h),Xn h];rfl
 rw[Xk (by simpa using h),Wd h];rfl
def sv (a:Int):CZ a=some (decide (1<=a)&&decide (a<=4294967295)):=by
 unfold CZ;rw[AC];by_cases h:1<=a
 ·rw[Xl (by simpa using h),Xn h];rfl
 rw[Xk (by simpa using h),Wd h];rfl
def bt (x m:Int):Int:=AQ ((Xq 64 x &&& Xq 64 m).toNat:Int)
def gK {α σ ρ:Type}{K:σ->O ρ}{g:σ->α->σ} :∀(l:I α) (i:Nat) (s:σ),AH K (λnext x _ s=>next (g s x)) l i s=K (l.foldl g s)
 | [],_,_=>rfl
 | x::t,i,s=>gK t (i+1) (g s x)
def val (l:I S):Nat:=l.foldl (λm x=>m*256+x.toNat) 0
def V2 (l:I S)(x:S):val (l++[x])=val l*256+x.toNat:=by simp[val]
instance (F:Addr):Tt (By F):=by unfold By;exact Tt.rp
instance (F:Addr):Tt (CH F):=by unfold CH;exact Tt.rp
instance (F:I S):Tt (Bf F):=by unfold Bf;exact Tt.rp
instance (F:Int):Tt (BQ F):=by unfold BQ;exact Tt.rp
instance (F:Int):Tt (Cb F):=by unfold Cb;exact Tt.rp
instance (F:oF):Tt (EU F):=by unfold EU;exact Tt.rp
instance (F:oF) (H:oF):Tt (FH F H):=by unfold FH;exact Tt.rp
instance (F:ls):Tt (B5 F):=by unfold B5;exact Tt.rp
instance (F:ls) (H:ls):Tt (CO F H):=by unfold CO;exact Tt.rp
instance (F:I oF) (H:oF):Tt (GY F H):=by unfold GY;exact Tt.rp
instance:Tt (DU):=by unfold DU;exact Tt.rp
instance (F:I oF) (H:I oF):Tt (IQ F H):=by unfold IQ;exact Tt.rp
instance (F:I ls) (H:I ls):Tt (EE F H):=by unfold EE;exact Tt.rp
instance (F:I gF) (H:I gF):Tt (Ea F H):=by unfold Ea;exact Tt.rp
instance (F:Addr):Tt (BG F):=by unfold BG;exact Tt.rp
instance (F:Int):Tt (Ew F):=by unfold Ew;exact Tt.rp
instance (F:Addr) (H:Int):Tt (Di F H):=by unfold Di;exact Tt.rp
def YD {a k:Nat}(J:a<2^64)(K:k<=64):(Xq 64 (a:Int) &&& ~~~Xq 64 ((2^k-1:Nat):Int)).toNat=a/2^k*2^k:=by
 apply Nat.eq_of_testBit_eq;intro i;rw[Xd4,Xd4,BitVec.testBit_toNat];simp only[BitVec.getLsbD_and,BitVec.getLsbD_not,BitVec.getLsbD_ofNat,Nat.testBit_mul_two_pow,Nat.testBit_div_two_pow,Nat.testBit_two_pow_sub_one];by_cases H:i<64
 ·by_cases F:k<=i
  ·simp[H,F,Nat.not_lt.2 F]
  simp[H,F,Xax F]
 have:a.testBit i=false:=Nat.testBit_lt_two_pow (Xaj J (Nat.pow_le_pow_right (by omega) (by omega)));by_cases F:k<=i
 ·simp[H,F,this]
 omega
def DN (n:Nat):AY (n:Int)=Xah n:=by unfold AY;apply Xd3.1;simp only[Xag];omega
def Addr.n (a:Addr):Nat:=a.Hi.toNat*2^64+a.Lo.toNat
def Addr.w (a:Addr):Nat:=if a.V6 then 128 else 32
def Addr.ok (a:Addr):C:=cond a.V6 true (cond ((a.Hi.toNat:Int)==0) (decide ((a.Lo.toNat:Int)<4294967296)) false)
def tq (F:C)(n:Nat):Addr:=⟨F,Xah (n/2^64),Xah n⟩
def Addr.cut (a:Addr)(n:Nat):Addr:=tq a.V6 (a.n/2^(a.w-n)*2^(a.w-n))
def iI (b:C)(m:Nat):(tq b m).V6=b:=by unfold tq;rfl
def lK (a:Addr)(n:Nat):(a.cut n).V6=a.V6:=iI _ _
def o4 (h l k:Nat)(F:l<2^64)(H:k<=64):(h*2^64+l)/2^k*2^k=h*2^64+l/2^k*2^k:=by
 have:(2:Nat)^64=2^(64-k)*2^k:=by rw[<- Nat.pow_add];congr 1;omega
 rw[this,<- Nat.mul_assoc,Xci,Nat.add_mul_div_right _ _ (Xdd k),X31,Xci]
def lG:AY (((0:Nat):Int)-1)=Xah 18446744073709551615:=by unfold AY;congr 1
def mY {k:Nat}(J:k<64):AY (((Xah (2^k)).toNat:Int)-1)=Xah (2^k-1):=by
  have K:(2:Nat)^k<2^64:=Nat.pow_lt_pow_right (by omega) (by omega);have M:0<(2:Nat)^k:=Xdd k;have F:(Xah (2^k)).toNat=2^k:=by simp only[Xag];omega
  rw[F];have H:((2^k:Nat):Int)-1=((2^k-1:Nat):Int):=by omega
  rw[H,DN]
def mD:AY (((Xah (2^64)).toNat:Int)-1)=Xah (2^64-1):=by
  have F:(Xah (2^64)).toNat=0:=by simp only[Xag,Nat.mod_self]
  rw[F];exact lG
def mN {k:Nat}(F:k<=64):AY (1*(2^(min (Xi ((AY (k:Int)).toNat:Int)) 64)))=Xah (2^k):=by
 rw[DN];have H:(Xah k).toNat=k:=by simp;omega
 rw[H,Xa3,Xda F,Int.one_mul];have J:((2:Int)^k)=((2^k:Nat):Int):=by simp
 rw[J,DN]
def V8 {k:Nat}(F:k<=64):AY (((AY (1*(2^(min (Xi ((AY (k:Int)).toNat:Int)) 64)))).toNat:Int)-1)=Xah (2^k-1):=by
 rw[mN F];rcases Nat.lt_or_eq_of_le F with h|h
 ·exact mY h
 rw[h];exact mD
def NS {x:j}{k:Nat}(F:k<=64):AY ((Xq 64 (x.toNat:Int) &&& ~~~Xq 64 ((Xah (2^k-1)).toNat:Int)).toNat:Int)=Xah (x.toNat/2^k*2^k):=by
 have h:(Xah (2^k-1)).toNat=2^k-1:=by have:(2:Nat)^k<=2^64:=Nat.pow_le_pow_right (by omega) F;have H:0<(2:Nat)^k:=Xdd k;simp only[Xag];omega
 rw[h,YD x.toNat_lt F,DN]
def HM (a:Addr){n:Nat}(hn:n<=a.w):Di a (n:Int)=some (a.cut n):=by
 have Q:BG a=some (a.w:Int):=by unfold BG Addr.w;split<;>rfl
 have J:AQ ((a.w:Int)-(n:Int))=((a.w-n:Nat):Int):=by
  have:a.w<=128:=by unfold Addr.w;split<;>omega
  rw[AM (by omega)];omega
 have H:=a.Lo.toNat_lt;have U:=a.Hi.toNat_lt;unfold Di;rw[Q,AA,J];have K:a.w-n<=128:=by unfold Addr.w;split<;>omega
 generalize hk:a.w-n=k at *;unfold Ew;by_cases V:k>64
 ·rw[Xl (by simp;omega),AA];have e:AQ ((k:Int)-64)=((k-64:Nat):Int):=by rw[AM (by omega)];omega
  rw[e,V8 (by omega)];simp only[NS (show k-64<=64 by omega)];have M:(18446744073709551615:j)=Xah (2^64-1):=rfl;rw[M,NS (Xa2 64)];have P:a.Lo.toNat/2^64=0:=Nat.div_eq_of_lt H;unfold Addr.cut tq Addr.n;rw[hk];have F:(2:Nat)^k=2^64*2^(k-64):=by rw[<- Nat.pow_add];congr 1;omega
  have Y:(a.Hi.toNat*2^64+a.Lo.toNat)/2^k=a.Hi.toNat/2^(k-64):=by rw[F,<- Nat.div_div_eq_div_mul,Xci,Nat.add_mul_div_right _ _ (Xdd 64),P,Xaa]
  rw[Y];have Z:a.Hi.toNat/2^(k-64)*2^k=a.Hi.toNat/2^(k-64)*2^(k-64)*2^64:=by rw[F,Xbe (2^64),Nat.mul_assoc]
  rw[Z,Nat.mul_div_cancel _ (Xdd 64),P];have e0:Xah (a.Hi.toNat/2^(k-64)*2^(k-64)*2^64)=Xah 0:=by apply Xd3.1;simp only[Xag,Nat.mul_mod_left,Nat.zero_mod]
  rw[e0,Xdg]
 rw[Xk (by simp;omega),AA,V8 (by omega)];simp only[NS (show k<=64 by omega)];have M:(0:j)=Xah (2^0-1):=rfl;rw[M,NS (Xco 64)];unfold Addr.cut tq Addr.n;rw[hk,o4 _ _ _ H (by omega)];have a1:a.Lo.toNat/2^k*2^k<2^64:=Nat.lt_of_le_of_lt (Nat.div_mul_le_self _ _) H;have e1:Xah (a.Hi.toNat/2^0*2^0)=Xah ((a.Hi.toNat*2^64+a.Lo.toNat/2^k*2^k)/2^64):=by congr 1;omega
 have e2:Xah (a.Lo.toNat/2^k*2^k)=Xah (a.Hi.toNat*2^64+a.Lo.toNat/2^k*2^k):=by apply Xd3.1;simp only[Xag];omega
 rw[e1,e2]
def OF (n:Nat):Az (n:Int)=Xd1 n:=by unfold Az;apply UInt8.toNat_inj.1;simp only[Xcx];omega
def Addr.L (a:Addr):Nat:=if a.V6 then 16 else 4
def UO (a:Addr)(k:Nat):S:=Xd1 (a.n/2^(8*k))
def Dx (a:Addr):By a=some a.ok:=by unfold By Addr.ok;rw[AC];generalize ((a.Hi.toNat:Int)==0)=x;generalize decide ((a.Lo.toNat:Int)<4294967296)=y;generalize a.V6=z;cases z<;>cases x<;>rfl
def YM {w:j}{k:Nat}(M:k<8) : Az ((AY (Xay (w.toNat:Int) (2^(min (Xi ((AY (8*((AY (k:Int)).toNat:Int))).toNat:Int)) 64)))).toNat:Int)=Xd1 (w.toNat/2^(8*k)):=by
 have F:(AY (k:Int)).toNat=k:=by rw[DN];simp;omega
 have H:(AY (8*((AY (k:Int)).toNat:Int))).toNat=8*k:=by
  rw[F];have:(8*(k:Int))=((8*k:Nat):Int):=by omega
  rw[this,DN];simp;omega
 have J:Xay (w.toNat:Int) ((2:Int)^(8*k))=((w.toNat/2^(8*k):Nat):Int):=by
  have:((2:Int)^(8*k))=((2^(8*k):Nat):Int):=by simp
  rw[this,Xc3 _ (Xcg _),Int.natCast_ediv]
 rw[H,Xa3,Xda (by omega),J,DN,OF];have:(Xah (w.toNat/2^(8*k))).toNat=w.toNat/2^(8*k):=by have K:w.toNat/2^(8*k)<2^64:=Nat.lt_of_le_of_lt (Nat.div_le_self _ _) w.toNat_lt;rw[Xag,Xbd K]
 rw[this]
def VZ {a b:Nat}(h:a%256=b%256):Xd1 a=Xd1 b:=by apply UInt8.toNat_inj.1;simp only[Xcx];exact h
def U8 {a:Addr}{k:Nat}(J:k<16)(K:a.ok=true)(M:a.V6=false->k<4) : Xd1 ((if k≥8 then a.Hi else a.Lo).toNat/2^(8*(k%8)))=UO a k:=by
 unfold UO Addr.n;have F:=a.Lo.toNat_lt;by_cases H:k≥8
 ·rw[Xl H];have e:8*k=64+8*(k%8):=by omega
  rw[e,Nat.pow_add,<- Nat.div_div_eq_div_mul,Xci (a.Hi.toNat*2^64),Nat.add_mul_div_right _ _ (Xdd 64),Nat.div_eq_of_lt F,Xaa]
 rw[Xk H];have e:k%8=k:=Xbd (by omega);rw[e];apply VZ;have e2:(2:Nat)^64=2^(8*k)*2^(64-8*k):=by rw[<- Nat.pow_add];congr 1;omega
 have e3:(2:Nat)^(64-8*k)=256*2^(56-8*k):=by have:(256:Nat)=2^8:=rfl;rw[this,<- Nat.pow_add];congr 1;omega
 have e4:a.Hi.toNat*2^64=a.Hi.toNat*2^(56-8*k)*256*2^(8*k):=by rw[e2,e3,Nat.mul_assoc,Nat.mul_assoc];congr 1;rw[Xbe (2^(56-8*k)),Xbe (2^(8*k))];rw[Nat.mul_assoc,Xbe (2^(56-8*k)),Nat.mul_assoc]
 rw[e4,Xci,Nat.add_mul_div_right _ _ (Xdd _),Nat.add_mul_mod_self_right]
def LS {a:Addr}(U:a.ok=true):Ok (BV a) λl=>l.length=a.L/\∀j,j<a.L->l[j]?=some (UO a (a.L-1-j)):=by
 unfold BV;rw[Dx,AA,U];refine .ite (λh=>by simp at h) λ_=>?_;refine .join (λn:Int=>n=a.L) (λk K=>.ite (λh=>K _ (by unfold Addr.L;rw[Xl h];rfl)) λh=>K _ (by unfold Addr.L;rw[Xk h];rfl)) λn M=>?_;have hL:a.L=16\/a.L=4:=by unfold Addr.L;split<;>simp
 subst M;refine .join (λl:I S=>l.length=a.L/\∀j,j<a.L->l[j]?=some (UO a (a.L-1-j))) (λk K=>?_) λl Y=>.ret Y;refine .rB (λs:Int×I S=>-1<=s.1/\s.1=a.L-1-s.2.length/\∀j,j<s.2.length->s.2[j]?=some (UO a (a.L-1-j))) (λs=>(s.1+1).toNat) ?_ ?_ ?_
 ·rw[AM (by omega)];simp;omega
 ·rw[AM (by omega)];exact CB (by omega)
 rintro next ⟨p,l⟩ ⟨Z,P,Q⟩ M
 simp only at Z P Q;refine .ite (λh=>?_) λh=>K _ ⟨by simp at h;omega,λj V=>Q j (by simp at h;omega)⟩;simp only[Xh] at h;obtain⟨k,rfl⟩ :∃k:Nat,p=k:=⟨p.toNat,by omega⟩;refine .join (λw:UInt64=>w=if k≥8 then a.Hi else a.Lo) (λk' F=>.ite (λh=>F _ (by rw[Xl (by simp at h;omega)]) ) λh=>F _ (by rw[Xk (by simp at h;omega)])) λw hw=>?_;refine .bind (Ok.gH (by decide) (by simp;omega)) λl' H=>?_;have hb:k<16:=by omega
 have ht:Int.tmod (k:Int) 8=((k%8:Nat):Int):=by rw[Int.tmod_eq_emod_of_nonneg (by omega)];omega
 rw[ht,YM (Nat.mod_lt _ (by omega)),hw,U8 hb U (λh4=>by unfold Addr.L at P;simp[h4] at P;omega)] at H;subst H;rw[AM (by omega)];refine M _ ⟨by simp only;omega,by simp;omega,λj V=>?_⟩ (by simp only;omega);simp only[X10,X21] at V;by_cases J:j<l.length
 ·simp only;rw[Xa6 J];exact Q j J
 have:j=l.length:=by omega
 subst this;simp only[Xab (Xa2 _),Nat.sub_self,List.getElem?_cons_zero];congr 2;omega
def Zh {u v:Nat}(K:u<2^64)(M:v<256):AY ((Xq 64 ((AY ((u:Int)*(2^(min (Xi 8) 64)))).toNat:Int) ||| Xq 64 ((AY (v:Int)).toNat:Int)).toNat:Int)=Xah (u*256+v):=by
 have F:((u:Int)*(2^(min (Xi 8) 64)))=((u*256:Nat):Int):=by have:min (Xi 8) 64=8:=rfl;rw[this];omega
 rw[F,DN,DN,DN];have H:(Xah v).toNat=v:=by simp only[Xag];omega
 have J:(Xah (u*256)).toNat=2^8*(u%2^56):=by simp only[Xag];omega
 rw[H,J,Xd4,Xd4,BitVec.toNat_or,BitVec.toNat_ofNat,BitVec.toNat_ofNat,Xbd (show 2^8*(u%2^56)<2^64 by omega),Xbd (show v<2^64 by omega), ← Nat.two_pow_add_eq_or_of_lt (show v<2^8 by omega)];apply Xd3.1;simp only[Xag];omega
def M9 {l:I S}(Q:l.length=4\/l.length=16):Ok (Bf l) λr=>r=(tq (l.length==16) (val l%2^128),0):=by
 unfold Bf;refine .join (λb=>b=false) (λk F=>.ite (λh=>F _ ?_) λ_=>F _ rfl) λb U=>?_
 ·rcases Q with M|M<;>simp[M] at h⊢
 subst U;refine .ite (λh=>by simp at h) λ_=>?_;refine .join (λa=>a=tq (l.length==16) (val l%2^128)) (λk F=>?_) λa V=>.ret (by rw[V]);refine .sQ (λi s=>s=tq (l.length==16) (val (l.take i)%2^128)) ?_ (λs Y=>F _ (by rw[Y,Xcj])) ?_
 ·have:((l.length:Int)==16)=(l.length==16):=by rw[X27];simp only[Xc0];omega
  rw[this,List.take_zero];have e0:val []%2^128=0:=by simp[val]
  rw[e0];unfold tq;rfl
 rintro next x i s P rfl Z
 refine Z _ ?_;have a1:=(X15.1 P).1;have ht:l.take (i+1)=l.take i++[x]:=by rw[Xc1,P];rfl
 rw[ht,V2];generalize val (l.take i)=m;have H:=x.toNat_lt;have J:(tq (l.length==16) (m%2^128)).Lo.toNat=m%2^64:=by unfold tq;simp only[Xag];omega
 have K:(tq (l.length==16) (m%2^128)).Hi.toNat=m/2^64%2^64:=by unfold tq;simp only[Xag];omega
 have h1:=Zh (u:=m%2^64) (v:=x.toNat) (by omega) H;have h2:=Zh (u:=m/2^64%2^64) (v:=m%2^64/2^56) (by omega) (by omega);have h3:Xay ((m%2^64:Nat):Int) (2^(min (Xi 56) 64))=((m%2^64/2^56:Nat):Int):=by
  have:min (Xi 56) 64=56:=rfl;have e5:((2:Int)^56)=((2^56:Nat):Int):=by simp
  rw[this,e5,Xc3 _ (Xcg _),Int.natCast_ediv]
 rw[J,K,h3,h1,h2,iI];unfold tq;have e1:Xah (m/2^64%2^64*256+m%2^64/2^56)=Xah ((m*256+x.toNat)%2^128/2^64):=by apply Xd3.1;simp only[Xag];omega
 have e2:Xah (m%2^64*256+x.toNat)=Xah ((m*256+x.toNat)%2^128):=by apply Xd3.1;simp only[Xag];omega
 rw[e1,e2]
def WF :∀(l:I S) (q:Nat),(val l).testBit q=if q<8*l.length then (l.getD (l.length-1-q/8) 0).toNat.testBit (q%8) else false:=by
 intro l;induction h:l.length generalizing l with
 | zero=>intro q;have:l=[]:=Xa7 h;subst this;simp[val]
 | succ n P=>
  intro q;obtain⟨F,x,rfl⟩ :∃F x,l=F++[x]:=by
   rcases List.eq_nil_or_concat l with H|⟨F,x,H⟩
   ·subst H;simp at h
   exact⟨F,x,by simpa using H⟩
  have J:F.length=n:=by simpa using h
  rw[V2,Xbe,show (256:Nat)=2^8 from rfl,Nat.testBit_two_pow_mul_add _ (show x.toNat<2^8 from x.toNat_lt)];by_cases K:q<8
  ·rw[Xl K,Xl (by omega)];have e1:n+1-1-q/8=F.length:=by omega
   rw[e1,Xbd K];simp[Xo]
  rw[Xk K,P F J];by_cases M:q-8<8*n
  ·rw[Xl M,Xl (by omega)];have e1:n-1-(q-8)/8=n+1-1-q/8:=by omega
   have e2:(q-8)%8=q%8:=by omega
   rw[e1,e2,Xo,Xo,Xa6 (by omega)]
  rw[Xk M,Xk (by omega)]
def bv {x:S}{r:Nat}(M:r<8){s:Nat}(F:s<8) : (Az ((Xq 8 (x.toNat:Int) &&& ~~~Xq 8 ((Az (Xay 128 (2^(min (Xi ((AY (r:Int)).toNat:Int)) 8)))).toNat:Int)).toNat:Int)).toNat.testBit s=(x.toNat.testBit s&&!decide (7-r=s)):=by
 have H:(AY (r:Int)).toNat=r:=by rw[DN];simp;omega
 have J:Xay 128 ((2:Int)^r)=((2^(7-r):Nat):Int):=by
  have e1:((2:Int)^r)=((2^r:Nat):Int):=by simp
  have e2:(128:Int)=((128:Nat):Int):=rfl;rw[e1,e2,Xc3 _ (Xcg _),<- Int.natCast_ediv];congr 1;have e3:(128:Nat)=2^(7-r)*2^r:=by rw[<- Nat.pow_add,show 7-r+r=7 by omega]
  rw[e3,Nat.mul_div_cancel _ (Xdd r)]
 rw[H,Xa3,Xda (by omega),J,OF,OF,Xd4,Xd4];have hp:2^(7-r)<256:=Nat.lt_of_le_of_lt (Nat.pow_le_pow_right (by omega) (show 7-r<=7 by omega)) (by decide);have K:(Xd1 (2^(7-r))).toNat=2^(7-r):=by simp only[Xcx];exact Xbd hp
 rw[K,Xcx,Nat.testBit_mod_two_pow,BitVec.testBit_toNat];simp only[BitVec.getLsbD_and,BitVec.getLsbD_not,BitVec.getLsbD_ofNat,F,decide_true,Xca,Nat.testBit_two_pow]
def Addr.uk (a:Addr){n q:Nat}(F:n<=a.w):(a.n/2^(a.w-n)*2^(a.w-n)).testBit q=(a.n.testBit q&&decide (a.w-n<=q)):=by
 rw[Nat.testBit_mul_two_pow,Nat.testBit_div_two_pow];by_cases h:a.w-n<=q
 ·simp[h]
 simp[h]
def gU {b c:C}(h:cond b c false=true):b=true/\c=true:=by cases b<;>simp at h⊢;exact h
def Addr.xf {a:Addr}(F:a.ok=true)(K:a.V6=false):a.Hi.toNat=0/\a.Lo.toNat<2^32:=by unfold Addr.ok at F;rw[K] at F;obtain⟨H,J⟩:=gU F;have J:=Xdq J;have H:=eq_of_beq H;omega
def Addr.vw {a:Addr}(J:a.ok=true):a.n<2^a.w:=by
 have Q:=a.Lo.toNat_lt;have U:=a.Hi.toNat_lt;cases F:a.V6
 ·obtain⟨K,M⟩:=Addr.xf J F;have H:a.w=32:=by unfold Addr.w;rw[F];rfl
  have P:a.n=a.Lo.toNat:=by unfold Addr.n;rw[K,Xdg,Xaa]
  rw[H,P];exact M
 have H:a.w=128:=by unfold Addr.w;rw[F];rfl
 rw[H];unfold Addr.n;omega
def TM {a:Addr}{n:Nat}(U:a.ok=true)(hn:n<=a.w):Ok (C6 a (n:Int)) λr=>r=(⟨a.cut n,n⟩,0):=by
 have hw:a.w=8*a.L:=by unfold Addr.w Addr.L;split<;>rfl
 have hL:a.L=16\/a.L=4:=by unfold Addr.L;split<;>simp
 unfold C6;rw[Dx,AA,U];refine .ite (λh=>by simp at h) λ_=>?_;have J:CH a=some (a.w:Int):=by unfold CH Addr.w;split<;>rfl
 refine .join (λb=>b=false) (λk hk=>.ite (λh=>by simp at h;omega) λ_=>?_) λb V=>?_
 ·rw[J,AA];refine hk _ ?_;simp only[Xdf,Xar];omega
 subst V;refine .ite (λh=>by simp at h) λ_=>?_;refine .bind (LS U) λl hl=>?_;refine .join (λl:I S=>l.length=a.L/\val l=a.n/2^(a.w-n)*2^(a.w-n)) (λk hk=>?_) λY F=>?_
 ·refine .rB (λs:Int×I S=>∃P:Nat,s.1=P/\n<=P/\P<=8*a.L/\s.2.length=a.L/\∀q,q<8*a.L->(s.2.getD (a.L-1-q/8) 0).toNat.testBit (q%8)=(a.n.testBit q&&!decide (8*a.L-P<=q/\q<8*a.L-n)))
   (λs=>(8*a.L-s.1).toNat) ⟨n,rfl,Xa2 _,by omega,hl.1,λq H=>?_⟩ (CB (by simp only;omega)) ?_
  ·have Z:a.L-1-q/8<a.L:=by omega
   have h2:=hl.2 _ Z;have h3:a.L-1-(a.L-1-q/8)=q/8:=by omega
   have K:¬ (8*a.L-n<=q/\q<8*a.L-n):=by omega
   rw[Xo,h2,h3];simp only[Xaw,K,decide_false,Bool.not_false,Bool.and_true];unfold UO;rw[Xcx,Nat.testBit_mod_two_pow,Nat.testBit_div_two_pow,Nat.mod_add_div];simp[Nat.mod_lt]
  rintro next ⟨p,l⟩ ⟨P,Z,h2,h3,K,h5⟩ a1
  simp only at Z K h5;subst Z;have e8:AQ (8*(l.length:Int))=((8*a.L:Nat):Int):=by rw[AM (by omega)];omega
  refine .ite (λh=>?_) λh=>hk _ ?_
  ·rw[e8] at h;simp only[Xh] at h;have ed:AQ (Int.tdiv (P:Int) 8)=((P/8:Nat):Int):=by rw[Int.tdiv_eq_ediv_of_nonneg (by omega),AM (by omega)];omega
   have et:Int.tmod (P:Int) 8=((P%8:Nat):Int):=by rw[Int.tmod_eq_emod_of_nonneg (by omega)];omega
   have M:P/8<l.length:=by omega
   rw[ed,BS M,AA,AA];refine .bind (Ok.rk (by omega)) λY F=>?_;rw[Xa3,et] at F;rw[AM (by omega)];refine a1 _ ⟨P+1,by simp only;omega,by omega,by omega,by simp only;omega,λq H=>?_⟩ (by simp only;omega);simp only;rw[F.1];by_cases V:a.L-1-q/8=P/8
   ·have Q:=h5 q H;rw[V,Xo,X14 M,Xaw] at Q;rw[V,Xo,List.getElem?_set_self (by omega),Xaw,bv (Nat.mod_lt _ (by omega)) (Nat.mod_lt _ (by omega)),Q,Bool.and_assoc];congr 1;rw[X27];simp only[X26,Xbj,Xar];omega
   have Q:=h5 q H;rw[Xo] at Q;rw[Xo,List.getElem?_set_ne (by omega),Q];congr 2;rw[decide_eq_decide];omega
  rw[e8] at h;simp only[Xh] at h;have hP:P=8*a.L:=by omega
  subst hP;refine⟨K,?_⟩;apply Nat.eq_of_testBit_eq;intro q;rw[WF,a.uk hn,K];by_cases H:q<8*a.L
  ·rw[Xl H,h5 q H];congr 1;rw[X27];simp only[Xbj,Xar,Xh];omega
  rw[Xk H];have:a.n.testBit q=false:=Nat.testBit_lt_two_pow (Xaj (Addr.vw U) (Nat.pow_le_pow_right (by omega) (by omega)));rw[this,Bool.false_and]
 refine .bind (M9 (by omega)) λr hr=>?_;subst hr;refine .ret ?_;have e1:(Y.length==16)=a.V6:=by rw[F.1];unfold Addr.L;cases a.V6<;>rfl
 have e2:val Y%2^128=val Y:=by refine Xbd ?_;rw[F.2];exact Nat.lt_of_le_of_lt (Nat.div_mul_le_self _ _) (Xaj (Addr.vw U) (Nat.pow_le_pow_right (by omega) (by rw[hw];omega)))
 rw[e1,e2,F.2,Addr.cut]
def Qi {a:Addr}{n:Int}(K:¬ (a.ok=true/\0<=n/\n<=a.w)):Ok (C6 a n) λr=>r.2≠0:=by
 have F:CH a=some (a.w:Int):=by unfold CH Addr.w;split<;>rfl
 unfold C6;rw[Dx,AA];refine .ite (λ_=>.ret (by decide)) λH=>?_;have H:a.ok=true:=by simpa using H
 refine .join (λb=>b=true) (λk J=>.ite (λ_=>J _ rfl) λh=>?_) λb M=>?_
 ·rw[F,AA];refine J _ ?_;show decide (n>(a.w:Int))=true;simp at h⊢;have:¬ (0<=n/\n<=a.w):=λq=>K ⟨H,q⟩;omega
 subst M;exact .ite (λ_=>.ret (by decide)) λh=>absurd rfl h
def Gn (a:Addr)(n:Int) :∃r e,C6 a n=some (r,e)/\((a.ok=true/\0<=n/\n<=a.w)/\e=0/\r=⟨a.cut n.toNat,n⟩\/¬ (a.ok=true/\0<=n/\n<=a.w)/\e≠0):=by
 by_cases h:a.ok=true/\0<=n/\n<=a.w
 ·obtain⟨k,rfl⟩ :∃k:Nat,n=k:=⟨n.toNat,by omega⟩;obtain⟨r,F,H⟩:=TM h.1 (n:=k) (by omega);exact⟨_,_,by rw[F,H],.inl ⟨h,rfl,by rw[Xa3]⟩⟩
 obtain⟨r,F,H⟩:=Qi h;exact⟨r.1,r.2,F,.inr ⟨h,H⟩⟩
instance (a:Addr) (n:Int):Tt (C6 a n):=by obtain⟨r,e,h,_⟩:=Gn a n;exact⟨_,h⟩
def uo (p:fI)(x:Addr):C:=decide (0<=p.qo/\p.qo<=x.w)&&Addr.qK (x.cut p.qo.toNat) p.Addr
instance (p:fI):Tt (An p):=by unfold An;exact Tt.rp
structure tJ (n:Nat)(a:gE):Prop where
 p:a.Path.length<=n
 s :∀s∈a.Path,s.lf.length<=n
 c:a.cW.length<=n
 l:a.ls.length<=n
 o:a.gS.length<=n
 d :∀u∈a.gS,u.Data.length<=n
def tJ.mono {n m:Nat}{a:gE}(h:tJ n a)(F:n<=m):tJ m a:=
 ⟨Xak h.p F,λs H=>Xak (h.s s H) F,Xak h.c F,Xak h.l F,Xak h.o F,λu J=>Xak (h.d u J) F⟩
def tJ.zero (n:Nat)(x:Addr)(a b c d:Int):tJ n ⟨a,[],x,b,c,d,[],[],[]⟩:=⟨Xco _,λ_ h=>absurd h (by simp),Xco _,Xco _,Xco _,λ_ h=>absurd h (by simp)⟩
instance (a b:I oA):Tt (IM a b):=by
 unfold IM;refine Ok.tt (Q:=λ_=>True) (.ite (λ_=>.ret trivial) λV=>.join (λ_=>True) (λk Y=>?_) λ_ _=>.ret trivial);have V:a.length=b.length:=by simp at V;omega
 refine .for_ (λ_=>Y _ trivial) λnext x i s hi hx J=>.join (λ_=>True) (λk2 K=>?_) λ_ _=>J _;have F:i<b.length:=by omega
 refine .join (λc=>c=false->x.lf.length=b[i].lf.length) (λk3 H=>?_) λc Z=>.ite (λ_=>.ret trivial) λM=>.join (λ_=>True) (λk4 P=>?_) λ_ _=>K _ trivial
 ·rw[BS F,AA];refine .ite (λ_=>H _ (by simp)) λ_=>?_;rw[AA];exact H _ λh=>by simp at h;omega
 have:=Z (by simpa using M);refine .for_ (λ_=>P _ trivial) λnext y j s hj hy U=>?_;rw[BS F,AA];refine .bind (.iB (by omega)) λ_ _=>.ite (λ_=>.ret trivial) λ_=>U _
instance (a b:gE):Tt (EZ a b):=by unfold EZ;exact Tt.rp
def YU {K V:Type}[BEq K](H :∀a b:K,(a==b)=true↔a=b){l:I (K×V)}{k F:K}{v:V}:BA (BJ l k v) F=cond (F==k) (some v) (BA l F):=by
 induction l with
 | nil=>simp only[BJ,BA];cases F==k<;>rfl
 | cons p l J=>
  simp only[BJ];cases h:(k==p.1)
  ·simp only[Xcy,Xd5,BA,J];cases M:(F==p.1)
   ·simp
   have P:(F==k)=false:=by
    cases Q:(F==k)
    ·rfl
    have e1:=(H _ _).1 M;have e2:=(H _ _).1 Q;rw[<- e2,e1,(H _ _).2 rfl] at h;simp at h
   rw[P];simp
  simp only[Xdt,BA];have e:=(H _ _).1 h;rw[<- e];cases F==k<;>simp
def rF {V:Type}{l:I (Int×V)}{k F:Int}{v:V}:BA (BJ l k v) F=if F=k then some v else BA l F:=by
 rw[YU (λa b=>Xc0)];by_cases h:F=k
 ·rw[Xl h,h];simp
 rw[Xk h,show (F==k)=false by simpa using h];rfl
def Mb (n:Nat)(F:I Int)(m:I (Int×I S)):Prop:=(∀k v,BA m k=some v->v.length<=n)/\∀k∈F,BA m k=none
def Mb.set {n:Nat}{J H:I Int}{m:I (Int×I S)}{k:Int}{v:I S}(h:Mb n J m)(M:v.length<=n)(K :∀q∈H,q∈J/\q≠k):Mb n H (BJ m k v):=by
 refine⟨λq u F=>?_,λq F=>?_⟩
 ·rw[rF] at F;split at F
  ·obtain rfl:=X24 F;exact M
  exact h.1 _ _ F
 rw[rF,Xk (K q F).2];exact h.2 q (K q F).1
def Mb.sub {n:Nat}{H F:I Int}{m:I (Int×I S)}(h:Mb n H m)(J :∀q∈F,q∈H):Mb n F m:=⟨h.1,λq K=>h.2 q (J q K)⟩
def Ds (p:fI):Prop:=p.Addr.ok=true/\0<=p.qo/\p.qo<=p.Addr.w/\p.Addr.cut p.qo.toNat=p.Addr
def Addr.qm (a b:Addr):Addr.qK a b=true↔a=b:=by
 unfold Addr.qK;simp only[X26,Xc0,Bool.and_true,Int.natCast_inj,Xd3];constructor
 ·rintro⟨F,H,J⟩;cases a;cases b;simp_all
 rintro rfl;exact⟨rfl,rfl,rfl⟩
def fI.qm (a b:fI):fI.qK a b=true↔a=b:=by
 have h:=Addr.qm a.Addr b.Addr;unfold Addr.qK at h;unfold fI.qK;rw[X26,h];simp only[Bool.and_true,Xc0];constructor
 ·rintro⟨F,H⟩;cases a;cases b;simp_all
 rintro rfl;exact⟨rfl,rfl⟩
def F2 (p:fI):Ok (An p) λb=>b=true↔Ds p:=by
 obtain⟨r,e,K,M⟩:=Gn p.Addr p.qo;unfold An;rw[K,AA];dsimp only;unfold Ds;rcases M with ⟨F,rfl,rfl⟩|⟨F,P⟩
 ·refine .join (λb=>b=true↔p.Addr.cut p.qo.toNat=p.Addr) (λk H=>.ite (λ_=>H _ ?_) λh=>absurd rfl h) λb J=>.ret (by rw[J];exact⟨λh=>⟨F.1,F.2.1,F.2.2,h⟩,λh=>h.2.2.2⟩);show fI.qK p _=true↔_;rw[fI.qm];exact⟨λh=>(Xae fI.Addr h).symm,λh=>by rw[h]⟩
 refine .join (λb=>b=false) (λk H=>.ite (λh=>absurd (by simpa using h) P) λ_=>H _ rfl) λb J=>.ret ⟨λh=>by rw[J] at h;simp at h,λh=>absurd ⟨h.1,h.2.1,h.2.2.1⟩ F⟩
def Dk (d:px):Prop:=0<=d.At/\d.L.length<=9223372036854775807
def uU (p:fI):Prop:=An p=some true/\(p.qo=16/\p.Addr.V6=false\/p.qo=48/\p.Addr.V6=true)
def uU.vq {p:fI}(h:uU p):Ds p:=by obtain⟨b,F,H⟩:=F2 p;rw[h.1] at F;exact H.1 (X24 F).symm
def nM:T:=Xce (Xcf (Xt 65 (Xt 76 (Xt 76 Xdr))))
def nO:T:=Xce (Xcf (Xt 79 (Xt 78 (Xt 69 Xdr))))
def XF:DU=some ⟨-1,[],⟨false,0,0⟩,-1,-1,-1,[],[],[]⟩:=rfl
def Sh (p:I oA)(o:I gF):Prop:=(p.length<=4/\∀s∈p,s.lf.length<=20)/\o.length<=4/\∀u∈o,u.Data.length<=4
def Sh.a {p:I oA}{o:I gF}(h:Sh p o){a b c d:Int}{x:Addr}{e:I oF}{f:I ls}(J:e.length<=8)(K:f.length<=8):tJ 1000 ⟨a,p,x,b,c,d,e,f,o⟩:=
 ⟨by have:=h.1.1;simp only;omega,λs F=>by have:=h.1.2 s F;omega,by simp only;omega,by simp only;omega,by have:=h.2.1;simp only;omega,λu H=>by have:=h.2.2 u H;omega⟩
def we {b:C}{l:I Int}(h:l.length<=20):Sh [⟨b,l⟩] []:=⟨⟨by simp,by simpa using h⟩,by simp,by simp⟩
def sk (a b:Int):C:=decide (a<b)
def ZT (a:Int):sk a a=false:=by simp[sk]
def fO (a b c:Int)(F:sk a b=true)(H:sk b c=true):sk a c=true:=by simp only[sk,Xh] at *;omega
def jt (a b:Int)(h:sk a b=false):a=b\/sk b a=true:=by simp only[sk,Xh,Xar] at *;omega
def sE (l r:I Int):Prop:=r.Pairwise (λa b=>sk a b=true)/\∀x,x∈r↔x∈l
end Go.AX.Q25
end
section
namespace Go.AX
section
variable {α ρ:Type}
def qD (lt:α->α->C):I α->C
 | x::y::t=>lt x y&&qD lt (y::t)
 | _=>true
def Kz (lt:α->α->C)(x y:α)(t:I α):qD lt (x::y::t)=(lt x y&&qD lt (y::t)):=rfl
def Rt (lt:α->α->C)(x:α):qD lt [x]=true:=rfl
def Lh {lt:α->α->C}(F :∀a b c,lt a b=true->lt b c=true->lt a c=true) :∀{l:I α},qD lt l=true↔l.Pairwise λa b=>lt a b=true
 | []=>by simp[qD]
 | [x]=>by simp[qD]
 | x::y::t=>by
  rw[Kz,X26,Lh F (l:=y::t),Xac (a:=x)];constructor
  ·rintro⟨H,J⟩;refine⟨λz K=>?_,J⟩;rcases Xp.1 K with e|K
   ·rw[e];exact H
   exact F _ _ _ H ((Xac.1 J).1 z K)
  rintro⟨H,J⟩;exact⟨H y (by simp),J⟩
def jH {ok:α->C}{lt:α->α->C}{l:I α}{K:Unit->O ρ}{F:O ρ}{body:(Unit->O ρ)->α->Nat->Unit->O ρ}(Q:l.length<=4611686018427387904) (H :∀next x,x∈l->body next x 0 ()=if ok x then next () else F) (J :∀next x y i,x∈l->y∈l->iB l (AQ (((i+1:Nat):Int)-1))=some y->body next x (i+1) ()=if ok x&&lt y x then next () else F) : AH K body l 0 ()=if l.all ok&&qD lt l then K () else F:=by
 have key :∀(t p:I α) (y:α),l=p++y::t->AH K body t (p.length+1) ()=if t.all ok&&qD lt (y::t) then K () else F:=by
  intro t;induction t with
  | nil=>intro p y _;rw[Rt];rfl
  | cons x t P=>
   intro p y e;show body (λs=>AH K body t (p.length+1+1) s) x (p.length+1) ()=_;have M:p.length<l.length:=by rw[e];simp
   rw[J _ x y p.length (by rw[e];simp) (by rw[e];simp) (by
    rw[AM (by omega),show ((p.length+1:Nat):Int)-1=(p.length:Int) by omega,e]
    exact Ji p y (x::t))]
   have:=P (p++[y]) x (by rw[e];simp);rw[X10,X21] at this;rw[this,Kz,Xc9];generalize qD lt (x::t)=c1;generalize t.all ok=c2;cases ok x<;>cases lt y x<;>cases c1<;>cases c2<;>rfl
 match l,H,J,key with
 | [],_,_,_=>rfl
 | x::t,H,_,key=>show body (λs=>AH K body t (0+1) s) x 0 ()=_;rw[H _ x (by simp)];have:=key t [] x rfl;rw[X12] at this;rw[this,Xc9];generalize qD lt (x::t)=c1;generalize t.all ok=c2;cases ok x<;>cases c1<;>cases c2<;>rfl
def oU {σ:Type}{g:σ->α->σ}{ok:α->C}{lt:α->α->C}{l:I α}{H:σ}{K:σ->O ρ}{F:O ρ}{body:(σ->O ρ)->α->Nat->σ->O ρ}(U:l.length<=4611686018427387904) (J :∀next x s,x∈l->body next x 0 s=if ok x then next (g s x) else F) (M :∀next x y i s,x∈l->y∈l->iB l (AQ (((i+1:Nat):Int)-1))=some y->body next x (i+1) s=if ok x&&lt y x then next (g s x) else F) : AH K body l 0 H=if l.all ok&&qD lt l then K (l.foldl g H) else F:=by
 have key :∀(t p:I α) (y:α) (s:σ),l=p++y::t->AH K body t (p.length+1) s=if t.all ok&&qD lt (y::t) then K (t.foldl g s) else F:=by
  intro t;induction t with
  | nil=>intro p y s _;rw[Rt];rfl
  | cons x t Q=>
   intro p y s e;show body (λs=>AH K body t (p.length+1+1) s) x (p.length+1) s=_;have P:p.length<l.length:=by rw[e];simp
   rw[M _ x y p.length s (by rw[e];simp) (by rw[e];simp) (by
    rw[AM (by omega),show ((p.length+1:Nat):Int)-1=(p.length:Int) by omega,e]
    exact Ji p y (x::t))]
   have:=Q (p++[y]) x (g s x) (by rw[e];simp);rw[X10,X21] at this;rw[this,Kz,Xc9,Xbb];generalize qD lt (x::t)=c1;generalize t.all ok=c2;cases ok x<;>cases lt y x<;>cases c1<;>cases c2<;>rfl
 match l,J,M,key with
 | [],_,_,_=>rfl
 | x::t,J,_,key=>show body (λs=>AH K body t (0+1) s) x 0 H=_;rw[J _ x H (by simp)];have:=key t [] x (g H x) rfl;rw[X12] at this;rw[this,Xc9,Xbb];generalize qD lt (x::t)=c1;generalize t.all ok=c2;cases ok x<;>cases c1<;>cases c2<;>rfl
def fb {F:Type}{g:F->I α}{N:Nat}{body:(I α->O ρ)->F->Nat->I α->O ρ}{K:I α->O ρ} :∀{l:I F} {i:Nat} {v:I α},v.length+(l.flatMap g).length<=N-> (∀next x i v,x∈l->v.length+(g x).length<=N->body next x i v=next (v++g x))->AH K body l i v=K (v++l.flatMap g)
 | [],i,v,_,_=>by rw[List.flatMap_nil,Xb0];rfl
 | x::t,i,v,h,H=>by rw[Xat,X10] at h;show body (λs=>AH K body t (i+1) s) x i v=_;rw[H _ x i v (by simp) (by omega),fb (l:=t) (by rw[X10];omega) λnext y j w J M=>H next y j w (X18 _ J) M,Xat,Xav]
end
end Go.AX
end
section
namespace Go.AX.Q25
open Go Go.AX
def Jl (a b:Int):pz a b=some (X0 a b):=by unfold pz cmp_isNaN_int X0;simp only[AA,Xdn,Xcy,Xd5,Xh,gt_iff_lt];split<;>(try split)<;>rfl
def YS (l:I Int):Em l=some (tH l):=by
 unfold Em;rw[AC];have key :∀(l:I Int) (i:Nat),AH (σ:=Unit) (λ_=>some (0:Int)) (λnext x _ _=>if (x !=0)=true then some x else next ()) l i ()=some (tH l):=by
  intro l;induction l with
  | nil=>intro i;rfl
  | cons x t F=>intro i;show (if (x !=0)=true then some x else AH _ _ t (i+1) ())=_;rw[F];rw[Xf];by_cases h:x=0<;>simp[h]
 exact key l 0
def aW (c:oF):I Int:=[c.A,c.B]
def aT (c:ls):I Int:=[c.A,c.B,c.C]
def fx (a b:oF):(aW a).length=(aW b).length:=rfl
def eJ (a b:ls):(aT a).length=(aT b).length:=rfl
def We:oF->oF->C:=s4 aW
def XO:ls->ls->C:=s4 aT
def jy (a b c:oF)(F:We a b=true)(H:We b c=true):We a c=true:=PN fx a b c F H
def jG (a b c:ls)(F:XO a b=true)(H:XO b c=true):XO a c=true:=PN eJ a b c F H
def gg (a b:oF):Dc a b=some (CS (aW a) (aW b)):=by unfold Dc;rw[Jl,AA,Jl,AA,YS,AA,Lu,Lu];rfl
def fW (a b:ls):Bw a b=some (CS (aT a) (aT b)):=by unfold Bw;rw[Jl,AA,Jl,AA,Jl,AA,YS,AA,Lu,Lu,Lu];rfl
def dj (a b:oF):FH a b=some (We a b):=by unfold FH We s4 aW;rw[AC];simp only[CS,Xh,Xc0,Xcm,Xdf];by_cases F:a.A < b.A<;>by_cases a2:a.A=b.A<;>by_cases a3:b.A < a.A<;>by_cases b1:a.B < b.B<;>by_cases b3:b.B < a.B<;>first|(exfalso;omega)|simp[F,a2,a3,b1,b3]
def fk (a b:ls):CO a b=some (XO a b):=by unfold CO XO s4 aT;simp only[AC];simp only[CS,Xh,Xc0,Xcm,Xdf];by_cases F:a.A < b.A<;>by_cases a2:a.A=b.A<;>by_cases a3:b.A < a.A<;>by_cases b1:a.B < b.B<;>by_cases b2:a.B=b.B<;>by_cases b3:b.B < a.B<;>by_cases c1:a.C < b.C<;>by_cases H:b.C < a.C<;>first|(exfalso;omega)|simp[F,a2,a3,b1,b2,b3,c1,H]
def ub (m x:Int):C:=decide (0<=x)&&decide (x<=m)
def uI (c:oF):C:=ub 65535 c.A&&ub 65535 c.B
def uQ (c:ls):Bool:=ub 4294967295 c.A&&(ub 4294967295 c.B&&ub 4294967295 c.C)
def aN (c:oF):EU c=some (uI c):=by unfold EU uI ub;rw[AC];simp only[Xh,Xcm,ge_iff_le];by_cases F:0<=c.A<;>by_cases a2:c.A<=65535<;>by_cases a3:0<=c.B<;>by_cases a4:c.B<=65535<;>simp[F,a2,a3,a4]
def cI (c:ls):B5 c=some (uQ c):=by unfold B5 uQ ub;rw[AC];simp only[Xh,Xcm,ge_iff_le];by_cases F:0<=c.A<;>by_cases a2:c.A<=4294967295<;>by_cases a3:0<=c.B<;>by_cases a4:c.B<=4294967295<;>by_cases a5:0<=c.C<;>by_cases H:c.C<=4294967295<;>simp[F,a2,a3,a4,a5,H]
def wZ {g:Int->Int->Int}{x:Int}{t:I Int}(Q:t.length<=1000000000) : AB (τ:=Int) (λJ=>A3 (σ:=Int×Int) (λF p=>match p with
   | (v4,v5)=>if (decide (v5<((x::t).length:Int)))=true then Xg (iB (x::t) v5) λK=>F (g v4 K,(AQ (v5+1))) else J v4) qb (x,1)) (λv=>some v)=some (t.foldl g x):=by
 rw[AC];refine (EL (λs:Int×Int=>∃j:Nat,s.2=(j+1:Nat)/\j<=t.length) (λs=>((x::t).length-s.2).toNat) (λs=>some ((t.drop (s.2.toNat-1)).foldl g s.1)) ?_ qb (x,1) ⟨0,rfl,Xco _⟩ (CB (by simp;omega))).trans rfl;rintro next ⟨m,i⟩ ⟨j,H,U⟩ M
 dsimp only at H;subst H;dsimp only;have e1:((j+1:Nat):Int).toNat-1=j:=by omega
 rw[e1];by_cases P:j<t.length
 ·rw[Xl (by simp only[X11,Xh];omega),BS (by simp;omega),AA,AM (by omega)];rw[M _ ⟨j+1,by simp,by omega⟩ (by simp only[X11];omega)];have e2:(((j+1:Nat):Int)+1).toNat-1=j+1:=by omega
  simp only[e2,List.getElem_cons_succ];rw[Xbt P,Xbb]
 rw[Xk (by simp only[X11,Xh];omega),List.drop_eq_nil_of_le (by omega)];rfl
def mn (a b:Int):Int:=if b<a then b else a
def mx (a b:Int):Int:=if b>a then b else a
def lp {x:Int}{t:I Int}(F:t.length<=1000000000):C4 (x::t)=some (t.foldl mn x):=by unfold C4;rw[Xk (by simp;omega),show iB (x::t) 0=some x from BS (l:=x::t) (i:=0) (by simp),AA];exact wZ (g:=mn) F
def mT {x:Int}{t:I Int}(F:t.length<=1000000000):C7 (x::t)=some (t.foldl mx x):=by unfold C7;rw[Xk (by simp;omega),show iB (x::t) 0=some x from BS (l:=x::t) (i:=0) (by simp),AA];exact wZ (g:=mx) F
def eF (n:Int) :∀(t:I Int) (x:Int),decide (n<=t.foldl mn x)=(x::t).all λy=>decide (n<=y)
 | [],x=>by rw[Xc9,List.all_nil,Bool.and_true];rfl
 | y::t,x=>by
  rw[Xbb,eF n t (mn x y)];simp only[Xc9];unfold mn;rw[X27];simp only[X26,Xh];constructor
  ·rintro⟨F,H⟩;split at F<;>exact⟨by omega,by omega,H⟩
  rintro⟨F,H,J⟩;split<;>exact⟨by omega,J⟩
def gY (n:Int) :∀(t:I Int) (x:Int),decide (t.foldl mx x<=n)=(x::t).all λy=>decide (y<=n)
 | [],x=>by rw[Xc9,List.all_nil,Bool.and_true];rfl
 | y::t,x=>by
  rw[Xbb,gY n t (mx x y)];simp only[Xc9];unfold mx;rw[X27];simp only[X26,Xh];constructor
  ·rintro⟨F,H⟩;split at F<;>exact⟨by omega,by omega,H⟩
  rintro⟨F,H,J⟩;split<;>exact⟨by omega,J⟩
def Qr {m x:Int}{t:I Int}(H:t.length<=1000000000):Cc m (x::t)=some ((x::t).all (ub m)):=by
 unfold Cc;rw[AC,lp H,AA,mT H];have e:(x::t).all (ub m)=(decide (0<=t.foldl mn x)&&decide (t.foldl mx x<=m)):=by rw[eF,gY,X27,X26];simp only[Xm,ub,X26];exact⟨λh=>⟨λy F=>(h y F).1,λy F=>(h y F).2⟩,λh y F=>⟨h.1 y F,h.2 y F⟩⟩
 rw[e];by_cases h:0<=t.foldl mn x
 ·rw[Xl (by simpa using h),AA,Xn h];rfl
 rw[Xk (by simpa using h),Wd h];rfl
def fc (c:oF):Ei c=some (uI c):=by unfold Ei;rw[Qr (by simp),AA];simp[uI]
def eN (c:ls):CU c=some (uQ c):=by unfold CU;rw[Qr (by simp),AA];simp[uQ]
def H4 (l:I oF):C:=l.all uI&&qD We l&&decide (l.length<=64)
def H9 (l:I ls):C:=l.all uQ&&qD XO l&&decide (l.length<=64)
def kt {X:Type}{key:X->I Int}(a b:X):decide (CS (key a) (key b)≥0)=!s4 key a b:=by unfold s4;rw[X27];simp
def jK {α:Type}{ok:α->C}{lt:α->α->C}{l:I α}(U:l.length<=1000000000){body:(Unit->O C)->α->Nat->Unit->O C} (h :∀next x i,body next x i ()=AB (τ:=C) (λH=>Xg (some (ok x)) λJ=>if (!J)=true then H true else if (decide ((i:Int)>0))=true then Xg (iB l (AQ ((i:Int)-1))) λK=>Xg (some (lt K x)) λM=>H (cond false true (cond true (!M) false)) else H false) λP=>if P=true then some false else next ()) :
  (AB (τ:=Unit) (λQ=>AH (σ:=Unit) (λ_=>Q ()) body l 0 ()) λ_=>some (decide ((l.length:Int)<=64)))=some (l.all ok&&qD lt l&&decide (l.length<=64)):=by
 rw[AC,jH (ok:=ok) (lt:=lt) (F:=some false) (by omega)]
 ·have e:decide ((l.length:Int)<=64)=decide (l.length<=64):=by rw[X27];simp;omega
  rw[e];generalize (l.all ok&&qD lt l)=b;cases b<;>rfl
 ·intro next x _
  rw[h,AC,AA];cases ok x<;>rfl
 intro next x y i _ _ hg
 rw[h,AC,AA,hg,AA,AA,Xl (show decide (((i+1:Nat):Int)>0)=true by simp)];cases ok x<;>cases lt y x<;>rfl
def Qp {l:I oF}(F:l.length<=1000000000):FY l=some (H4 l):=by unfold FY H4;exact jK F λnext x i=>by simp only[aN,dj]
def MC {l:I ls}(F:l.length<=1000000000):Cf l=some (H9 l):=by unfold Cf H9;exact jK F λnext x i=>by simp only[cI,fk]
def M5 {l:I oF}(F:l.length<=1000000000):DR l=some (H4 l):=by unfold DR AZ H4;rw[jK (ok:=uI) (lt:=We) F λnext x i=>by simp only[fc,gg,AA,kt];rfl];rfl
def JG {l:I ls}(F:l.length<=1000000000):Bi l=some (H9 l):=by unfold Bi AT H9;rw[jK (ok:=uQ) (lt:=XO) F λnext x i=>by simp only[eN,fW,AA,kt];rfl];rfl
def Je {l:I oF}:H4 l=true↔(∀c∈l,uI c=true)/\(l.Pairwise λa b=>We a b=true)/\l.length<=64:=by unfold H4;rw[X26,X26,Lh jy,Xm,Xh,and_assoc]
def JZ {l:I ls}:H9 l=true↔(∀c∈l,uQ c=true)/\(l.Pairwise λa b=>XO a b=true)/\l.length<=64:=by unfold H9;rw[X26,X26,Lh jG,Xm,Xh,and_assoc]
def kf {α:Type}{e:α->α->C}{x:α} :∀(l:I α) (i:Nat),AH (σ:=Unit) (λ_=>some false) (λ(next:Unit->O C) (y:α) _ _=>if e y x=true then some true else next ()) l i ()=some (l.any λy=>e y x)
 | [],_=>rfl
 | y::t,i=>by show (if e y x=true then some true else AH _ _ t (i+1) ())=_;rw[kf t (i+1),Xdh];cases e y x<;>rfl
def Uy (l:I oF)(c:oF):GY l c=some (l.any λy=>oF.qK y c):=by unfold GY;rw[AC];exact kf l 0
def XL {α:Type}{l:I α}{n:Nat}(h:n<=l.length):part l 0 (n:Int)=some (l.take n):=by have:=LX (l:=l) (a:=0) (b:=n) (by omega) h;simpa using this
def RL {α:Type}{l:I α}{n:Nat}(h:n<=l.length):part l (n:Int) (l.length:Int)=some (l.drop n):=by rw[LX h (Xa2 _),List.take_of_length_le (by simp)]
def eu {α:Type}{b:Nat}{lt:α->α->C}{l:I α}{x:α}(H:Xdl b 65536=true)(U:l.length+1<=1000000000){ρ:Type}{K:I α->O ρ} : (Xg (part l 0 ((l.takeWhile (lt · x)).length:Int)) λF=>Xg (gH (α:=α) b [] F) λ_=>Xg (gH (α:=α) b F ([x]:I α)) λJ=>Xg (part l ((l.takeWhile (lt · x)).length:Int) (l.length:Int)) λM=>Xg (gH (α:=α) b J M) K)=K (NK lt l x):=by have V:=Ce (lt · x) l;obtain⟨P,Q⟩:=r9 (lt · x) l;rw[XL (by omega),AA,AI H (by simp;omega),AA,AI H (by simp;omega),AA,RL (by omega),AA,AI H (by simp;omega),AA,P,Q];unfold NK;simp
end Go.AX.Q25
end
section
end
section
namespace Go.AX.Q25
open Go Go.AX
section
variable {ρ:Type} {F:O ρ} {next:Int×C×j×j×Int×Int×Int×(I oA)×(I oF)×(I ls)->O ρ} {x:gF} {a:gE}
end
end Go.AX.Q25
end
