/-
  Texts of one proof, packed.
-/
import Derived.Test.YtckndjeehbfpkaaGreatDoorK4
import Derived.Test.YtckndjeehbfpkaaGreatDoorK5
import Derived.KernelRfl
import Derived.Sort.Walk0
set_option linter.all false
set_option maxRecDepth 100000
set_option maxHeartbeats 4000000
open List renaming length_map→X10,length_append→X11,length_cons→X12,length_nil→X13,mem_singleton→X14,getElem?_eq_getElem→X15,getElem?_eq_some_iff→X16,length_take→X18,mem_cons_of_mem→X19,length_singleton→X22,mem_append→X23
open Option.some renaming injEq→X24,inj→X25
open Prod.mk renaming injEq→X26
open Bool renaming and_eq_true→X27,eq_iff_iff→X28
open Nat renaming add_mul→X32
section
namespace Go.AX.Q24
open Go Go.AX
instance (a0:Addr):Tt (CJ a0):=by unfold CJ;exact Tt.auto
instance (a0:Addr):Tt (C5 a0):=by unfold C5;exact Tt.auto
instance (a0:List UInt8):Tt (Br a0):=by unfold Br;exact Tt.auto
instance (a0:Int):Tt (FG a0):=by unfold FG;exact Tt.auto
instance (a0:Int):Tt (Da a0):=by unfold Da;exact Tt.auto
instance (a0:JAC):Tt (FA a0):=by unfold FA;exact Tt.auto
instance (a0:JAC) (a1:JAC):Tt (F7 a0 a1):=by unfold F7;exact Tt.auto
instance (a0:JAH):Tt (CZ a0):=by unfold CZ;exact Tt.auto
instance (a0:JAH) (a1:JAH):Tt (DG a0 a1):=by unfold DG;exact Tt.auto
instance (a0:List JAC) (a1:JAC):Tt (HA a0 a1):=by unfold HA;exact Tt.auto
instance:Tt (GT):=by unfold GT;exact Tt.auto
instance (a0:Addr):Tt (Bl a0):=by unfold Bl;exact Tt.auto
instance (a0:Int):Tt (FV a0):=by unfold FV;exact Tt.auto
instance (a0:Addr) (a1:Int):Tt (D4 a0 a1):=by unfold D4;exact Tt.auto
theorem W2 {a k:Nat}(ha:a<2^64)(hk:k<=64):(BitVec.ofInt 64 (a:Int) &&& ~~~BitVec.ofInt 64 ((2^k-1:Nat):Int)).toNat=a/2^k*2^k:=by
 apply Nat.eq_of_testBit_eq
 intro i
 rw[BitVec.ofInt_natCast,BitVec.ofInt_natCast,BitVec.testBit_toNat]
 simp only[BitVec.getLsbD_and,BitVec.getLsbD_not,BitVec.getLsbD_ofNat,Nat.testBit_mul_two_pow,Nat.testBit_div_two_pow,Nat.testBit_two_pow_sub_one]
 by_cases hi:i<64
 ·by_cases hki:k<=i
  ·simp[hi,hki,Nat.not_lt.2 hki]
  simp[hi,hki,Nat.lt_of_not_le hki]
 have:a.testBit i=false:=Nat.testBit_lt_two_pow (Nat.lt_of_lt_of_le ha (Nat.pow_le_pow_right (by omega) (by omega)))
 by_cases hki:k<=i
 ·simp[hi,hki,this]
 omega
theorem Ea (n:Nat):BF (n:Int)=UInt64.ofNat n:=by
 unfold BF
 apply UInt64.toNat_inj.1
 simp only[UInt64.toNat_ofNat']
 omega
def Addr.n (a:Addr):Nat:=a.Hi.toNat*2^64+a.Lo.toNat
def Addr.w (a:Addr):Nat:=if a.V6 then 128 else 32
def Addr.ok (a:Addr):Bool:=cond a.V6 true (cond ((a.Hi.toNat:Int)==0) (decide ((a.Lo.toNat:Int)<4294967296)) false)
def mkA (v6:Bool)(n:Nat):Addr:=⟨v6,UInt64.ofNat (n/2^64),UInt64.ofNat n⟩
def Addr.cut (a:Addr)(n:Nat):Addr:=mkA a.V6 (a.n/2^(a.w-n)*2^(a.w-n))
theorem Z2 (b:Bool)(m:Nat):(mkA b m).V6=b:=by unfold mkA;rfl
theorem cZ (a:Addr)(n:Nat):(a.cut n).V6=a.V6:=Z2 _ _
theorem fL (h l k:Nat)(hl:l<2^64)(hk:k<=64):(h*2^64+l)/2^k*2^k=h*2^64+l/2^k*2^k:=by
 have:(2:Nat)^64=2^(64-k)*2^k:=by rw[<- Nat.pow_add];congr 1;omega
 rw[this,<- Nat.mul_assoc,Nat.add_comm,Nat.add_mul_div_right _ _ (Nat.two_pow_pos k),X32,Nat.add_comm]
theorem cV:BF (((0:Nat):Int)-1)=UInt64.ofNat 18446744073709551615:=by
   unfold BF
   congr 1
theorem cX {k:Nat}(hk:k<64):BF (((UInt64.ofNat (2^k)).toNat:Int)-1)=UInt64.ofNat (2^k-1):=by
  have h3:(2:Nat)^k<2^64:=Nat.pow_lt_pow_right (by omega) (by omega)
  have h4:0<(2:Nat)^k:=Nat.two_pow_pos k
  have h5:(UInt64.ofNat (2^k)).toNat=2^k:=by simp only[UInt64.toNat_ofNat'];omega
  rw[h5]
  have h6:((2^k:Nat):Int)-1=((2^k-1:Nat):Int):=by omega
  rw[h6,Ea]
theorem cI:BF (((UInt64.ofNat (2^64)).toNat:Int)-1)=UInt64.ofNat (2^64-1):=by
  have h5:(UInt64.ofNat (2^64)).toNat=0:=by simp only[UInt64.toNat_ofNat',Nat.mod_self]
  rw[h5]
  exact cV
theorem bZ {k:Nat}(hk:k<=64):BF (1*(2^(min (Int.toNat ((BF (k:Int)).toNat:Int)) 64)))=UInt64.ofNat (2^k):=by
 rw[Ea]
 have h1:(UInt64.ofNat k).toNat=k:=by simp;omega
 rw[h1,Int.toNat_natCast,Nat.min_eq_left hk,Int.one_mul]
 have h2:((2:Int)^k)=((2^k:Nat):Int):=by simp
 rw[h2,Ea]
theorem Vd {k:Nat}(hk:k<=64):BF (((BF (1*(2^(min (Int.toNat ((BF (k:Int)).toNat:Int)) 64)))).toNat:Int)-1)=UInt64.ofNat (2^k-1):=by
 rw[bZ hk]
 rcases Nat.lt_or_eq_of_le hk with h | h
 ·exact cX h
 rw[h];exact cI
theorem N4 {x:UInt64}{k:Nat}(hk:k<=64):BF ((BitVec.ofInt 64 (x.toNat:Int) &&& ~~~BitVec.ofInt 64 ((UInt64.ofNat (2^k-1)).toNat:Int)).toNat:Int)=UInt64.ofNat (x.toNat/2^k*2^k):=by
 have h:(UInt64.ofNat (2^k-1)).toNat=2^k-1:=by
  have:(2:Nat)^k<=2^64:=Nat.pow_le_pow_right (by omega) hk
  have h4:0<(2:Nat)^k:=Nat.two_pow_pos k
  simp only[UInt64.toNat_ofNat'];omega
 rw[h,W2 x.toNat_lt hk,Ea]
theorem J8 (a:Addr){n:Nat}(hn:n<=a.w):D4 a (n:Int)=some (a.cut n):=by
 have hw:Bl a=some (a.w:Int):=by unfold Bl Addr.w;split<;>rfl
 have hwn:A0 ((a.w:Int)-(n:Int))=((a.w-n:Nat):Int):=by
  have:a.w<=128:=by unfold Addr.w;split<;>omega
  rw[A3 (by omega)];omega
 have hlo:=a.Lo.toNat_lt
 have hhi:=a.Hi.toNat_lt
 unfold D4
 rw[hw,AA,hwn]
 have hk128:a.w-n<=128:=by unfold Addr.w;split<;>omega
 generalize hk:a.w-n=k at *
 unfold FV
 by_cases h64:k > 64
 ·rw[if_pos (by simp;omega),AA]
  have e:A0 ((k:Int)-64)=((k-64:Nat):Int):=by rw[A3 (by omega)];omega
  rw[e,Vd (by omega)]
  simp only[N4 (show k-64<=64 by omega)]
  have h1:(18446744073709551615:UInt64)=UInt64.ofNat (2^64-1):=rfl
  rw[h1,N4 (Nat.le_refl 64)]
  have h0:a.Lo.toNat/2^64=0:=Nat.div_eq_of_lt hlo
  unfold Addr.cut mkA Addr.n
  rw[hk]
  have hsplit:(2:Nat)^k=2^64*2^(k-64):=by rw[<- Nat.pow_add];congr 1;omega
  have hd:(a.Hi.toNat*2^64+a.Lo.toNat)/2^k=a.Hi.toNat/2^(k-64):=by
   rw[hsplit,<- Nat.div_div_eq_div_mul,Nat.add_comm,Nat.add_mul_div_right _ _ (Nat.two_pow_pos 64),h0,Nat.zero_add]
  rw[hd]
  have he:a.Hi.toNat/2^(k-64)*2^k=a.Hi.toNat/2^(k-64)*2^(k-64)*2^64:=by
   rw[hsplit,Nat.mul_comm (2^64),Nat.mul_assoc]
  rw[he,Nat.mul_div_cancel _ (Nat.two_pow_pos 64),h0]
  have e0:UInt64.ofNat (a.Hi.toNat/2^(k-64)*2^(k-64)*2^64)=UInt64.ofNat 0:=by
   apply UInt64.toNat_inj.1
   simp only[UInt64.toNat_ofNat',Nat.mul_mod_left,Nat.zero_mod]
  rw[e0,Nat.zero_mul]
 rw[if_neg (by simp;omega),AA,Vd (by omega)]
 simp only[N4 (show k<=64 by omega)]
 have h1:(0:UInt64)=UInt64.ofNat (2^0-1):=rfl
 rw[h1,N4 (Nat.zero_le 64)]
 unfold Addr.cut mkA Addr.n
 rw[hk,fL _ _ _ hlo (by omega)]
 have hlt:a.Lo.toNat/2^k*2^k<2^64:=Nat.lt_of_le_of_lt (Nat.div_mul_le_self _ _) hlo
 have e1:UInt64.ofNat (a.Hi.toNat/2^0*2^0)=UInt64.ofNat ((a.Hi.toNat*2^64+a.Lo.toNat/2^k*2^k)/2^64):=by
  congr 1
  omega
 have e2:UInt64.ofNat (a.Lo.toNat/2^k*2^k)=UInt64.ofNat (a.Hi.toNat*2^64+a.Lo.toNat/2^k*2^k):=by
  apply UInt64.toNat_inj.1
  simp only[UInt64.toNat_ofNat']
  omega
 rw[e1,e2]
theorem R1 (n:Nat):M1 (n:Int)=UInt8.ofNat n:=by
 unfold M1
 apply UInt8.toNat_inj.1
 simp only[UInt8.toNat_ofNat']
 omega
def Addr.L (a:Addr):Nat:=if a.V6 then 16 else 4
def Su (a:Addr)(k:Nat):UInt8:=UInt8.ofNat (a.n/2^(8*k))
theorem FB (a:Addr):CJ a=some a.ok:=by
 unfold CJ Addr.ok
 rw[AC]
 generalize ((a.Hi.toNat:Int)==0)=x
 generalize decide ((a.Lo.toNat:Int)<4294967296)=y
 generalize a.V6=z
 cases z<;>cases x<;>rfl
theorem W3 {w:UInt64}{k:Nat}(hk:k<8) :
  M1 ((BF (Int.fdiv (w.toNat:Int) (2^(min (Int.toNat ((BF (8*((BF (k:Int)).toNat:Int))).toNat:Int)) 64)))).toNat:Int)=UInt8.ofNat (w.toNat/2^(8*k)):=by
 have h1:(BF (k:Int)).toNat=k:=by rw[Ea];simp;omega
 have h2:(BF (8*((BF (k:Int)).toNat:Int))).toNat=8*k:=by
  rw[h1]
  have:(8*(k:Int))=((8*k:Nat):Int):=by omega
  rw[this,Ea];simp;omega
 have h3:Int.fdiv (w.toNat:Int) ((2:Int)^(8*k))=((w.toNat/2^(8*k):Nat):Int):=by
  have:((2:Int)^(8*k))=((2^(8*k):Nat):Int):=by simp
  rw[this,Int.fdiv_eq_ediv_of_nonneg _ (Int.natCast_nonneg _),Int.natCast_ediv]
 rw[h2,Int.toNat_natCast,Nat.min_eq_left (by omega),h3,Ea,R1]
 have:(UInt64.ofNat (w.toNat/2^(8*k))).toNat=w.toNat/2^(8*k):=by
  have hd:w.toNat/2^(8*k)<2^64:=Nat.lt_of_le_of_lt (Nat.div_le_self _ _) w.toNat_lt
  rw[UInt64.toNat_ofNat',Nat.mod_eq_of_lt hd]
 rw[this]
theorem TY {a b:Nat}(h:a%256=b%256):UInt8.ofNat a=UInt8.ofNat b:=by
 apply UInt8.toNat_inj.1
 simp only[UInt8.toNat_ofNat']
 exact h
theorem UI {a:Addr}{k:Nat}(hk:k<16)(hv:a.ok=true)(h4:a.V6=false->k<4) :
  UInt8.ofNat ((if k ≥ 8 then a.Hi else a.Lo).toNat/2^(8*(k%8)))=Su a k:=by
 unfold Su Addr.n
 have hlo:=a.Lo.toNat_lt
 by_cases h8:k ≥ 8
 ·rw[if_pos h8]
  have e:8*k=64+8*(k%8):=by omega
  rw[e,Nat.pow_add,<- Nat.div_div_eq_div_mul,Nat.add_comm (a.Hi.toNat*2^64),Nat.add_mul_div_right _ _ (Nat.two_pow_pos 64),Nat.div_eq_of_lt hlo,Nat.zero_add]
 rw[if_neg h8]
 have e:k%8=k:=Nat.mod_eq_of_lt (by omega)
 rw[e]
 apply TY
 have e2:(2:Nat)^64=2^(8*k)*2^(64-8*k):=by rw[<- Nat.pow_add];congr 1;omega
 have e3:(2:Nat)^(64-8*k)=256*2^(56-8*k):=by
  have:(256:Nat)=2^8:=rfl
  rw[this,<- Nat.pow_add];congr 1;omega
 have e4:a.Hi.toNat*2^64=a.Hi.toNat*2^(56-8*k)*256*2^(8*k):=by
  rw[e2,e3,Nat.mul_assoc,Nat.mul_assoc]
  congr 1
  rw[Nat.mul_comm (2^(56-8*k)),Nat.mul_comm (2^(8*k))]
  rw[Nat.mul_assoc,Nat.mul_comm (2^(56-8*k)),Nat.mul_assoc]
 rw[e4,Nat.add_comm,Nat.add_mul_div_right _ _ (Nat.two_pow_pos _),Nat.add_mul_mod_self_right]
theorem Qv {a:Addr}(hv:a.ok=true):Ok (Ha a) fun l=>l.length=a.L/\∀j,j<a.L->l[j]?=some (Su a (a.L-1-j)):=by
 unfold Ha
 rw[FB,AA,hv]
 refine .ite (fun h=>by simp at h) fun _=>?_
 refine .join (fun n:Int=>n=a.L) (fun k hk=>.ite (fun h=>hk _ (by unfold Addr.L;rw[if_pos h];rfl)) fun h=>hk _ (by unfold Addr.L;rw[if_neg h];rfl)) fun n hn=>?_
 have hL:a.L=16\/a.L=4:=by unfold Addr.L;split<;>simp
 subst hn
 refine .join (fun l:List UInt8=>l.length=a.L/\∀j,j<a.L->l[j]?=some (Su a (a.L-1-j))) (fun k hk=>?_) fun l hl=>.ret hl
 refine .whileI (fun s:Int×List UInt8=>-1<=s.1/\s.1=a.L-1-s.2.length/\∀j,j<s.2.length->s.2[j]?=some (Su a (a.L-1-j))) (fun s=>(s.1+1).toNat) ?_ ?_ ?_
 ·rw[A3 (by omega)];simp;omega
 ·rw[A3 (by omega)];exact EJ (by omega)
 rintro next ⟨p,l⟩ ⟨h1,h2,h3⟩ hn
 simp only at h1 h2 h3
 refine .ite (fun h=>?_) fun h=>hk _ ⟨by simp at h;omega,fun j hj=>h3 j (by simp at h;omega)⟩
 simp only[decide_eq_true_eq] at h
 obtain⟨k,rfl⟩ :∃k:Nat,p=k:=⟨p.toNat,by omega⟩
 refine .join (fun w:UInt64=>w=if k ≥ 8 then a.Hi else a.Lo) (fun k' hk'=>.ite (fun h=>hk' _ (by rw[if_pos (by simp at h;omega)]) ) fun h=>hk' _ (by rw[if_neg (by simp at h;omega)])) fun w hw=>?_
 refine .bind (Ok.apnd (by decide) (by simp;omega)) fun l' hl'=>?_
 have hb:k<16:=by omega
 have ht:Int.tmod (k:Int) 8=((k%8:Nat):Int):=by rw[Int.tmod_eq_emod_of_nonneg (by omega)];omega
 rw[ht,W3 (Nat.mod_lt _ (by omega)),hw,UI hb hv (fun h4=>by unfold Addr.L at h2;simp[h4] at h2;omega)] at hl'
 subst hl'
 rw[A3 (by omega)]
 refine hn _ ⟨by simp only;omega,by simp;omega,fun j hj=>?_⟩ (by simp only;omega)
 simp only[X11,X22] at hj
 by_cases hj':j<l.length
 ·simp only
  rw[List.getElem?_append_left hj'];exact h3 j hj'
 have:j=l.length:=by omega
 subst this
 simp only[List.getElem?_append_right (Nat.le_refl _),Nat.sub_self,List.getElem?_cons_zero]
 congr 2
 omega
theorem XS {u v:Nat}(hu:u<2^64)(hv:v<256):BF ((BitVec.ofInt 64 ((BF ((u:Int)*(2^(min (Int.toNat 8) 64)))).toNat:Int) ||| BitVec.ofInt 64 ((BF (v:Int)).toNat:Int)).toNat:Int)=UInt64.ofNat (u*256+v):=by
 have h1:((u:Int)*(2^(min (Int.toNat 8) 64)))=((u*256:Nat):Int):=by
  have:min (Int.toNat 8) 64=8:=rfl
  rw[this];omega
 rw[h1,Ea,Ea,Ea]
 have h2:(UInt64.ofNat v).toNat=v:=by simp only[UInt64.toNat_ofNat'];omega
 have h3:(UInt64.ofNat (u*256)).toNat=2^8*(u%2^56):=by simp only[UInt64.toNat_ofNat'];omega
 rw[h2,h3,BitVec.ofInt_natCast,BitVec.ofInt_natCast,BitVec.toNat_or,BitVec.toNat_ofNat,BitVec.toNat_ofNat,Nat.mod_eq_of_lt (show 2^8*(u%2^56)<2^64 by omega),Nat.mod_eq_of_lt (show v<2^64 by omega),
  ← Nat.two_pow_add_eq_or_of_lt (show v<2^8 by omega)]
 apply UInt64.toNat_inj.1
 simp only[UInt64.toNat_ofNat']
 omega
theorem MU {l:List UInt8}(hl:l.length=4\/l.length=16):Ok (Br l) fun r=>r=(mkA (l.length==16) (val l%2^128),0):=by
 unfold Br
 refine .join (fun b=>b=false) (fun k hk=>.ite (fun h=>hk _ ?_) fun _=>hk _ rfl) fun b hb=>?_
 ·rcases hl with h' | h'<;>simp[h'] at h ⊢
 subst hb
 refine .ite (fun h=>by simp at h) fun _=>?_
 refine .join (fun a=>a=mkA (l.length==16) (val l%2^128)) (fun k hk=>?_) fun a ha=>.ret (by rw[ha])
 refine .forX (fun i s=>s=mkA (l.length==16) (val (l.take i)%2^128)) ?_ (fun s hs=>hk _ (by rw[hs,List.take_length])) ?_
 ·have:((l.length:Int)==16)=(l.length==16):=by rw[X28];simp only[beq_iff_eq];omega
  rw[this,List.take_zero]
  have e0:val []%2^128=0:=by simp[val]
  rw[e0]
  unfold mkA
  rfl
 rintro next x i s hx rfl hn
 refine hn _ ?_
 have hlt:=(X16.1 hx).1
 have ht:l.take (i+1)=l.take i++[x]:=by rw[List.take_add_one,hx];rfl
 rw[ht,VC]
 generalize val (l.take i)=m
 have hx8:=x.toNat_lt
 have hlo:(mkA (l.length==16) (m%2^128)).Lo.toNat=m%2^64:=by unfold mkA;simp only[UInt64.toNat_ofNat'];omega
 have hhi:(mkA (l.length==16) (m%2^128)).Hi.toNat=m/2^64%2^64:=by unfold mkA;simp only[UInt64.toNat_ofNat'];omega
 have h1:=XS (u:=m%2^64) (v:=x.toNat) (by omega) hx8
 have h2:=XS (u:=m/2^64%2^64) (v:=m%2^64/2^56) (by omega) (by omega)
 have h3:Int.fdiv ((m%2^64:Nat):Int) (2^(min (Int.toNat 56) 64))=((m%2^64/2^56:Nat):Int):=by
  have:min (Int.toNat 56) 64=56:=rfl
  have e5:((2:Int)^56)=((2^56:Nat):Int):=by simp
  rw[this,e5,Int.fdiv_eq_ediv_of_nonneg _ (Int.natCast_nonneg _),Int.natCast_ediv]
 rw[hlo,hhi,h3,h1,h2,Z2]
 unfold mkA
 have e1:UInt64.ofNat (m/2^64%2^64*256+m%2^64/2^56)=UInt64.ofNat ((m*256+x.toNat)%2^128/2^64):=by
  apply UInt64.toNat_inj.1;simp only[UInt64.toNat_ofNat'];omega
 have e2:UInt64.ofNat (m%2^64*256+x.toNat)=UInt64.ofNat ((m*256+x.toNat)%2^128):=by
  apply UInt64.toNat_inj.1;simp only[UInt64.toNat_ofNat'];omega
 rw[e1,e2]
theorem VE :∀(l:List UInt8) (q:Nat),(val l).testBit q=if q<8*l.length then (l.getD (l.length-1-q/8) 0).toNat.testBit (q%8) else false:=by
 intro l
 induction h:l.length generalizing l with
 | zero=>intro q;have:l=[]:=List.eq_nil_of_length_eq_zero h;subst this;simp[val]
 | succ n ih=>
  intro q
  obtain⟨l',x,rfl⟩ :∃l' x,l=l'++[x]:=by
   rcases List.eq_nil_or_concat l with h' | ⟨l',x,h'⟩
   ·subst h';simp at h
   exact⟨l',x,by simpa using h'⟩
  have hl':l'.length=n:=by simpa using h
  rw[VC,Nat.mul_comm,show (256:Nat)=2^8 from rfl,Nat.testBit_two_pow_mul_add _ (show x.toNat<2^8 from x.toNat_lt)]
  by_cases hq:q<8
  ·rw[if_pos hq,if_pos (by omega)]
   have e1:n+1-1-q/8=l'.length:=by omega
   rw[e1,Nat.mod_eq_of_lt hq]
   simp[List.getD_eq_getElem?_getD]
  rw[if_neg hq,ih l' hl']
  by_cases h2:q-8<8*n
  ·rw[if_pos h2,if_pos (by omega)]
   have e1:n-1-(q-8)/8=n+1-1-q/8:=by omega
   have e2:(q-8)%8=q%8:=by omega
   rw[e1,e2,List.getD_eq_getElem?_getD,List.getD_eq_getElem?_getD,List.getElem?_append_left (by omega)]
  rw[if_neg h2,if_neg (by omega)]
theorem YH {x:UInt8}{r:Nat}(hr:r<8){s:Nat}(hs:s<8) :
  (M1 ((BitVec.ofInt 8 (x.toNat:Int) &&& ~~~BitVec.ofInt 8 ((M1 (Int.fdiv 128 (2^(min (Int.toNat ((BF (r:Int)).toNat:Int)) 8)))).toNat:Int)).toNat:Int)).toNat.testBit s=(x.toNat.testBit s&&!decide (7-r=s)):=by
 have h1:(BF (r:Int)).toNat=r:=by rw[Ea];simp;omega
 have h2:Int.fdiv 128 ((2:Int)^r)=((2^(7-r):Nat):Int):=by
  have e1:((2:Int)^r)=((2^r:Nat):Int):=by simp
  have e2:(128:Int)=((128:Nat):Int):=rfl
  rw[e1,e2,Int.fdiv_eq_ediv_of_nonneg _ (Int.natCast_nonneg _),<- Int.natCast_ediv]
  congr 1
  have e3:(128:Nat)=2^(7-r)*2^r:=by rw[<- Nat.pow_add,show 7-r+r=7 by omega]
  rw[e3,Nat.mul_div_cancel _ (Nat.two_pow_pos r)]
 rw[h1,Int.toNat_natCast,Nat.min_eq_left (by omega),h2,R1,R1,BitVec.ofInt_natCast,BitVec.ofInt_natCast]
 have hp:2^(7-r)<256:=Nat.lt_of_le_of_lt (Nat.pow_le_pow_right (by omega) (show 7-r<=7 by omega)) (by decide)
 have h3:(UInt8.ofNat (2^(7-r))).toNat=2^(7-r):=by simp only[UInt8.toNat_ofNat'];exact Nat.mod_eq_of_lt hp
 rw[h3,UInt8.toNat_ofNat',Nat.testBit_mod_two_pow,BitVec.testBit_toNat]
 simp only[BitVec.getLsbD_and,BitVec.getLsbD_not,BitVec.getLsbD_ofNat,hs,decide_true,Bool.true_and,Nat.testBit_two_pow]
theorem Addr.cut_bit (a:Addr){n q:Nat}(hn:n<=a.w):(a.n/2^(a.w-n)*2^(a.w-n)).testBit q=(a.n.testBit q&&decide (a.w-n<=q)):=by
 rw[Nat.testBit_mul_two_pow,Nat.testBit_div_two_pow]
 by_cases h:a.w-n<=q
 ·simp[h]
 simp[h]
theorem ZG {b c:Bool}(h:cond b c false=true):b=true/\c=true:=by cases b<;>simp at h ⊢;exact h
theorem Addr.ok4 {a:Addr}(hv:a.ok=true)(h6:a.V6=false):a.Hi.toNat=0/\a.Lo.toNat<2^32:=by
 unfold Addr.ok at hv
 rw[h6] at hv
 obtain⟨h1,h2⟩:=ZG hv
 have h2:=of_decide_eq_true h2
 have h1:=eq_of_beq h1
 omega
theorem Addr.n_lt {a:Addr}(hv:a.ok=true):a.n<2^a.w:=by
 have h1:=a.Lo.toNat_lt
 have h2:=a.Hi.toNat_lt
 cases hv6:a.V6
 ·obtain⟨g1,g2⟩:=Addr.ok4 hv hv6
  have hw:a.w=32:=by unfold Addr.w;rw[hv6];rfl
  have hn:a.n=a.Lo.toNat:=by unfold Addr.n;rw[g1,Nat.zero_mul,Nat.zero_add]
  rw[hw,hn];exact g2
 have hw:a.w=128:=by unfold Addr.w;rw[hv6];rfl
 rw[hw]
 unfold Addr.n
 omega
theorem SO {a:Addr}{n:Nat}(hv:a.ok=true)(hn:n<=a.w):Ok (Do a (n:Int)) fun r=>r=(⟨a.cut n,n⟩,0):=by
 have hw:a.w=8*a.L:=by unfold Addr.w Addr.L;split<;>rfl
 have hL:a.L=16\/a.L=4:=by unfold Addr.L;split<;>simp
 unfold Do
 rw[FB,AA,hv]
 refine .ite (fun h=>by simp at h) fun _=>?_
 have hwid:C5 a=some (a.w:Int):=by unfold C5 Addr.w;split<;>rfl
 refine .join (fun b=>b=false) (fun k hk=>.ite (fun h=>by simp at h;omega) fun _=>?_) fun b hb=>?_
 ·rw[hwid,AA]
  refine hk _ ?_
  simp only[cond_false,decide_eq_false_iff_not]
  omega
 subst hb
 refine .ite (fun h=>by simp at h) fun _=>?_
 refine .bind (Qv hv) fun l hl=>?_
 refine .join (fun l:List UInt8=>l.length=a.L/\val l=a.n/2^(a.w-n)*2^(a.w-n)) (fun k hk=>?_) fun l' hl'=>?_
 ·refine .whileI (fun s:Int×List UInt8=>∃P:Nat,s.1=P/\n<=P/\P<=8*a.L/\s.2.length=a.L/\∀q,q<8*a.L->(s.2.getD (a.L-1-q/8) 0).toNat.testBit (q%8)=(a.n.testBit q&&!decide (8*a.L-P<=q/\q<8*a.L-n)))
   (fun s=>(8*a.L-s.1).toNat) ⟨n,rfl,Nat.le_refl _,by omega,hl.1,fun q hq=>?_⟩ (EJ (by simp only;omega)) ?_
  ·have h1:a.L-1-q/8<a.L:=by omega
   have h2:=hl.2 _ h1
   have h3:a.L-1-(a.L-1-q/8)=q/8:=by omega
   have h4:¬ (8*a.L-n<=q/\q<8*a.L-n):=by omega
   rw[List.getD_eq_getElem?_getD,h2,h3]
   simp only[Option.getD_some,h4,decide_false,Bool.not_false,Bool.and_true]
   unfold Su
   rw[UInt8.toNat_ofNat',Nat.testBit_mod_two_pow,Nat.testBit_div_two_pow,Nat.mod_add_div]
   simp[Nat.mod_lt]
  rintro next ⟨p,l⟩ ⟨P,h1,h2,h3,h4,h5⟩ hnx
  simp only at h1 h4 h5
  subst h1
  have e8:A0 (8*(l.length:Int))=((8*a.L:Nat):Int):=by rw[A3 (by omega)];omega
  refine .ite (fun h=>?_) fun h=>hk _ ?_
  ·rw[e8] at h
   simp only[decide_eq_true_eq] at h
   have ed:A0 (Int.tdiv (P:Int) 8)=((P/8:Nat):Int):=by
    rw[Int.tdiv_eq_ediv_of_nonneg (by omega),A3 (by omega)];omega
   have et:Int.tmod (P:Int) 8=((P%8:Nat):Int):=by rw[Int.tmod_eq_emod_of_nonneg (by omega)];omega
   have hlt:P/8<l.length:=by omega
   rw[ed,C7 hlt,AA,AA]
   refine .bind (Ok.seti (by omega)) fun l' hl'=>?_
   rw[Int.toNat_natCast,et] at hl'
   rw[A3 (by omega)]
   refine hnx _ ⟨P+1,by simp only;omega,by omega,by omega,by simp only;omega,fun q hq=>?_⟩ (by simp only;omega)
   simp only
   rw[hl'.1]
   by_cases hb:a.L-1-q/8=P/8
   ·have hx:=h5 q hq
    rw[hb,List.getD_eq_getElem?_getD,X15 hlt,Option.getD_some] at hx
    rw[hb,List.getD_eq_getElem?_getD,List.getElem?_set_self (by omega),Option.getD_some,YH (Nat.mod_lt _ (by omega)) (Nat.mod_lt _ (by omega)),hx,Bool.and_assoc]
    congr 1
    rw[X28]
    simp only[X27,Bool.not_eq_true',decide_eq_false_iff_not]
    omega
   have hx:=h5 q hq
   rw[List.getD_eq_getElem?_getD] at hx
   rw[List.getD_eq_getElem?_getD,List.getElem?_set_ne (by omega),hx]
   congr 2
   rw[decide_eq_decide]
   omega
  rw[e8] at h
  simp only[decide_eq_true_eq] at h
  have hP:P=8*a.L:=by omega
  subst hP
  refine⟨h4,?_⟩
  apply Nat.eq_of_testBit_eq
  intro q
  rw[VE,a.cut_bit hn,h4]
  by_cases hq:q<8*a.L
  ·rw[if_pos hq,h5 q hq]
   congr 1
   rw[X28]
   simp only[Bool.not_eq_true',decide_eq_false_iff_not,decide_eq_true_eq]
   omega
  rw[if_neg hq]
  have:a.n.testBit q=false:=Nat.testBit_lt_two_pow (Nat.lt_of_lt_of_le (Addr.n_lt hv) (Nat.pow_le_pow_right (by omega) (by omega)))
  rw[this,Bool.false_and]
 refine .bind (MU (by omega)) fun r hr=>?_
 subst hr
 refine .ret ?_
 have e1:(l'.length==16)=a.V6:=by
  rw[hl'.1]
  unfold Addr.L
  cases a.V6<;>rfl
 have e2:val l'%2^128=val l':=by
  refine Nat.mod_eq_of_lt ?_
  rw[hl'.2]
  exact Nat.lt_of_le_of_lt (Nat.div_mul_le_self _ _) (Nat.lt_of_lt_of_le (Addr.n_lt hv) (Nat.pow_le_pow_right (by omega) (by rw[hw];omega)))
 rw[e1,e2,hl'.2,Addr.cut]
theorem Qp {a:Addr}{n:Int}(hn:¬ (a.ok=true/\0<=n/\n<=a.w)):Ok (Do a n) fun r=>r.2≠0:=by
 have hwid:C5 a=some (a.w:Int):=by unfold C5 Addr.w;split<;>rfl
 unfold Do
 rw[FB,AA]
 refine .ite (fun _=>.ret (by decide)) fun hv=>?_
 have hv:a.ok=true:=by simpa using hv
 refine .join (fun b=>b=true) (fun k hk=>.ite (fun _=>hk _ rfl) fun h=>?_) fun b hb=>?_
 ·rw[hwid,AA]
  refine hk _ ?_
  show decide (n > (a.w:Int))=true
  simp at h ⊢
  have:¬ (0<=n/\n<=a.w):=fun q=>hn ⟨hv,q⟩
  omega
 subst hb
 exact .ite (fun _=>.ret (by decide)) fun h=>absurd rfl h
theorem HE (a:Addr)(n:Int) :∃r e,Do a n=some (r,e)/\((a.ok=true/\0<=n/\n<=a.w)/\e=0/\r=⟨a.cut n.toNat,n⟩\/¬ (a.ok=true/\0<=n/\n<=a.w)/\e≠0):=by
 by_cases h:a.ok=true/\0<=n/\n<=a.w
 ·obtain⟨k,rfl⟩ :∃k:Nat,n=k:=⟨n.toNat,by omega⟩
  obtain⟨r,h1,h2⟩:=SO h.1 (n:=k) (by omega)
  exact⟨_,_,by rw[h1,h2],.inl ⟨h,rfl,by rw[Int.toNat_natCast]⟩⟩
 obtain⟨r,h1,h2⟩:=Qp h
 exact⟨r.1,r.2,h1,.inr ⟨h,h2⟩⟩
instance (a:Addr) (n:Int):Tt (Do a n):=by
 obtain⟨r,e,h,_⟩:=HE a n
 exact⟨_,h⟩
def inB (p:JAA)(x:Addr):Bool:=decide (0<=p.Len/\p.Len<=x.w)&&Addr.eqd (x.cut p.Len.toNat) p.Addr
instance (p:JAA):Tt (BL p):=by unfold BL;exact Tt.auto
structure SmA (n:Nat)(a:JAG):Prop where
 p:a.Path.length<=n
 s :∀s∈a.Path,s.ASNs.length<=n
 c:a.Communities.length<=n
 l:a.JAH.length<=n
 o:a.Other.length<=n
 d :∀u∈a.Other,u.Data.length<=n
theorem SmA.mono {n m:Nat}{a:JAG}(h:SmA n a)(hnm:n<=m):SmA m a:=
 ⟨Nat.le_trans h.p hnm,fun s hs=>Nat.le_trans (h.s s hs) hnm,Nat.le_trans h.c hnm,Nat.le_trans h.l hnm,Nat.le_trans h.o hnm,fun u hu=>Nat.le_trans (h.d u hu) hnm⟩
theorem SmA.zero (n:Nat)(x:Addr)(a b c d:Int):SmA n ⟨a,[],x,b,c,d,[],[],[]⟩:=⟨Nat.zero_le _,fun _ h=>absurd h (by simp),Nat.zero_le _,Nat.zero_le _,Nat.zero_le _,fun _ h=>absurd h (by simp)⟩
theorem Wg {K V:Type}[BEq K](hl :∀a b:K,(a==b)=true↔a=b){l:List (K×V)}{k k':K}{v:V}:DI (CW l k v) k'=cond (k'==k) (some v) (DI l k'):=by
 induction l with
 | nil=>simp only[CW,DI];cases k'==k<;>rfl
 | cons p l ih=>
  simp only[CW]
  cases h:(k==p.1)
  ·simp only[Bool.false_eq_true,if_false,DI,ih]
   cases h2:(k'==p.1)
   ·simp
   have h3:(k'==k)=false:=by
    cases h4:(k'==k)
    ·rfl
    have e1:=(hl _ _).1 h2;have e2:=(hl _ _).1 h4
    rw[<- e2,e1,(hl _ _).2 rfl] at h
    simp at h
   rw[h3];simp
  simp only[if_true,DI]
  have e:=(hl _ _).1 h
  rw[<- e]
  cases k'==k<;>simp
theorem mget_mset {V:Type}{l:List (Int×V)}{k k':Int}{v:V}:DI (CW l k v) k'=if k'=k then some v else DI l k':=by
 rw[Wg (fun a b=>beq_iff_eq)]
 by_cases h:k'=k
 ·rw[if_pos h,h];simp
 rw[if_neg h,show (k'==k)=false by simpa using h];rfl
def Mb (n:Nat)(ks:List Int)(m:List (Int×List UInt8)):Prop:=(∀k v,DI m k=some v->v.length<=n)/\∀k∈ks,DI m k=none
theorem Mb.set {n:Nat}{ks ks':List Int}{m:List (Int×List UInt8)}{k:Int}{v:List UInt8}(h:Mb n ks m)(hv:v.length<=n)(hk :∀q∈ks',q∈ks/\q≠k):Mb n ks' (CW m k v):=by
 refine⟨fun q u hq=>?_,fun q hq=>?_⟩
 ·rw[mget_mset] at hq
  split at hq
  ·obtain rfl:=X25 hq;exact hv
  exact h.1 _ _ hq
 rw[mget_mset,if_neg (hk q hq).2]
 exact h.2 q (hk q hq).1
theorem Mb.sub {n:Nat}{ks ks':List Int}{m:List (Int×List UInt8)}(h:Mb n ks m)(hk :∀q∈ks',q∈ks):Mb n ks' m:=⟨h.1,fun q hq=>h.2 q (hk q hq)⟩
def L2 (p:JAA):Prop:=p.Addr.ok=true/\0<=p.Len/\p.Len<=p.Addr.w/\p.Addr.cut p.Len.toNat=p.Addr
theorem Addr.eqd_iff (a b:Addr):Addr.eqd a b=true↔a=b:=by
 unfold Addr.eqd
 simp only[X27,beq_iff_eq,Bool.and_true,Int.natCast_inj,UInt64.toNat_inj]
 constructor
 ·rintro⟨h1,h2,h3⟩;cases a;cases b;simp_all
 rintro rfl;exact⟨rfl,rfl,rfl⟩
theorem JAA.eqd_iff (a b:JAA):JAA.eqd a b=true↔a=b:=by
 have h:=Addr.eqd_iff a.Addr b.Addr
 unfold Addr.eqd at h
 unfold JAA.eqd
 rw[X27,h]
 simp only[Bool.and_true,beq_iff_eq]
 constructor
 ·rintro⟨h1,h2⟩;cases a;cases b;simp_all
 rintro rfl;exact⟨rfl,rfl⟩
theorem IN (p:JAA):Ok (BL p) fun b=>b=true↔L2 p:=by
 obtain⟨r,e,h1,h2⟩:=HE p.Addr p.Len
 unfold BL
 rw[h1,AA]
 dsimp only
 unfold L2
 rcases h2 with ⟨h3,rfl,rfl⟩|⟨h3,h4⟩
 ·refine .join (fun b=>b=true↔p.Addr.cut p.Len.toNat=p.Addr) (fun k hk=>.ite (fun _=>hk _ ?_) fun h=>absurd rfl h) fun b hb=>.ret (by rw[hb];exact⟨fun h=>⟨h3.1,h3.2.1,h3.2.2,h⟩,fun h=>h.2.2.2⟩)
  show JAA.eqd p _=true↔_
  rw[JAA.eqd_iff]
  exact⟨fun h=>(congrArg JAA.Addr h).symm,fun h=>by rw[h]⟩
 refine .join (fun b=>b=false) (fun k hk=>.ite (fun h=>absurd (by simpa using h) h4) fun _=>hk _ rfl) fun b hb=>.ret ⟨fun h=>by rw[hb] at h;simp at h,fun h=>absurd ⟨h.1,h.2.1,h.2.2.1⟩ h3⟩
def Dk (d:JAL):Prop:=0<=d.At/\d.L.length<=9223372036854775807
def Blk (p:JAA):Prop:=BL p=some true/\(p.Len=16/\p.Addr.V6=false\/p.Len=48/\p.Addr.V6=true)
theorem Blk.good {p:JAA}(h:Blk p):L2 p:=by
 obtain⟨b,h1,h2⟩:=IN p
 rw[h.1] at h1
 exact h2.1 (X25 h1).symm
def dj:ByteArray:=ByteArray.mk (List.toArray (List.cons 65 (List.cons 76 (List.cons 76 List.nil))))
def eA:ByteArray:=ByteArray.mk (List.toArray (List.cons 79 (List.cons 78 (List.cons 69 List.nil))))
theorem ZX:GT=some ⟨-1,[],⟨false,0,0⟩,-1,-1,-1,[],[],[]⟩:=rfl
def Sh (p:List JAE)(o:List JAJ):Prop:=(p.length<=4/\∀s∈p,s.ASNs.length<=20)/\o.length<=4/\∀u∈o,u.Data.length<=4
theorem Sh.a {p:List JAE}{o:List JAJ}(h:Sh p o){a b c d:Int}{x:Addr}{e:List JAC}{f:List JAH}(he:e.length<=8)(hf:f.length<=8):SmA 1000 ⟨a,p,x,b,c,d,e,f,o⟩:=
 ⟨by have:=h.1.1;simp only;omega,fun s hs=>by have:=h.1.2 s hs;omega,by simp only;omega,by simp only;omega,by have:=h.2.1;simp only;omega,fun u hu=>by have:=h.2.2 u hu;omega⟩
theorem sh1 {b:Bool}{l:List Int}(h:l.length<=20):Sh [⟨b,l⟩] []:=⟨⟨by simp,by simpa using h⟩,by simp,by simp⟩
def ltI (a b:Int):Bool:=decide (a<b)
theorem UC (a:Int):ltI a a=false:=by simp[ltI]
theorem Wh (a b c:Int)(h1:ltI a b=true)(h2:ltI b c=true):ltI a c=true:=by simp only[ltI,decide_eq_true_eq] at *;omega
theorem aS (a b:Int)(h:ltI a b=false):a=b\/ltI b a=true:=by simp only[ltI,decide_eq_true_eq,decide_eq_false_iff_not] at *;omega
end Go.AX.Q24
end
section
namespace Go.AX
section
variable {α ρ:Type}
def chainB (lt:α->α->Bool):List α->Bool
 | x::y::t=>lt x y&&chainB lt (y::t)
 | _=>true
theorem KX (lt:α->α->Bool)(x y:α)(t:List α):chainB lt (x::y::t)=(lt x y&&chainB lt (y::t)):=rfl
theorem Qb (lt:α->α->Bool)(x:α):chainB lt [x]=true:=rfl
theorem Oh {lt:α->α->Bool}(htr :∀a b c,lt a b=true->lt b c=true->lt a c=true) :∀{l:List α},chainB lt l=true↔l.Pairwise fun a b=>lt a b=true
 | []=>by simp[chainB]
 | [x]=>by simp[chainB]
 | x::y::t=>by
  rw[KX,X27,Oh htr (l:=y::t),List.pairwise_cons (a:=x)]
  constructor
  ·rintro⟨h1,h2⟩
   refine⟨fun z hz=>?_,h2⟩
   rcases List.mem_cons.1 hz with e | hz
   ·rw[e];exact h1
   exact htr _ _ _ h1 ((List.pairwise_cons.1 h2).1 z hz)
  rintro⟨h1,h2⟩
  exact⟨h1 y (by simp),h2⟩
theorem ax {ok:α->Bool}{lt:α->α->Bool}{l:List α}{K:Unit->Option ρ}{F:Option ρ}{body:(Unit->Option ρ)->α->Nat->Unit->Option ρ}(hl:l.length<=4611686018427387904)
  (h0 :∀next x,x∈l->body next x 0 ()=if ok x then next () else F)
  (h1 :∀next x y i,x∈l->y∈l->geti l (A0 (((i+1:Nat):Int)-1))=some y->body next x (i+1) ()=if ok x&&lt y x then next () else F) :
  Aa K body l 0 ()=if l.all ok&&chainB lt l then K () else F:=by
 have key :∀(t p:List α) (y:α),l=p++y::t->Aa K body t (p.length+1) ()=if t.all ok&&chainB lt (y::t) then K () else F:=by
  intro t
  induction t with
  | nil=>intro p y _;rw[Qb];rfl
  | cons x t ih=>
   intro p y e
   show body (fun s=>Aa K body t (p.length+1+1) s) x (p.length+1) ()=_
   have hlen:p.length<l.length:=by rw[e];simp
   rw[h1 _ x y p.length (by rw[e];simp) (by rw[e];simp) (by
    rw[A3 (by omega),show ((p.length+1:Nat):Int)-1=(p.length:Int) by omega,e]
    exact QR p y (x::t))]
   have:=ih (p++[y]) x (by rw[e];simp)
   rw[X11,X22] at this
   rw[this,KX,List.all_cons]
   generalize chainB lt (x::t)=c1
   generalize t.all ok=c2
   cases ok x<;>cases lt y x<;>cases c1<;>cases c2<;>rfl
 match l,h0,h1,key with
 | [],_,_,_=>rfl
 | x::t,h0,_,key=>
  show body (fun s=>Aa K body t (0+1) s) x 0 ()=_
  rw[h0 _ x (by simp)]
  have:=key t [] x rfl
  rw[X13] at this
  rw[this,List.all_cons]
  generalize chainB lt (x::t)=c1
  generalize t.all ok=c2
  cases ok x<;>cases c1<;>cases c2<;>rfl
theorem dR {σ:Type}{g:σ->α->σ}{ok:α->Bool}{lt:α->α->Bool}{l:List α}{s0:σ}{K:σ->Option ρ}{F:Option ρ}{body:(σ->Option ρ)->α->Nat->σ->Option ρ}(hl:l.length<=4611686018427387904)
  (h0 :∀next x s,x∈l->body next x 0 s=if ok x then next (g s x) else F)
  (h1 :∀next x y i s,x∈l->y∈l->geti l (A0 (((i+1:Nat):Int)-1))=some y->body next x (i+1) s=if ok x&&lt y x then next (g s x) else F) :
  Aa K body l 0 s0=if l.all ok&&chainB lt l then K (l.foldl g s0) else F:=by
 have key :∀(t p:List α) (y:α) (s:σ),l=p++y::t->Aa K body t (p.length+1) s=if t.all ok&&chainB lt (y::t) then K (t.foldl g s) else F:=by
  intro t
  induction t with
  | nil=>intro p y s _;rw[Qb];rfl
  | cons x t ih=>
   intro p y s e
   show body (fun s=>Aa K body t (p.length+1+1) s) x (p.length+1) s=_
   have hlen:p.length<l.length:=by rw[e];simp
   rw[h1 _ x y p.length s (by rw[e];simp) (by rw[e];simp) (by
    rw[A3 (by omega),show ((p.length+1:Nat):Int)-1=(p.length:Int) by omega,e]
    exact QR p y (x::t))]
   have:=ih (p++[y]) x (g s x) (by rw[e];simp)
   rw[X11,X22] at this
   rw[this,KX,List.all_cons,List.foldl_cons]
   generalize chainB lt (x::t)=c1
   generalize t.all ok=c2
   cases ok x<;>cases lt y x<;>cases c1<;>cases c2<;>rfl
 match l,h0,h1,key with
 | [],_,_,_=>rfl
 | x::t,h0,_,key=>
  show body (fun s=>Aa K body t (0+1) s) x 0 s0=_
  rw[h0 _ x s0 (by simp)]
  have:=key t [] x (g s0 x) rfl
  rw[X13] at this
  rw[this,List.all_cons,List.foldl_cons]
  generalize chainB lt (x::t)=c1
  generalize t.all ok=c2
  cases ok x<;>cases c1<;>cases c2<;>rfl
end
end Go.AX
end
section
namespace Go.AX.Q24
open Go Go.AX
theorem Lj (a b:Int):cmp_Compare_int a b=some (YJ a b):=by
 unfold cmp_Compare_int cmp_isNaN_int YJ
 simp only[AA,bne_self_eq_false,Bool.false_eq_true,if_false,decide_eq_true_eq,gt_iff_lt]
 split<;>(try split)<;>rfl
theorem W8 (l:List Int):Ep l=some (orI l):=by
 unfold Ep
 rw[AC]
 have key :∀(l:List Int) (i:Nat),Aa (σ:=Unit) (fun _=>some (0:Int)) (fun next x _ _=>if (x != 0)=true then some x else next ()) l i ()=some (orI l):=by
  intro l
  induction l with
  | nil=>intro i;rfl
  | cons x t ih=>
   intro i
   show (if (x != 0)=true then some x else Aa _ _ t (i+1) ())=_
   rw[ih]
   rw[Vw]
   by_cases h:x=0<;>simp[h]
 exact key l 0
def X9 (c:JAC):List Int:=[c.A,c.B]
def YX (c:JAH):List Int:=[c.A,c.B,c.C]
theorem ZR (a b:JAC):(X9 a).length=(X9 b).length:=rfl
theorem Zh (a b:JAH):(YX a).length=(YX b).length:=rfl
def Ux:JAC->JAC->Bool:=ltK X9
def Uy:JAH->JAH->Bool:=ltK YX
theorem aT (a b c:JAC)(h1:Ux a b=true)(h2:Ux b c=true):Ux a c=true:=ZF ZR a b c h1 h2
theorem al (a b c:JAH)(h1:Uy a b=true)(h2:Uy b c=true):Uy a c=true:=ZF Zh a b c h1 h2
theorem eK (a b:JAC):JAC.eqd a b=true↔a=b:=by
 unfold JAC.eqd
 simp only[X27,Bool.and_true,beq_iff_eq]
 constructor
 ·rintro⟨h1,h2⟩;cases a;cases b;simp_all
 rintro rfl;exact⟨rfl,rfl⟩
theorem aB (a b:JAC):D5 a b=some (Eu (X9 a) (X9 b)):=by
 unfold D5
 rw[Lj,AA,Lj,AA,W8,AA,Ll,Ll]
 rfl
theorem Z4 (a b:JAH):CC a b=some (Eu (YX a) (YX b)):=by
 unfold CC
 rw[Lj,AA,Lj,AA,Lj,AA,W8,AA,Ll,Ll,Ll]
 rfl
theorem Zr (a b:JAC):F7 a b=some (Ux a b):=by
 unfold F7 Ux ltK X9
 rw[AC]
 simp only[Eu,decide_eq_true_eq,beq_iff_eq,cond_true,cond_false]
 by_cases a1:a.A < b.A<;>by_cases a2:a.A=b.A<;>by_cases a3:b.A < a.A<;>by_cases b1:a.B < b.B<;>by_cases b3:b.B < a.B<;>first | (exfalso;omega)|simp[a1,a2,a3,b1,b3]
theorem Zf (a b:JAH):DG a b=some (Uy a b):=by
 unfold DG Uy ltK YX
 simp only[AC]
 simp only[Eu,decide_eq_true_eq,beq_iff_eq,cond_true,cond_false]
 by_cases a1:a.A < b.A<;>by_cases a2:a.A=b.A<;>by_cases a3:b.A < a.A<;>by_cases b1:a.B < b.B<;>by_cases b2:a.B=b.B<;>by_cases b3:b.B < a.B<;>by_cases c1:a.C < b.C<;>by_cases c3:b.C < a.C<;>first | (exfalso;omega)|simp[a1,a2,a3,b1,b2,b3,c1,c3]
def inR (m x:Int):Bool:=decide (0<=x)&&decide (x<=m)
def okC (c:JAC):Bool:=inR 65535 c.A&&inR 65535 c.B
def okL (c:JAH):Bool:=inR 4294967295 c.A&&(inR 4294967295 c.B&&inR 4294967295 c.C)
theorem Yb (c:JAC):FA c=some (okC c):=by
 unfold FA okC inR
 rw[AC]
 simp only[decide_eq_true_eq,cond_true,ge_iff_le]
 by_cases a1:0<=c.A<;>by_cases a2:c.A<=65535<;>by_cases a3:0<=c.B<;>by_cases a4:c.B<=65535<;>simp[a1,a2,a3,a4]
theorem YO (c:JAH):CZ c=some (okL c):=by
 unfold CZ okL inR
 rw[AC]
 simp only[decide_eq_true_eq,cond_true,ge_iff_le]
 by_cases a1:0<=c.A<;>by_cases a2:c.A<=4294967295<;>by_cases a3:0<=c.B<;>by_cases a4:c.B<=4294967295<;>by_cases a5:0<=c.C<;>by_cases a6:c.C<=4294967295<;>simp[a1,a2,a3,a4,a5,a6]
theorem mmR {g:Int->Int->Int}{x:Int}{t:List Int}(hl:t.length<=1000000000) :
  AB (τ:=Int) (fun k2=>CY (σ:=Int×Int) (fun next3 p=>match p with
   | (v4,v5)=>if (decide (v5<((x::t).length:Int)))=true then Option.bind (geti (x::t) v5) fun v6=>next3 (g v4 v6,(A0 (v5+1))) else k2 v4) fuel (x,1)) (fun v=>some v)=some (t.foldl g x):=by
 rw[AC]
 refine (JR (fun s:Int×Int=>∃j:Nat,s.2=(j+1:Nat)/\j<=t.length) (fun s=>((x::t).length-s.2).toNat) (fun s=>some ((t.drop (s.2.toNat-1)).foldl g s.1)) ?_ fuel (x,1) ⟨0,rfl,Nat.zero_le _⟩ (EJ (by simp;omega))).trans rfl
 rintro next ⟨m,i⟩ ⟨j,h1,h2⟩ hn
 dsimp only at h1
 subst h1
 dsimp only
 have e1:((j+1:Nat):Int).toNat-1=j:=by omega
 rw[e1]
 by_cases hj:j<t.length
 ·rw[if_pos (by simp only[X12,decide_eq_true_eq];omega),C7 (by simp;omega),AA,A3 (by omega)]
  rw[hn _ ⟨j+1,by simp,by omega⟩ (by simp only[X12];omega)]
  have e2:(((j+1:Nat):Int)+1).toNat-1=j+1:=by omega
  simp only[e2,List.getElem_cons_succ]
  rw[List.drop_eq_getElem_cons hj,List.foldl_cons]
 rw[if_neg (by simp only[X12,decide_eq_true_eq];omega),List.drop_eq_nil_of_le (by omega)]
 rfl
def mn (a b:Int):Int:=if b<a then b else a
def mx (a b:Int):Int:=if b > a then b else a
theorem bz {x:Int}{t:List Int}(hl:t.length<=1000000000):Dp (x::t)=some (t.foldl mn x):=by
 unfold Dp
 rw[if_neg (by simp;omega),show geti (x::t) 0=some x from C7 (l:=x::t) (i:=0) (by simp),AA]
 exact mmR (g:=mn) hl
theorem cN {x:Int}{t:List Int}(hl:t.length<=1000000000):Dl (x::t)=some (t.foldl mx x):=by
 unfold Dl
 rw[if_neg (by simp;omega),show geti (x::t) 0=some x from C7 (l:=x::t) (i:=0) (by simp),AA]
 exact mmR (g:=mx) hl
theorem Y3 (n:Int) :∀(t:List Int) (x:Int),decide (n<=t.foldl mn x)=(x::t).all fun y=>decide (n<=y)
 | [],x=>by rw[List.all_cons,List.all_nil,Bool.and_true];rfl
 | y::t,x=>by
  rw[List.foldl_cons,Y3 n t (mn x y)]
  simp only[List.all_cons]
  unfold mn
  rw[X28]
  simp only[X27,decide_eq_true_eq]
  constructor
  ·rintro⟨h1,h2⟩;split at h1<;>exact⟨by omega,by omega,h2⟩
  rintro⟨h1,h2,h3⟩;split<;>exact⟨by omega,h3⟩
theorem Zp (n:Int) :∀(t:List Int) (x:Int),decide (t.foldl mx x<=n)=(x::t).all fun y=>decide (y<=n)
 | [],x=>by rw[List.all_cons,List.all_nil,Bool.and_true];rfl
 | y::t,x=>by
  rw[List.foldl_cons,Zp n t (mx x y)]
  simp only[List.all_cons]
  unfold mx
  rw[X28]
  simp only[X27,decide_eq_true_eq]
  constructor
  ·rintro⟨h1,h2⟩;split at h1<;>exact⟨by omega,by omega,h2⟩
  rintro⟨h1,h2,h3⟩;split<;>exact⟨by omega,h3⟩
theorem Rk {m x:Int}{t:List Int}(hl:t.length<=1000000000):Df m (x::t)=some ((x::t).all (inR m)):=by
 unfold Df
 rw[AC,bz hl,AA,cN hl]
 have e:(x::t).all (inR m)=(decide (0<=t.foldl mn x)&&decide (t.foldl mx x<=m)):=by
  rw[Y3,Zp,X28,X27]
  simp only[List.all_eq_true,inR,X27]
  exact⟨fun h=>⟨fun y hy=>(h y hy).1,fun y hy=>(h y hy).2⟩,fun h y hy=>⟨h.1 y hy,h.2 y hy⟩⟩
 rw[e]
 by_cases h:0<=t.foldl mn x
 ·rw[if_pos (by simpa using h),AA,decide_eq_true h];rfl
 rw[if_neg (by simpa using h),decide_eq_false h];rfl
theorem Yr (c:JAC):FQ c=some (okC c):=by
 unfold FQ
 rw[Rk (by simp),AA]
 simp[okC]
theorem ZL (c:JAH):DR c=some (okL c):=by
 unfold DR
 rw[Rk (by simp),AA]
 simp[okL]
def Jw (l:List JAC):Bool:=l.all okC&&chainB Ux l&&decide (l.length<=64)
def Jd (l:List JAH):Bool:=l.all okL&&chainB Uy l&&decide (l.length<=64)
theorem bP {X:Type}{key:X->List Int}(a b:X):decide (Eu (key a) (key b) ≥ 0)=!ltK key a b:=by
 unfold ltK
 rw[X28]
 simp
theorem aI {α:Type}{ok:α->Bool}{lt:α->α->Bool}{l:List α}(hl:l.length<=1000000000){body:(Unit->Option Bool)->α->Nat->Unit->Option Bool}
  (h :∀next x i,body next x i ()=AB (τ:=Bool) (fun k5=>Option.bind (some (ok x)) fun v6=>if (!v6)=true then k5 true else if (decide ((i:Int) > 0))=true then Option.bind (geti l (A0 ((i:Int)-1))) fun v7=>Option.bind (some (lt v7 x)) fun v8=>k5 (cond false true (cond true (!v8) false)) else k5 false) fun v9=>if v9=true then some false else next ()) :
  (AB (τ:=Unit) (fun k1=>Aa (σ:=Unit) (fun _=>k1 ()) body l 0 ()) fun _=>some (decide ((l.length:Int)<=64)))=some (l.all ok&&chainB lt l&&decide (l.length<=64)):=by
 rw[AC,ax (ok:=ok) (lt:=lt) (F:=some false) (by omega)]
 ·have e:decide ((l.length:Int)<=64)=decide (l.length<=64):=by rw[X28];simp;omega
  rw[e]
  generalize (l.all ok&&chainB lt l)=b
  cases b<;>rfl
 ·intro next x _
  rw[h,AC,AA]
  cases ok x<;>rfl
 intro next x y i _ _ hg
 rw[h,AC,AA,hg,AA,AA,if_pos (show decide (((i+1:Nat):Int) > 0)=true by simp)]
 cases ok x<;>cases lt y x<;>rfl
theorem Qa {l:List JAC}(hl:l.length<=1000000000):GH l=some (Jw l):=by
 unfold GH Jw
 exact aI hl fun next x i=>by simp only[Yb,Zr]
theorem Ly {l:List JAH}(hl:l.length<=1000000000):Dj l=some (Jd l):=by
 unfold Dj Jd
 exact aI hl fun next x i=>by simp only[YO,Zf]
theorem M7 {l:List JAC}(hl:l.length<=1000000000):Dy l=some (Jw l):=by
 unfold Dy Af Jw
 rw[aI (ok:=okC) (lt:=Ux) hl fun next x i=>by simp only[Yr,aB,AA,bP];rfl]
 rfl
theorem JB {l:List JAH}(hl:l.length<=1000000000):B0 l=some (Jd l):=by
 unfold B0 AZ Jd
 rw[aI (ok:=okL) (lt:=Uy) hl fun next x i=>by simp only[ZL,Z4,AA,bP];rfl]
 rfl
theorem XF {l:List JAC}:Jw l=true↔(∀c∈l,okC c=true)/\(l.Pairwise fun a b=>Ux a b=true)/\l.length<=64:=by
 unfold Jw
 rw[X27,X27,Oh aT,List.all_eq_true,decide_eq_true_eq,and_assoc]
theorem W5 {l:List JAH}:Jd l=true↔(∀c∈l,okL c=true)/\(l.Pairwise fun a b=>Uy a b=true)/\l.length<=64:=by
 unfold Jd
 rw[X27,X27,Oh al,List.all_eq_true,decide_eq_true_eq,and_assoc]
theorem ar {α:Type}{e:α->α->Bool}{x:α} :∀(l:List α) (i:Nat),Aa (σ:=Unit) (fun _=>some false) (fun (next:Unit->Option Bool) (y:α) _ _=>if e y x=true then some true else next ()) l i ()=some (l.any fun y=>e y x)
 | [],_=>rfl
 | y::t,i=>by
  show (if e y x=true then some true else Aa _ _ t (i+1) ())=_
  rw[ar t (i+1),List.any_cons]
  cases e y x<;>rfl
theorem Td (l:List JAC)(c:JAC):HA l c=some (l.any fun y=>JAC.eqd y c):=by
 unfold HA
 rw[AC]
 exact ar l 0
theorem aC {α:Type}{l:List α}{n:Nat}(h:n<=l.length):part l 0 (n:Int)=some (l.take n):=by
 have:=Vv (l:=l) (a:=0) (b:=n) (by omega) h
 simpa using this
theorem Qg {α:Type}{l:List α}{n:Nat}(h:n<=l.length):part l (n:Int) (l.length:Int)=some (l.drop n):=by
 rw[Vv h (Nat.le_refl _),List.take_of_length_le (by simp)]
end Go.AX.Q24
end
section
end
section
namespace Go.AX.Q24
open Go Go.AX
section
variable {ρ:Type} {F:Option ρ} {next:Int×Bool×UInt64×UInt64×Int×Int×Int×(List JAE)×(List JAC)×(List JAH)->Option ρ} {x:JAJ} {a:JAG}
end
end Go.AX.Q24
end
section
namespace Go.AX.Q24
open Go Go.AX
def B8 (n:Int):Bool:=decide (1<=n)&&decide (n<=4294967295)
def Pe (s:JAE):Bool:=decide (s.ASNs.length≠0)&&(s.ASNs.all B8&&chainB (fun a b=>!s.Set || ltI a b) s.ASNs)
def sgl (a b:JAE):Bool:=b.Set || a.Set
def tot (p:List JAE):Nat:=p.foldl (fun n s=>n+s.ASNs.length) 0
theorem Zo (p:List JAE)(n:Nat):p.foldl (fun n s=>n+s.ASNs.length) n=n+tot p:=by
 unfold tot
 induction p generalizing n with
 | nil=>rfl
 | cons s t ih=>rw[List.foldl_cons,List.foldl_cons,ih,ih (0+_)];omega
theorem HV (s:JAE)(p:List JAE):tot (s::p)=s.ASNs.length+tot p:=by
 conv=>lhs;unfold tot
 rw[List.foldl_cons,Zo];omega
theorem UY {p:List JAE}{s:JAE}(h:s∈p):s.ASNs.length<=tot p:=by
 induction p with
 | nil=>simp at h
 | cons x t ih=>
  rw[HV]
  rcases List.mem_cons.1 h with rfl | h
  ·omega
  have:=ih h;omega
def F4 (p:List JAE):Bool:=p.all Pe&&chainB sgl p&&decide (tot p<=64)
theorem Xv :∀(p:List JAE) (n:Nat),n+tot p<=4611686018427387904->p.foldl (fun (v:Int) s=>A0 (v+(s.ASNs.length:Int))) (n:Int)=((n+tot p:Nat):Int)
 | [],n,_=>rfl
 | s::t,n,h=>by
  rw[HV] at h
  rw[List.foldl_cons,HV,A3 (by omega),show (n:Int)+(s.ASNs.length:Int)=((n+s.ASNs.length:Nat):Int) by omega,Xv t _ (by omega)]
  congr 1
  omega
theorem X6 {s:JAE}(hl:s.ASNs.length<=4611686018427387904){K:Unit->Option Bool}{body:(Unit->Option Bool)->Int->Nat->Unit->Option Bool}
  (hb :∀next x i,body next x i ()=AB (τ:=Bool) (fun k14=>if (!B8 x)=true then k14 true else if s.Set=true then if (cond true (decide ((i:Int) > 0)) false)=true then Option.bind (geti s.ASNs (A0 ((i:Int)-1))) fun v15=>k14 (cond false true (cond true (decide (v15 ≥ x)) false)) else k14 false else k14 false) fun v16=>if v16=true then some false else next ()) :
  Aa K body s.ASNs 0 ()=if s.ASNs.all B8&&chainB (fun a b=>!s.Set || ltI a b) s.ASNs then K () else some false:=by
 refine ax (by omega) (fun next x _=>?_) fun next x y i _ _ hg=>?_
 ·rw[hb,AC]
  cases B8 x<;>cases s.Set<;>rfl
 rw[hb,AC,hg,AA]
 have e:decide (((i+1:Nat):Int) > 0)=true:=by simp
 have e2:decide (y ≥ x)=!ltI y x:=by unfold ltI;rw[X28];simp
 rw[e,e2]
 cases B8 x<;>cases s.Set<;>cases ltI y x<;>rfl
theorem S3 {p:List JAE}(hl:p.length<=4611686018427387904)(ht:tot p<=4611686018427387904){body:(Int->Option Bool)->JAE->Nat->Int->Option Bool}{inner:JAE->(Unit->Option Bool)->Int->Nat->Unit->Option Bool}
  (hb :∀next x i v,body next x i v=AB (τ:=Unit) (fun k6=>AB (τ:=Bool) (fun k7=>if ((x.ASNs.length:Int)==0)=true then k7 true else if (decide ((i:Int) > 0))=true then if (cond true (!x.Set) false)=true then Option.bind (geti p (A0 ((i:Int)-1))) fun v8=>k7 (cond false true (cond true (!v8.Set) false)) else k7 false else k7 false) fun v9=>if v9=true then some false else AB (τ:=Unit) (fun k10=>Aa (σ:=Unit) (fun _=>k10 ()) (inner x) x.ASNs 0 ()) fun _=>k6 ()) fun _=>next (A0 (v+(x.ASNs.length:Int))))
  (hi :∀s next x i,inner s next x i ()=AB (τ:=Bool) (fun k14=>if (!B8 x)=true then k14 true else if s.Set=true then if (cond true (decide ((i:Int) > 0)) false)=true then Option.bind (geti s.ASNs (A0 ((i:Int)-1))) fun v15=>k14 (cond false true (cond true (decide (v15 ≥ x)) false)) else k14 false else k14 false) fun v16=>if v16=true then some false else next ()) :
  (AB (τ:=Int) (fun k1=>Aa (σ:=Int) (fun v=>k1 v) body p 0 0) fun v=>some (decide (v<=64)))=some (F4 p):=by
 rw[AC]
 have hin :∀s∈p,∀K:Unit->Option Bool,Aa K (inner s) s.ASNs 0 ()=if s.ASNs.all B8&&chainB (fun a b=>!s.Set || ltI a b) s.ASNs then K () else some false:=fun s hs K=>X6 (by have:=UY hs;omega) (hi s)
 refine (dR (g:=fun (v:Int) s=>A0 (v+(s.ASNs.length:Int))) (ok:=Pe) (lt:=sgl) (F:=some false) (by omega) (fun next x v hx=>?_) fun next x y i v hx _ hg=>?_).trans ?_
 ·rw[hb,AC,AC]
  unfold Pe
  by_cases h0:x.ASNs.length=0
  ·have e:((x.ASNs.length:Int)==0)=true:=by simp[h0]
   rw[if_pos e]
   simp[h0]
  have e:¬ ((x.ASNs.length:Int)==0)=true:=by simpa using h0
  rw[if_neg e,if_neg (by simp)]
  show (if false=true then _ else _)=_
  rw[if_neg (by decide),AC,hin x hx]
  simp only[h0,ne_eq,not_false_eq_true,decide_true,Bool.true_and]
 ·rw[hb,AC,AC,hg]
  unfold Pe sgl
  by_cases h0:x.ASNs.length=0
  ·have e:((x.ASNs.length:Int)==0)=true:=by simp[h0]
   rw[if_pos e]
   simp[h0]
  have e:¬ ((x.ASNs.length:Int)==0)=true:=by simpa using h0
  have e2:decide (((i+1:Nat):Int) > 0)=true:=by simp
  rw[if_neg e,if_pos e2,AA,AC,hin x hx]
  simp only[h0,ne_eq,not_false_eq_true,decide_true,Bool.true_and]
  generalize (x.ASNs.all B8&&chainB (fun a b=>!x.Set || ltI a b) x.ASNs)=c
  cases x.Set<;>cases y.Set<;>cases c<;>rfl
 have hs:=Xv p 0 (by omega)
 rw[Nat.zero_add] at hs
 have hs:p.foldl (fun (v:Int) s=>A0 (v+(s.ASNs.length:Int))) 0=(tot p:Int):=hs
 rw[hs]
 unfold F4
 have e:decide ((tot p:Int)<=64)=decide (tot p<=64):=by rw[X28];simp;omega
 simp only[e]
 generalize (p.all Pe&&chainB sgl p)=c
 cases c<;>rfl
theorem IK {p:List JAE}(hl:p.length<=4611686018427387904)(ht:tot p<=4611686018427387904):E8 p=some (F4 p):=by
 unfold E8
 refine S3 hl ht (fun next x i v=>rfl) fun s next x i=>?_
 have e:(!B8 x)=(decide (x < 1) || decide (x > 4294967295)):=by unfold B8;rw[X28];simp<;>omega
 rw[AC,AC,e]
 cases decide (x < 1)<;>cases decide (x > 4294967295)<;>rfl
theorem Hm {p:List JAE}(hl:p.length<=4611686018427387904)(ht:tot p<=4611686018427387904):Em p=some (F4 p):=by
 unfold Em
 refine S3 hl ht (fun next x i v=>rfl) fun s next x i=>?_
 rw[number_eq]
 rfl
section
variable {ρ:Type} {F:Option ρ} {next:Int×Bool×UInt64×UInt64×Int×Int×Int×(List JAE)×(List JAC)×(List JAH)->Option ρ} {x:JAJ} {a:JAG}
end
end Go.AX.Q24
end
section
namespace Go.AX.Q24
open Go Go.AX
section
variable {ρ:Type} {F:Option ρ} {next:Int×(List JAE)×Bool×UInt64×UInt64×Int×Int×Int×(List JAC)×(List JAH)->Option ρ} {x:JAJ} {a:JAG}
end
end Go.AX.Q24
end
section
namespace Go.AX.Q24
open Go Go.AX
def eO (l:List JAJ):Prop:=l.Pairwise fun a b=>a.Type_≠b.Type_
structure Fit (l:List JAJ)(a:JAG):Prop where
 d:eO l
 z :∀x∈l,x.Data.length<=1000000
 p :∀x∈l,x.Type_=2->a.Path=[]
 c :∀x∈l,x.Type_=8->a.Communities=[]
 l :∀x∈l,x.Type_=32->a.JAH=[]
def conv (x:JAJ):JAJ:=⟨224,x.Type_,x.Data⟩
def sizeOf (b:List UInt8)(h:Nat):Nat:=val ((b.drop 2).take (h-2))
def pk (n:UInt8):Nat:=(n.toNat+7)/8
def dL (b:List UInt8):Option (List UInt8×List UInt8):=match b with
 | x::y::t=>if t.length<x.toNat*256+y.toNat then none else some (t.take (x.toNat*256+y.toNat),t.drop (x.toNat*256+y.toNat))
 | _=>none
def S8 (b:List UInt8):List UInt8×List UInt8×Bool:=match dL b with
 | none=>([],[],false)
 | some (p,r)=>(p,r,true)
theorem Iw (a:Addr):GA a=some a.ok:=by
 unfold GA Addr.ok
 rw[AC]
 generalize ((a.Hi.toNat:Int)==0)=x
 generalize decide ((a.Lo.toNat:Int)<4294967296)=y
 generalize a.V6=z
 cases z<;>cases x<;>rfl
def wr (x:JAJ)(n:Int):Bool:=decide (n > 0)&&(bt x.Flags 192 != 128)
def okO (x:JAJ):Bool:=decide (1<=x.Type_/\x.Type_<=255)&&(unk x.Type_&&(decide (x.Flags=224)&&decide (x.Data.length<=255)))
def ltT (a b:JAJ):Bool:=decide (a.Type_<b.Type_)
def LM (l:List JAJ):Bool:=l.all okO&&chainB ltT l
def Jn (a:JAG):Bool:=LM a.Other&&(decide (-1<=a.Origin/\a.Origin<=2)&&(F4 a.Path&&(a.Next.ok&&(decide (-1<=a.MED/\a.MED<=4294967295)&&(decide (-1<=a.Pref/\a.Pref<=4294967295)&&((decide (a.OTC=-1) || B8 a.OTC)&&(Jw a.Communities&&(Jd a.JAH&&decide (a.Other.length<=8)))))))))
structure SmT (a:JAG):Prop where
 p:a.Path.length<=1000000000
 t:tot a.Path<=4611686018427387904
 c:a.Communities.length<=1000000000
 l:a.JAH.length<=1000000000
 o:a.Other.length<=1000000000
 d :∀u∈a.Other,u.Data.length<=1000000000
theorem fK {l:List JAJ}(hl:l.length<=1000000000){K:Unit->Option Bool} :
  Aa (σ:=Unit) K (fun next2 x3 i4 _=>
   AB (τ:=Bool) (fun k5=>
    if (decide (x3.Type_<1))=true then
     k5 true
    else
     if (cond false true (decide (x3.Type_ > 255)))=true then
      k5 true
     else
      Option.bind (Da x3.Type_) fun v6=>
      if (cond false true (!v6))=true then
       k5 true
      else
       if (cond false true (x3.Flags != 224))=true then
        k5 true
       else
        if (cond false true (decide ((x3.Data.length:Int) > 255)))=true then
         k5 true
        else
         if (decide ((i4:Int) > 0))=true then
          Option.bind (geti l (A0 ((i4:Int)-1))) fun v7=>
          k5 (cond false true (cond true (decide (v7.Type_ ≥ x3.Type_)) false))
         else
          k5 false
   ) fun v8=>
   if v8=true then
    some false
   else
    next2 ()) l 0 ()=if LM l=true then K () else some false:=by
 have hok :∀x:JAJ,okO x=!(decide (x.Type_<1) || (decide (x.Type_ > 255) || ((!unk x.Type_) || ((x.Flags != 224) || decide ((x.Data.length:Int) > 255))))):=by
  intro x
  unfold okO
  have e1:decide (1<=x.Type_/\x.Type_<=255)=(!decide (x.Type_<1)&&!decide (x.Type_ > 255)):=by rw[X28];simp
  have e2:decide (x.Flags=224)=!(x.Flags != 224):=by rw[X28];simp
  have e3:decide (x.Data.length<=255)=!decide ((x.Data.length:Int) > 255):=by rw[X28];simp;omega
  rw[e1,e2,e3]
  cases decide (x.Type_ < 1)<;>cases decide (x.Type_ > 255)<;>cases unk x.Type_<;>cases (x.Flags != 224)<;>cases decide ((x.Data.length:Int) > 255)<;>rfl
 refine ax (ok:=okO) (lt:=ltT) (by omega) (fun next x _=>?_) fun next x y i _ _ hg=>?_
 ·rw[AC,JL,AA,hok]
  cases decide (x.Type_ < 1)<;>cases decide (x.Type_ > 255)<;>cases unk x.Type_<;>cases (x.Flags != 224)<;>cases decide ((x.Data.length:Int) > 255)<;>rfl
 have e:decide (((i+1:Nat):Int) > 0)=true:=by simp
 have e2:decide (y.Type_ ≥ x.Type_)=!ltT y x:=by unfold ltT;rw[X28];simp
 rw[AC,JL,AA,hok,hg,AA,e,e2]
 cases decide (x.Type_ < 1)<;>cases decide (x.Type_ > 255)<;>cases unk x.Type_<;>cases (x.Flags != 224)<;>cases decide ((x.Data.length:Int) > 255)<;>cases ltT y x<;>rfl
theorem YT {l:List JAJ}(hl:l.length<=1000000000):Dh l=some (LM l&&decide (l.length<=8)):=by
 unfold Dh
 rw[AC]
 have hok :∀x:JAJ,okO x=(unk x.Type_&&((decide (1<=x.Type_)&&decide (x.Type_<=255))&&(!(x.Flags != 224)&&!decide ((x.Data.length:Int) > 255)))):=by
  intro x
  unfold okO
  have e1:decide (1<=x.Type_/\x.Type_<=255)=(decide (1<=x.Type_)&&decide (x.Type_<=255)):=by rw[X28];simp
  have e2:decide (x.Flags=224)=!(x.Flags != 224):=by rw[X28];simp
  have e3:decide (x.Data.length<=255)=!decide ((x.Data.length:Int) > 255):=by rw[X28];simp;omega
  rw[e1,e2,e3]
  cases decide (1<=x.Type_)<;>cases decide (x.Type_<=255)<;>cases unk x.Type_<;>cases (x.Flags != 224)<;>cases decide ((x.Data.length:Int) > 255)<;>rfl
 refine (ax (ok:=okO) (lt:=ltT) (F:=some false) (by omega) (fun next x _=>?_) fun next x y i _ _ hg=>?_).trans ?_
 ·rw[AC,Hf,AA,IB,hok]
  cases decide (1<=x.Type_)<;>cases decide (x.Type_<=255)<;>cases unk x.Type_<;>cases (x.Flags != 224)<;>cases decide ((x.Data.length:Int) > 255)<;>rfl
 ·have e:decide (((i+1:Nat):Int) > 0)=true:=by simp
  have e2:decide (y.Type_ ≥ x.Type_)=!ltT y x:=by unfold ltT;rw[X28];simp
  rw[AC,Hf,AA,IB,hok,hg,e]
  simp only[AA,e2]
  cases decide (1<=x.Type_)<;>cases decide (x.Type_<=255)<;>cases unk x.Type_<;>cases (x.Flags != 224)<;>cases decide ((x.Data.length:Int) > 255)<;>cases ltT y x<;>rfl
 have e:decide ((l.length:Int)<=8)=decide (l.length<=8):=by rw[X28];simp;omega
 rw[e]
 unfold LM
 generalize (l.all okO&&chainB ltT l)=b
 cases b<;>rfl
theorem X4 {a:JAG}(h:SmT a):HM a=some (Jn a):=by
 unfold HM
 rw[AC]
 refine (fK h.o).trans ?_
 unfold Jn
 by_cases hO:LM a.Other=true
 rotate_left
 ·have hO:LM a.Other=false:=by simpa using hO
  rw[hO];rfl
 rw[hO,if_pos rfl,AC,IK (by have:=h.p;omega) (by have:=h.t;omega),AA,FB,AA,Qa (by have:=h.c;omega),Ly (by have:=h.l;omega)]
 simp only[AA]
 have d1:decide (-1<=a.Origin/\a.Origin<=2)=(decide (a.Origin ≥ -1)&&decide (a.Origin<=2)):=by rw[X28];simp
 have d2:decide (-1<=a.MED/\a.MED<=4294967295)=(decide (a.MED ≥ -1)&&decide (a.MED<=4294967295)):=by rw[X28];simp
 have d3:decide (-1<=a.Pref/\a.Pref<=4294967295)=(decide (a.Pref ≥ -1)&&decide (a.Pref<=4294967295)):=by rw[X28];simp
 have d4:B8 a.OTC=(decide (a.OTC ≥ 1)&&decide (a.OTC<=4294967295)):=rfl
 have d5:decide (a.OTC=-1)=(a.OTC==-1):=rfl
 have d6:decide (a.Other.length<=8)=decide ((a.Other.length:Int)<=8):=by rw[X28];simp;omega
 rw[d1,d2,d3,d4,d5,d6]
 generalize decide (a.Origin ≥ -1)=b1
 generalize decide (a.Origin<=2)=b2
 generalize F4 a.Path=b3
 generalize a.Next.ok=b4
 generalize decide (a.MED ≥ -1)=b5
 generalize decide (a.MED<=4294967295)=b6
 generalize decide (a.Pref ≥ -1)=b7
 generalize decide (a.Pref<=4294967295)=b8
 generalize (a.OTC==-1)=b9
 generalize decide (a.OTC ≥ 1)=b10
 generalize decide (a.OTC<=4294967295)=b11
 generalize Jw a.Communities=b12
 generalize Jd a.JAH=b13
 generalize decide ((a.Other.length:Int)<=8)=b14
 cases b1
 ·rfl
 cases b2
 ·rfl
 cases b3
 ·rfl
 cases b4
 ·rfl
 cases b5
 ·rfl
 cases b6
 ·rfl
 cases b7
 ·rfl
 cases b8
 ·rfl
 cases b9<;>cases b10<;>cases b11<;>cases b12<;>cases b13<;>cases b14<;>rfl
theorem W4 {a:JAG}(h:SmT a):Ey a=some (Jn a):=by
 unfold Ey Jn
 rw[AC,IB,AA,Hm (by have:=h.p;omega) (by have:=h.t;omega),AA,Iw,AA,IB,AA,IB,AA,M7 (by have:=h.c;omega),JB (by have:=h.l;omega),YT h.o,number_eq]
 simp only[AA]
 have d1:decide (-1<=a.Origin/\a.Origin<=2)=(decide (-1<=a.Origin)&&decide (a.Origin<=2)):=by rw[X28];simp
 have d2:decide (-1<=a.MED/\a.MED<=4294967295)=(decide (-1<=a.MED)&&decide (a.MED<=4294967295)):=by rw[X28];simp
 have d3:decide (-1<=a.Pref/\a.Pref<=4294967295)=(decide (-1<=a.Pref)&&decide (a.Pref<=4294967295)):=by rw[X28];simp
 have d4:B8 a.OTC=(decide (1<=a.OTC)&&decide (a.OTC<=4294967295)):=rfl
 have d5:decide (a.OTC=-1)=(a.OTC==-1):=rfl
 rw[d1,d2,d3,d4,d5]
 generalize (decide (-1<=a.Origin)&&decide (a.Origin<=2))=b1
 generalize F4 a.Path=b3
 generalize a.Next.ok=b4
 generalize (decide (-1<=a.MED)&&decide (a.MED<=4294967295))=b5
 generalize (decide (-1<=a.Pref)&&decide (a.Pref<=4294967295))=b7
 generalize (a.OTC==-1)=b9
 generalize (decide (1<=a.OTC)&&decide (a.OTC<=4294967295))=b10
 generalize Jw a.Communities=b12
 generalize Jd a.JAH=b13
 generalize LM a.Other=b14
 generalize decide (a.Other.length<=8)=b15
 cases b1
 ·simp
 cases b3
 ·simp
 cases b4
 ·simp
 cases b5
 ·simp
 cases b7
 ·simp
 cases b9<;>cases b10<;>cases b12<;>cases b13<;>cases b14<;>cases b15<;>rfl
instance (a0:Addr):Tt (CJ a0):=by unfold CJ;exact Tt.auto
instance (a0:Addr):Tt (C5 a0):=by unfold C5;exact Tt.auto
instance (a0:List UInt8):Tt (Br a0):=by unfold Br;exact Tt.auto
instance (a:Addr) (n:Int):Tt (Do a n):=by
 obtain⟨r,e,h,_⟩:=HE a n
 exact⟨_,h⟩
theorem N2 {p:JAA}{x:Addr}(hx:x.ok=true):Dm p x=some (inB p x):=by
 obtain⟨r,e,h1,h2⟩:=HE x p.Len
 unfold Dm
 rw[h1,AA]
 dsimp only
 rw[AC]
 rcases h2 with ⟨⟨_,h3,h4⟩,rfl,rfl⟩|⟨h3,h4⟩
 ·simp only[beq_self_eq_true,if_true]
  unfold inB JAA.eqd Addr.eqd
  simp[h3,h4]
 simp only[beq_iff_eq,h4,if_false]
 unfold inB
 have:¬ (0<=p.Len/\p.Len<=x.w):=fun h=>h3 ⟨hx,h⟩
 simp only[this,decide_false,Bool.false_and]
theorem IV (p:JAA)(x:Addr):Dv p x=some (inB p x):=by
 have hw:Bl x=some (x.w:Int):=by unfold Bl Addr.w;split<;>rfl
 have hv:(p.Addr.V6==x.V6)=false->Addr.eqd (x.cut p.Len.toNat) p.Addr=false:=by
  intro h
  unfold Addr.eqd
  rw[cZ]
  have:(x.V6==p.Addr.V6)=false:=by rw[Bool.beq_comm];exact h
  rw[this,Bool.false_and]
 unfold Dv
 rw[AC]
 cases hb:(p.Addr.V6==x.V6)
 ·rw[if_neg (by decide)]
  unfold inB
  rw[hv hb,Bool.and_false]
 rw[if_pos rfl]
 by_cases h0:0<=p.Len
 ·rw[if_pos (by simpa using h0),hw,AA]
  by_cases h1:p.Len<=x.w
  ·rw[if_pos (by simpa using h1)]
   obtain⟨k,hk⟩ :∃k:Nat,p.Len=k:=⟨p.Len.toNat,by omega⟩
   unfold inB
   rw[hk,J8 x (by omega),AA,Int.toNat_natCast]
   have:(0:Int)<=(k:Int)/\(k:Int)<=x.w:=by omega
   simp only[this,and_self,decide_true,Bool.true_and,cond_true]
  rw[if_neg (by simpa using h1)]
  unfold inB
  simp[h1]
 rw[if_neg (by simpa using h0)]
 unfold inB
 simp[h0]
instance (p:JAA) (x:Addr):Tt (Dm p x):=by unfold Dm;exact Tt.auto
instance (p q:JAA):Tt (BE p q):=by unfold BE;exact Tt.auto
instance (p:JAA):Tt (BL p):=by unfold BL;exact Tt.auto
instance (p:JAA) (x:Addr):Tt (Dv p x):=⟨_,IV p x⟩
instance (o:JAB):Tt (CB o):=by unfold CB;exact Tt.auto
instance (l:List JAB) (p:JAA) (n:Int):Tt (DZ l p n):=by unfold DZ;exact Tt.auto
def Zm (n:Nat):Bool:=(decide (97<=n)&&decide (n<=122)) || (decide (65<=n)&&decide (n<=90)) || (decide (48<=n)&&decide (n<=57)) || decide (n=45) || decide (n=58)
def MJ (c:UInt8):Bool:=Zm c.toNat
def nameB (s:ByteArray):Bool:=decide (1<=s.size)&&decide (s.size<=32)&&s.toList.all MJ
theorem WQ (s:ByteArray):s.toList.length=s.size:=by rw[ByteArray.toList_eq,Array.length_toList];rfl
theorem MH {s:ByteArray}(h:s.size<=maxLen):F6 s=some (nameB s):=by
 have hl:=WQ s
 have hm:maxLen=9223372036854775807:=rfl
 unfold F6
 rw[AC]
 have hend:AB (τ:=Bool) (fun k7=>if (decide ((s.size:Int) ≥ 1)) then k7 (cond true (decide ((s.size:Int)<=32)) false) else k7 false) (fun v8=>some v8)=some (decide (1<=s.size)&&decide (s.size<=32)):=by
  rw[AC]
  by_cases h1:1<=s.size
  ·rw[if_pos (by simp;omega)];simp[h1];omega
  rw[if_neg (by simp;omega)];simp[h1]
 rw[JR (fun v:Int=>0<=v/\v<=s.size) (fun v=>(s.size-v).toNat) (fun v=>cond ((s.toList.drop v.toNat).all MJ) (some (decide (1<=s.size)&&decide (s.size<=32))) (some false)) ?_ fuel 0 (by omega) (EJ (by omega))]
 ·unfold nameB
  simp only[Int.toNat_zero,List.drop_zero]
  cases s.toList.all MJ<;>simp
 intro next v hv hn
 by_cases hlt:v<s.size
 ·obtain⟨k,rfl⟩ :∃k:Nat,v=k:=⟨v.toNat,by omega⟩
  have hk:k<s.toList.length:=by omega
  rw[if_pos (by simpa using hlt),C7 hk,AA]
  have key :∀(c:UInt8) (K:Bool->Option Bool),AB (τ:=Bool) (fun k5=>
    if (decide ((c.toNat:Int) ≥ 97)) then
     if (cond true (decide ((c.toNat:Int)<=122)) false) then
      k5 (!true)
     else
      if (decide ((c.toNat:Int) ≥ 65)) then
       if (cond false true (cond true (decide ((c.toNat:Int)<=90)) false)) then
        k5 (!true)
       else
        if (decide ((c.toNat:Int) ≥ 48)) then
         if (cond false true (cond true (decide ((c.toNat:Int)<=57)) false)) then
          k5 (!true)
         else
          if (cond false true ((c.toNat:Int)==45)) then
           k5 (!true)
          else
           k5 (!(cond false true ((c.toNat:Int)==58)))
        else
         if (cond false true ((c.toNat:Int)==45)) then
          k5 (!true)
         else
          k5 (!(cond false true ((c.toNat:Int)==58)))
      else
       if (decide ((c.toNat:Int) ≥ 48)) then
        if (cond false true (cond true (decide ((c.toNat:Int)<=57)) false)) then
         k5 (!true)
        else
         if (cond false true ((c.toNat:Int)==45)) then
          k5 (!true)
         else
          k5 (!(cond false true ((c.toNat:Int)==58)))
       else
        if (cond false true ((c.toNat:Int)==45)) then
         k5 (!true)
        else
         k5 (!(cond false true ((c.toNat:Int)==58)))
    else
     if (decide ((c.toNat:Int) ≥ 65)) then
      if (cond false true (cond true (decide ((c.toNat:Int)<=90)) false)) then
       k5 (!true)
      else
       if (decide ((c.toNat:Int) ≥ 48)) then
        if (cond false true (cond true (decide ((c.toNat:Int)<=57)) false)) then
         k5 (!true)
        else
         if (cond false true ((c.toNat:Int)==45)) then
          k5 (!true)
         else
          k5 (!(cond false true ((c.toNat:Int)==58)))
       else
        if (cond false true ((c.toNat:Int)==45)) then
         k5 (!true)
        else
         k5 (!(cond false true ((c.toNat:Int)==58)))
     else
      if (decide ((c.toNat:Int) ≥ 48)) then
       if (cond false true (cond true (decide ((c.toNat:Int)<=57)) false)) then
        k5 (!true)
       else
        if (cond false true ((c.toNat:Int)==45)) then
         k5 (!true)
        else
         k5 (!(cond false true ((c.toNat:Int)==58)))
      else
       if (cond false true ((c.toNat:Int)==45)) then
        k5 (!true)
       else
        k5 (!(cond false true ((c.toNat:Int)==58)))) K=K (!MJ c):=by
   intro c K
   rw[AC]
   have hb :∀n:Fin 256,(fun n:Nat=>if (decide ((n:Int) ≥ 97)) then if (cond true (decide ((n:Int)<=122)) false) then (!true) else if (decide ((n:Int) ≥ 65)) then if (cond false true (cond true (decide ((n:Int)<=90)) false)) then (!true) else if (decide ((n:Int) ≥ 48)) then if (cond false true (cond true (decide ((n:Int)<=57)) false)) then (!true) else if (cond false true ((n:Int)==45)) then (!true) else (!(cond false true ((n:Int)==58))) else if (cond false true ((n:Int)==45)) then (!true) else (!(cond false true ((n:Int)==58))) else if (decide ((n:Int) ≥ 48)) then if (cond false true (cond true (decide ((n:Int)<=57)) false)) then (!true) else if (cond false true ((n:Int)==45)) then (!true) else (!(cond false true ((n:Int)==58))) else if (cond false true ((n:Int)==45)) then (!true) else (!(cond false true ((n:Int)==58))) else if (decide ((n:Int) ≥ 65)) then if (cond false true (cond true (decide ((n:Int)<=90)) false)) then (!true) else if (decide ((n:Int) ≥ 48)) then if (cond false true (cond true (decide ((n:Int)<=57)) false)) then (!true) else if (cond false true ((n:Int)==45)) then (!true) else (!(cond false true ((n:Int)==58))) else if (cond false true ((n:Int)==45)) then (!true) else (!(cond false true ((n:Int)==58))) else if (decide ((n:Int) ≥ 48)) then if (cond false true (cond true (decide ((n:Int)<=57)) false)) then (!true) else if (cond false true ((n:Int)==45)) then (!true) else (!(cond false true ((n:Int)==58))) else if (cond false true ((n:Int)==45)) then (!true) else (!(cond false true ((n:Int)==58)))) n.val=!Zm n.val:=by decide +kernel
   have hc:=hb ⟨c.toNat,c.toNat_lt⟩
   unfold MJ
   simp only[<- apply_ite K]
   exact congrArg K hc
  rw[key]
  rw[Int.toNat_natCast,List.drop_eq_getElem_cons hk,List.all_cons]
  by_cases hg:MJ s.toList[k]=true
  ·simp only[hg,Bool.not_true,Bool.true_and,if_false,Bool.false_eq_true]
   rw[A3 (by omega),hn _ (by omega) (by omega)]
   have:((k:Int)+1).toNat=k+1:=by omega
   rw[this]
  have hg:MJ s.toList[k]=false:=by simpa using hg
  simp[hg]
 rw[if_neg (by simpa using hlt)]
 have:v.toNat=s.toList.length:=by omega
 rw[this,List.drop_length]
 exact hend
theorem HD {p:UInt8->Bool} :∀{l:List UInt8},l.dropWhile p=[]↔l.all p=true
 | []=>by simp
 | x::t=>by
  rw[List.dropWhile_cons,List.all_cons]
  cases h:p x
  ·simp
  simpa using HD (l:=t)
theorem YI (l cs:List UInt8):Lib.trimS l cs=[]↔l.all (cs.contains ·)=true:=by
 unfold Lib.trimS Lib.trimLeftS
 rw[HD]
 constructor
 ·intro h
  have h2:Lib.trimRightS l cs=[]:=by
   unfold Lib.trimRightS at h ⊢
   cases hr:l.reverse.dropWhile (cs.contains ·) with
   | nil=>rfl
   | cons x t=>
    exfalso
    rw[hr] at h
    have hx:cs.contains x=true:=by
     have:=List.all_eq_true.1 h x (by simp)
     exact this
    have:=List.head?_dropWhile_not (fun c=>cs.contains c) l.reverse
    rw[hr] at this
    simp at this
    simp[this] at hx
  unfold Lib.trimRightS at h2
  have h3:l.reverse.dropWhile (cs.contains ·)=[]:=by simpa using h2
  rw[HD] at h3
  simpa using h3
 intro h
 have:Lib.trimRightS l cs=[]:=by
  unfold Lib.trimRightS
  have h3:l.reverse.dropWhile (cs.contains ·)=[]:=by rw[HD];simpa using h
  rw[h3];rfl
 rw[this];rfl
theorem YZ {s cut:ByteArray}(h1:s.size<=maxLen)(h2:2<=cut.size)(h3:cut.size<4294967281)(h4:cut.data.toList.all (fun b=>decide (b.toNat<128))=true)(hg :∀c:UInt8,cut.data.toList.contains c=MJ c) :
  ∃t,Sz s cut=some t/\(t.toList==(ByteArray.mk (List.toArray List.nil)).toList)=s.toList.all MJ:=by
 have hm:maxLen=9223372036854775807:=rfl
 unfold Sz
 rw[if_pos ⟨by omega,h2,h3,h4⟩]
 refine⟨_,rfl,?_⟩
 rw[X28,beq_iff_eq,O5,O5]
 have h5:=YI s.data.toList cut.data.toList
 have h6:s.data.toList.all (cut.data.toList.contains ·)=s.toList.all MJ:=by
  rw[ByteArray.toList_eq]
  congr 1
  funext c
  exact hg c
 rw[h6] at h5
 exact h5
theorem KC {s:ByteArray}(h:s.size<=maxLen):FY s=some (nameB s):=by
 have hm:maxLen=9223372036854775807:=rfl
 unfold FY
 generalize hc:(ByteArray.mk (List.toArray (List.cons 97 (List.cons 98 _))))=cut
 obtain⟨t,h1,h2⟩:=YZ (s:=s) (cut:=cut) h (by rw[<- hc];decide) (by rw[<- hc];decide) (by rw[<- hc];decide +kernel) (by
  intro c
  have hb :∀n:Fin 256,cut.data.toList.contains (UInt8.ofNat n.val)=Zm n.val:=by rw[<- hc];decide +kernel
  have:=hb ⟨c.toNat,c.toNat_lt⟩
  simp only[UInt8.ofNat_toNat] at this
  exact this)
 rw[h1,AA,AC]
 have hw:Fz (s.size:Int) 1 32=some (decide (1<=s.size)&&decide (s.size<=32)):=by
  unfold Fz
  rw[AC]
  by_cases h1:1<=s.size
  ·rw[if_pos (by simp;omega)];simp[h1];omega
  rw[if_neg (by simp;omega)];simp[h1]
 rw[hw,AA,h2]
 unfold nameB
 cases decide (1<=s.size)&&decide (s.size<=32)<;>simp
theorem JQ (n:Int):B6 n=some (B8 n):=by
 unfold B6 B8
 rw[AC]
 by_cases h:1<=n
 ·rw[if_pos (by simpa using h)];simp[h]
 rw[if_neg (by simpa using h)];simp[h]
def P1 (s:Set):Bool:=nameB s.Name&&decide (s.ASNs.length<=64)&&decide (s.Sets.length<=64)&&s.ASNs.all B8&&s.Sets.all nameB
def GM (s:Set):Prop:=s.Name.size<=maxLen/\∀x∈s.Sets,x.size<=maxLen
theorem WU {s:Set}(h:GM s):NL s=some (P1 s):=by
 have c1:A5 s.ASNs=some (s.ASNs.any fun n=>!B8 n):=by
  unfold A5 BQ
  exact LW fun n _=>by unfold Ln;rw[JQ,AA]
 have c2:As s.Sets=some (s.Sets.any fun n=>!nameB n):=by
  unfold As BA
  exact LW fun n hn=>by unfold Lc;rw[KC (h.2 n hn),AA]
 unfold NL
 rw[AC,KC h.1,AA,c1,c2]
 simp only[AA,cond_true]
 unfold P1
 have e1:(s.ASNs.any fun n=>!B8 n)=!s.ASNs.all B8:=by rw[List.not_all_eq_any_not]
 have e2:(s.Sets.any fun n=>!nameB n)=!s.Sets.all nameB:=by rw[List.not_all_eq_any_not]
 rw[e1,e2]
 have l1 :∀n:Nat,decide ((n:Int)<=64)=decide (n<=64):=fun n=>by rw[decide_eq_decide];omega
 rw[l1,l1]
 cases nameB s.Name<;>cases decide (s.ASNs.length<=64)<;>cases decide (s.Sets.length<=64)<;>cases s.ASNs.all B8<;>cases s.Sets.all nameB<;>rfl
def DN (p:JAA):Bool:=p.Addr.ok&&decide (0<=p.Len)&&decide (p.Len<=p.Addr.w)&&Addr.eqd (p.Addr.cut p.Len.toNat) p.Addr
theorem I9 (p:JAA):DN p=true↔L2 p:=by
 unfold DN L2
 simp only[X27,decide_eq_true_eq,Addr.eqd_iff,and_assoc]
theorem EU (p:JAA):BL p=some (DN p):=by
 obtain⟨b,h1,h2⟩:=IN p
 rw[h1]
 congr 1
 rw[X28,h2,I9]
theorem E1 (p:JAA):DX p=some (DN p):=by
 have hw:Bl p.Addr=some (p.Addr.w:Int):=by unfold Bl Addr.w;split<;>rfl
 unfold DX DN
 rw[AC,Iw,AA,hw]
 simp only[AA,cond_true]
 cases p.Addr.ok
 ·simp
 by_cases h0:0<=p.Len
 ·by_cases h1:p.Len<=p.Addr.w
  ·obtain⟨k,hk⟩ :∃k:Nat,p.Len=k:=⟨p.Len.toNat,by omega⟩
   have hf:=J8 p.Addr (n:=k) (by omega)
   rw[<- hk] at hf
   rw[hf,hk]
   simp only[AA,Int.toNat_natCast,ge_iff_le]
   rw[if_pos True.intro,if_pos (by simp),if_pos (by simp;omega)]
   have h2:decide ((0:Int)<=(k:Int))=true:=by simp
   have h3:decide ((k:Int)<=(p.Addr.w:Int))=true:=by simp;omega
   rw[h2,h3];simp
  simp[h0,h1]
 simp[h0]
def Me (o:JAB):Bool:=DN o.JAA&&decide (o.JAA.Len<=o.Max)&&decide (o.Max<=o.JAA.Addr.w)&&B8 o.ASN
theorem LU (o:JAB):CB o=some (Me o):=by
 unfold CB Me
 rw[TU,AC,EU,AA]
 have hw:(if o.JAA.Addr.V6=true then (128:Int) else 32)=o.JAA.Addr.w:=by unfold Addr.w;split<;>rfl
 rw[hw]
 unfold B8
 simp only[cond_true,ge_iff_le]
 cases DN o.JAA<;>cases decide (o.JAA.Len<=o.Max)<;>cases decide (o.Max<=(o.JAA.Addr.w:Int))<;>cases decide (1<=o.ASN)<;>cases decide (o.ASN<=4294967295)<;>rfl
def MB:List ByteArray->List Set->Bool
 | _,[]=>true
 | seen,x::t=>!decide (x.Name∈seen)&&P1 x&&MB (x.Name::seen) t
def Fq (r:JAD):Bool:=MB [] r.Sets&&r.Objects.all Me&&decide (r.Sets.length<=64)&&decide (r.Objects.length<=512)
def Seen (m:List (ByteArray×Bool))(seen:List ByteArray):Prop:=∀n,(DI m n).getD false=decide (n∈seen)
theorem Seen.nil:Seen [] []:=fun n=>by simp[DI]
theorem Seen.put {m:List (ByteArray×Bool)}{seen:List ByteArray}(h:Seen m seen)(x:ByteArray):Seen (CW m x true) (x::seen):=by
 intro n
 rw[Go.AX.mget_mset]
 by_cases hn:n=x
 ·subst hn;simp
 rw[if_neg (by simpa using hn),h n];simp[hn]
theorem Xx (a b:Nat):AB (τ:=Bool) (fun k=>if (decide ((a:Int)<=64)) then k (cond true (decide ((b:Int)<=512)) false) else k false) (fun v=>some v)=some (decide (a<=64)&&decide (b<=512)):=by
 rw[AC]
 by_cases h:a<=64
 ·rw[if_pos (by simp;omega)];simp[h];omega
 rw[if_neg (by simp;omega)];simp[h]
theorem Zw {body:(List (ByteArray×Bool)->Option Bool)->Set->Nat->List (ByteArray×Bool)->Option Bool}{K:Option Bool} :
  ∀{l:List Set} {i:Nat} {m:List (ByteArray×Bool)} {seen:List ByteArray},(∀next x i m,x∈l->body next x i m=cond (!((DI m x.Name).getD false)&&P1 x) (next (CW m x.Name true)) (some false))->Seen m seen->
  Aa (fun _=>K) body l i m=cond (MB seen l) K (some false)
 | [],_,_,_,_,_=>rfl
 | x::t,i,m,seen,hb,hs=>by
  show body (fun s=>Aa (fun _=>K) body t (i+1) s) x i m=_
  rw[hb _ x i m (by simp),hs x.Name,MB]
  cases hc:(!decide (x.Name∈seen)&&P1 x)
  ·rfl
  rw[Bool.true_and]
  exact Zw (fun next y j m hy=>hb next y j m (X19 _ hy)) (hs.put _)
theorem Gm {r:JAD}(h :∀s∈r.Sets,GM s):E5 r=some (Fq r):=by
 unfold E5
 rw[AC,Zw (seen:=[]) (K:=AB _ _) ?_ Seen.nil,AC,SY (g:=Me) (r0:=some false) ?_,Xx]
 ·unfold Fq
  cases MB [] r.Sets<;>cases r.Objects.all Me<;>simp
 ·intro next x i _
  have hw:JA x.JAA=some (x.JAA.Addr.w:Int):=by unfold JA Addr.w;split<;>rfl
  rw[AC,E1,AA,hw,JQ]
  simp only[AA,cond_false,gt_iff_lt]
  unfold Me
  have e1:decide (x.Max<x.JAA.Len)=!decide (x.JAA.Len<=x.Max):=by
   rw[X28];simp
  have e2:decide ((x.JAA.Addr.w:Int)<x.Max)=!decide (x.Max<=(x.JAA.Addr.w:Int)):=by
   rw[X28];simp
  rw[e1,e2]
  cases DN x.JAA<;>cases decide (x.JAA.Len<=x.Max)<;>cases decide (x.Max<=(x.JAA.Addr.w:Int))<;>cases B8 x.ASN<;>rfl
 intro next x i m hx
 rw[AC,WU (h x hx)]
 simp only[AA,cond_false]
 cases (DI m x.Name).getD false<;>cases P1 x<;>rfl
theorem Gs {r:JAD}(h :∀s∈r.Sets,GM s):FM r=some (Fq r):=by
 unfold FM
 rw[AC,Zw (seen:=[]) (K:=AB _ _) ?_ Seen.nil,AC,SY (g:=Me) (r0:=some false) ?_,Xx]
 ·unfold Fq
  cases MB [] r.Sets<;>cases r.Objects.all Me<;>simp
 ·intro next x i _
  rw[LU,AA]
  cases Me x<;>rfl
 intro next x i m hx
 obtain⟨h1,h2⟩:=h x hx
 rw[AC,AC,MH h1]
 simp only[AA,cond_false]
 have l1 :∀n:Nat,decide ((n:Int) > 64)=!decide (n<=64):=fun n=>by rw[X28];simp;omega
 rw[l1,l1]
 have ha :∀K:Unit->Option Bool,AB (τ:=Unit) (fun k11=>Aa (σ:=Unit) (fun _=>k11 ()) (fun next12 x13 i14 _=>
      AB (τ:=Bool) (fun k15=>
       if (decide (x13<1)) then
        k15 true
       else
        k15 (decide (x13 > 4294967295))
      ) fun v16=>
      if v16 then
       some false
      else
       next12 ()) x.ASNs 0 ()) K=cond (x.ASNs.all B8) (K ()) (some false):=by
  intro K
  rw[AC]
  refine SY fun next n i _=>?_
  rw[TU]
  unfold B8
  by_cases g1:n<1
  ·have:¬ 1<=n:=by omega
   simp[g1,this]
  by_cases g2:n > 4294967295
  ·have:¬ n<=4294967295:=by omega
   simp[g1,g2,this]
  have g3:1<=n:=by omega
  have g4:n<=4294967295:=by omega
  simp[g1,g2,g3,g4]
 have hs :∀K:Unit->Option Bool,AB (τ:=Unit) (fun k17=>Aa (σ:=Unit) (fun _=>k17 ()) (fun next18 x19 i20 _=>
      Option.bind (F6 x19) fun v21=>
      if (!v21) then
       some false
      else
       next18 ()) x.Sets 0 ()) K=cond (x.Sets.all nameB) (K ()) (some false):=by
  intro K
  rw[AC]
  refine SY fun next n i hn=>?_
  rw[MH (h2 n hn),AA]
  cases nameB n<;>rfl
 rw[ha,hs]
 unfold P1
 cases nameB x.Name<;>cases (DI m x.Name).getD false<;>cases decide (x.ASNs.length<=64)<;>cases decide (x.Sets.length<=64)<;>cases x.ASNs.all B8<;>cases x.Sets.all nameB<;>rfl
theorem U9 {α : Type}{b : Nat}{l : List α}{x : α}[Decidable (x∈l)]{p : α -> Bool}{n : Nat}(hb : Nat.ble b 65536 = true)(hl : l.length+1<=1000000000)(hn : n = (l.takeWhile p).length)(c : Bool)(hc : c = decide (x∈l)) :
    (if c = true then some l else Option.bind (part l 0 (n : Int)) fun v11 => Option.bind (apnd (α := α) b [] v11) fun _ => Option.bind (apnd (α := α) b v11 ([x] : List α)) fun v12 => Option.bind (part l (n : Int) (l.length : Int)) fun v13 => Option.bind (apnd (α := α) b v12 v13) fun v14 => some v14) =
      some (if x∈l then l else l.takeWhile p++x :: l.dropWhile p) := by
  have ht := EQ p l
  obtain⟨h1, h2⟩ := takeWhile_take p l
  by_cases hx : x∈l
  · rw[hc, if_pos (by simpa using hx), if_pos hx]
  · rw[hc, if_neg (by simpa using hx), if_neg hx, aC (by omega), AA, BX hb (by simp; omega), AA, BX hb (by simp; omega), AA, Qg (by omega), AA, BX hb (by simp; omega), AA, hn, h1, h2]
    simp
theorem NJ {α : Type}{lt : α -> α -> Bool}(htr : ∀ a b c, lt a b = true -> lt b c = true -> lt a c = true)(hirr : ∀ a, lt a a = false){l : List α}{x : α}(hs : l.Pairwise fun a b => lt a b = true) :
    x∈l↔l[(l.takeWhile (lt · x)).length]? = some x := by
  constructor
  · intro hx
    rw[<- List.takeWhile_append_dropWhile (p := (lt · x)) (l := l), X23] at hx
    rcases hx with hx | hx
    · have := I1 (lt · x) hx
      rw[hirr] at this
      simp at this
    · have h2 := (takeWhile_take (lt · x) l).2
      cases hd : l.dropWhile (lt · x) with
      | nil => rw[hd] at hx; simp at hx
      | cons y t =>
        have hy : lt y x = false := by
          have := List.head?_dropWhile_not (lt · x) l
          rw[hd] at this
          simpa using this
        have hp : (y :: t).Pairwise fun a b => lt a b = true := by
          rw[<- hd]
          exact hs.sublist (List.dropWhile_sublist _)
        rw[hd] at hx
        have hxy : x = y := by
          rcases List.mem_cons.1 hx with e | e
          · exact e
          · have := (List.pairwise_cons.1 hp).1 x e
            rw[hy] at this; simp at this
        have h3 : (l.drop (l.takeWhile (lt · x)).length)[0]? = some x := by rw[h2, hd, hxy]; rfl
        rw[List.getElem?_drop] at h3
        simpa using h3
  · intro h
    exact List.mem_of_getElem? h
theorem P2 {l : List Int}{n : Int}(hs : l.Pairwise fun a b => ltI a b = true)(hl : l.length+1<=1000000000) : Eo l n = some (if n∈l then l else SS ltI l n) := by
  have hpos := EQ (ltI · n) l
  unfold Eo
  rw[cR (p := (ltI · n)) (fun x k4 => k4 (cond true (decide (x<n)) false)) (by omega) (fun x _ k => rfl), AC]
  have hh := NJ Wh UC (x := n) hs
  have htail := U9 (b := 8) (l := l) (x := n) (p := (ltI · n)) (by decide) hl rfl
  by_cases hk : (l.takeWhile (ltI · n)).length<l.length
  · rw[if_pos (by simpa using hk), C7 hk, AA]
    refine htail _ ?_
    rw[X28, decide_eq_true_eq, hh, X15 hk]
    simp
  · rw[if_neg (by simpa using hk)]
    refine htail _ ?_
    rw[X28, decide_eq_true_eq, hh, List.getElem?_eq_none (by omega)]
    simp
def ltN (a b : ByteArray) : Bool := Op.bytesLess a.toList b.toList
theorem N7 (a b : ByteArray) : ltN a b = true↔a.toList<b.toList := by unfold ltN; rw[Go.Proofs.bytesLess_eq]; simp
theorem bT {a b : ByteArray}(h : a.toList = b.toList) : a = b := by
  have := ba a b
  rw[h] at this
  simpa using this.symm
theorem W6 (a b c : ByteArray)(h1 : ltN a b = true)(h2 : ltN b c = true) : ltN a c = true := by
  rw[N7] at *
  exact List.lt_trans h1 h2
theorem Xh (a : ByteArray) : ltN a a = false := by
  cases h : ltN a a
  · rfl
  · rw[N7] at h
    exact absurd h (List.lt_irrefl _)
theorem aX (a b : ByteArray)(h : ltN a b = false) : a = b\/ltN b a = true := by
  have h1 : ¬ a.toList<b.toList := fun q => by rw[<- N7] at q; rw[h] at q; simp at q
  rw[N7]
  have h2 : b.toList<=a.toList := List.not_lt.1 h1
  rcases List.le_iff_lt_or_eq.1 h2 with h3 | h3
  · exact .inr h3
  · exact .inl (bT h3.symm)
theorem Lu {l : List ByteArray}{n : ByteArray}(hs : l.Pairwise fun a b => ltN a b = true)(hl : l.length+1<=1000000000) : CX l n = some (if n∈l then l else SS ltN l n) := by
  have hpos := EQ (ltN · n) l
  unfold CX
  rw[cR (p := (ltN · n)) (fun x k4 => k4 (cond true (Op.bytesLess x.toList n.toList) false)) (by omega) (fun x _ k => rfl), AC]
  have hh := NJ W6 Xh (x := n) hs
  have htail := U9 (b := 16) (l := l) (x := n) (p := (ltN · n)) (by decide) hl rfl
  by_cases hk : (l.takeWhile (ltN · n)).length<l.length
  · rw[if_pos (by simpa using hk), C7 hk, AA]
    refine htail _ ?_
    rw[X28, decide_eq_true_eq, hh, X15 hk]
    simp only[cond_true, ba, decide_eq_true_eq, X24]
  · rw[if_neg (by simpa using hk)]
    refine htail _ ?_
    rw[X28, decide_eq_true_eq, hh, List.getElem?_eq_none (by omega)]
    simp
def D7 (L : List Set)(n : ByteArray) : Option Set := L.find? fun s => decide (s.Name = n)
def S4 : Set := ⟨ByteArray.empty, [], []⟩
theorem ME (r : JAD)(n : ByteArray) : GE r n = some ((D7 r.Sets n).getD S4, (D7 r.Sets n).isSome) := by
  unfold GE D7
  rw[AC]
  have key : ∀ (l : List Set) (i : Nat), Aa (fun _ => some ((⟨ByteArray.empty, [], []⟩ : Set), false)) (fun next2 x3 i4 _ => if (x3.Name.toList==n.toList) then some (x3, true) else next2 ()) l i () = some ((l.find? fun s => decide (s.Name = n)).getD S4, (l.find? fun s => decide (s.Name = n)).isSome) := by
    intro l
    induction l with
    | nil => intro i; rfl
    | cons x t ih =>
      intro i
      show (if (x.Name.toList==n.toList) = true then some (x, true) else Aa _ _ t (i+1) ()) = _
      rw[ih, ba, List.find?_cons]
      by_cases h : x.Name = n <;> simp[h]
  exact key r.Sets 0
theorem GF {L : List Set}{n : ByteArray}{s : Set}(h : D7 L n = some s) : s∈L/\s.Name = n := by
  unfold D7 at h
  exact⟨List.mem_of_find?_eq_some h, by simpa using List.find?_some h⟩
theorem Mc {L : List Set}{n : ByteArray}(h : D7 L n = none) : ∀ s∈L, s.Name≠n := by
  unfold D7 at h
  intro s hs
  simpa using List.find?_eq_none.1 h s hs
def Uni (L : List Set) : Prop := (L.map (·.Name)).Nodup
theorem Uni.eq {L : List Set}(h : Uni L){s t : Set}(hs : s∈L)(ht : t∈L)(e : s.Name = t.Name) : s = t := by
  induction L with
  | nil => simp at hs
  | cons x L ih =>
    unfold Uni at h
    obtain⟨h1, h2⟩ := List.nodup_cons.1 h
    rcases List.mem_cons.1 hs with rfl | hs' <;> rcases List.mem_cons.1 ht with rfl | ht'
    · rfl
    · exact absurd (List.mem_map.2 ⟨t, ht', e.symm⟩) h1
    · exact absurd (List.mem_map.2 ⟨s, hs', e⟩) h1
    · exact ih h2 hs' ht'
theorem Uni.find {L : List Set}(h : Uni L){s : Set}(hs : s∈L) : D7 L s.Name = some s := by
  cases hf : D7 L s.Name with
  | none => exact absurd rfl (Mc hf s hs)
  | some t =>
    obtain⟨h1, h2⟩ := GF hf
    rw[h.eq h1 hs h2]
inductive RN (L : List Set)(n : ByteArray) : ByteArray -> Prop
  | base : RN L n n
  | step {s : Set} {y : ByteArray} (hs : s∈L) (h : RN L n s.Name) (hy : y∈s.Sets) : RN L n y
structure Exp (L : List Set)(n : ByteArray)(la : List Int)(ms : List ByteArray) : Prop where
  pa : la.Pairwise fun a b => ltI a b = true
  am : ∀ a, a∈la↔∃ s∈L, RN L n s.Name/\a∈s.ASNs
  pm : ms.Pairwise fun a b => ltN a b = true
  mm : ∀ x, x∈ms↔RN L n x/\∀ s∈L, s.Name≠x
theorem Exp.unique {L : List Set}{n : ByteArray}{a b : List Int}{x y : List ByteArray}(h : Exp L n a x)(k : Exp L n b y) : a = b/\x = y :=
  ⟨Jb (lt := fun a b => ltI a b = true) (fun a => by simp[UC]) Wh h.pa k.pa fun q => (h.am q).trans (k.am q).symm,
   Jb (lt := fun a b => ltN a b = true) (fun a => by simp[Xh]) W6 h.pm k.pm fun q => (h.mm q).trans (k.mm q).symm⟩
structure Mod (L : List Set) : Prop where
  n : L.length<=64
  u : Uni L
  a : ∀ s∈L, s.ASNs.length<=64
  s : ∀ s∈L, s.Sets.length<=64
def ZZ (L : List Set)(n : ByteArray) : List ByteArray := n :: L.flatMap (·.Sets)
theorem Zy {L : List Set}(h : Mod L)(n : ByteArray) : (ZZ L n).length<=4097 := by
  have key : ∀ (l : List Set), (∀ s∈l, s.Sets.length<=64) -> (l.flatMap (·.Sets)).length<=64*l.length := by
    intro l
    induction l with
    | nil => intro _; simp
    | cons x t ih =>
      intro hx
      have := ih fun s hs => hx s (X19 _ hs)
      have := hx x (by simp)
      simp only[List.flatMap_cons, X11, X12]
      omega
  have h1 := key L h.s
  have h2 := h.n
  unfold ZZ
  simp only[X12]
  omega
theorem Zx {L : List Set}{n x : ByteArray}(h : RN L n x) : x∈ZZ L n := by
  cases h with
  | base => unfold ZZ; simp
  | step hs _ hy =>
    unfold ZZ
    exact X19 _ (List.mem_flatMap.2 ⟨_, hs, hy⟩)
abbrev keys (m:List (ByteArray×Bool)):List ByteArray:=m.map (·.1)
theorem Vr {m:List (ByteArray×Bool)}(h :∀p∈m,p.2=true)(x:ByteArray):(DI m x).getD false=decide (x∈keys m):=by
 cases hg:DI m x with
 | none=>
  have:x∉keys m:=fun hx=>by
   obtain⟨v,hv⟩:=Yf.2 hx
   rw[hg] at hv;simp at hv
  simp[this]
 | some v=>
  have h1:=TF hg
  have h2:=h _ h1
  have:x∈keys m:=List.mem_map.2 ⟨_,h1,rfl⟩
  simp only at h2
  simp[h2,this]
theorem TG {m:List (ByteArray×Bool)}(h :∀p∈m,p.2=true)(x:ByteArray) :∀p∈CW m x true,p.2=true:=by
 induction m with
 | nil=>intro p hp;simp[CW] at hp;rw[hp]
 | cons q m ih=>
  intro p hp
  unfold CW at hp
  split at hp
  ·rcases List.mem_cons.1 hp with rfl | hp
   ·rfl
   exact h p (X19 _ hp)
  rcases List.mem_cons.1 hp with rfl | hp
  ·exact h _ (by simp)
  exact ih (fun p hp=>h p (X19 _ hp)) p hp
theorem NP {m:List (ByteArray×Bool)}{x:ByteArray}(h:x∉keys m)(v:Bool):(CW m x v).length=m.length+1:=by
 have:=congrArg List.length (Ld m x v)
 rw[if_neg h] at this
 simpa using this
structure RI (L:List Set)(n:ByteArray)(a:List Int)(m:List ByteArray)(sn:List (ByteArray×Bool))(td:List ByteArray):Prop where
 pa:a.Pairwise fun a b=>ltI a b=true
 pm:m.Pairwise fun a b=>ltN a b=true
 nd:(keys sn).Nodup
 tr :∀p∈sn,p.2=true
 rn :∀x∈keys sn,RN L n x
 tk :∀x∈td,x∈keys sn
 sa :∀x∈a,∃s∈L,RN L n s.Name/\x∈s.ASNs
 sm :∀x∈m,RN L n x/\∀s∈L,s.Name≠x
 pr :∀x∈keys sn,x∈td\/((∀s∈L,s.Name=x->(∀y∈s.ASNs,y∈a)/\∀y∈s.Sets,y∈keys sn)/\((∀s∈L,s.Name≠x)->x∈m))
 n0:n∈keys sn
 la:a.length+64*(td.length+(4097-sn.length))<=64*4098
 lm:m.length+(td.length+(4097-sn.length))<=4098
theorem Rb {L:List Set}(h:Mod L){n:ByteArray}{sn:List (ByteArray×Bool)}(nd:(keys sn).Nodup)(rn :∀x∈keys sn,RN L n x):sn.length<=4097:=by
 have h1:=ID nd fun x hx=>Zx (rn x hx)
 have h2:=Zy h n
 simp only[keys,X10] at h1
 omega
theorem RI.fin {L:List Set}{n:ByteArray}{a:List Int}{m:List ByteArray}{sn:List (ByteArray×Bool)}(h:RI L n a m sn []):Exp L n a m:=by
 have hall :∀x,RN L n x->x∈keys sn:=by
  intro x hx
  induction hx with
  | base=>exact h.n0
  | step hs _ hy ih=>
   rcases h.pr _ ih with hp | hp
   ·simp at hp
   exact (hp.1 _ hs rfl).2 _ hy
 refine⟨h.pa,fun x=>⟨h.sa x,fun ⟨s,hs,h1,h2⟩=>?_⟩,h.pm,fun x=>⟨h.sm x,fun ⟨h1,h2⟩=>?_⟩⟩
 ·rcases h.pr _ (hall _ h1) with hp | hp
  ·simp at hp
  exact (hp.1 s hs rfl).1 x h2
 rcases h.pr _ (hall _ h1) with hp | hp
 ·simp at hp
 exact hp.2 h2
theorem cG {a:List Int}{l:List Int}{ρ:Type}{Q:ρ->Prop}{k:List Int->Option ρ}(ha:a.Pairwise fun a b=>ltI a b=true)(hl:a.length+l.length<=1000000)
  (hk :∀v,v.Pairwise (fun a b=>ltI a b=true)->(∀y,y∈v↔y∈a\/y∈l)->v.length<=a.length+l.length->Ok (k v) Q) :
  Ok (Aa (fun v=>k v) (fun next x _ v=>Option.bind (Eo v x) fun v'=>next v') l 0 a) Q:=by
 refine .forX (fun i v=>v.Pairwise (fun a b=>ltI a b=true)/\(∀y,y∈v↔y∈a\/y∈l.take i)/\v.length<=a.length+i) ⟨ha,by simp,by simp⟩ (fun v ⟨h1,h2,h3⟩=>hk v h1 (by simpa using h2) h3) ?_
 rintro next x i v hx ⟨h1,h2,h3⟩ hn
 have hi:=(X16.1 hx).1
 rw[P2 h1 (by omega),AA]
 refine hn _ ⟨?_,fun y=>?_,?_⟩
 ·split
  ·exact h1
  exact Kx Wh aS h1 ‹_›
 ·have ht:y∈l.take (i+1)↔y∈l.take i\/y=x:=by
   rw[List.take_add_one,hx];simp
  rw[ht]
  split
  ·rename_i hxv
   rw[h2]
   constructor
   ·rintro (h | h)
    ·exact .inl h
    exact .inr (.inl h)
   rintro (h | h | rfl)
   ·exact .inl h
   ·exact .inr h
   exact (h2 _).1 hxv
  rw[Ri,h2,or_assoc]
 split
 ·omega
 rw[Rx];omega
theorem XE {r:JAD}{n:ByteArray}(hm:Mod r.Sets){a:List Int}{m:List ByteArray}{sn:List (ByteArray×Bool)}{x:ByteArray}{td:List ByteArray}(h:RI r.Sets n a m sn (x::td)){ρ:Type}{Q:ρ->Prop}
  {next:List Int×List ByteArray×List (ByteArray×Bool)×List ByteArray->Option ρ}
  (hn :∀a' m' sn' td',RI r.Sets n a' m' sn' td'->td'.length+(4097-sn'.length)<(x::td).length+(4097-sn.length)->Ok (next (a',m',sn',td')) Q) :
  Ok (AB (τ:=(List Int)×(List ByteArray)×(List (ByteArray×Bool))×(List ByteArray)) (fun k10=>
       Option.bind (geti (x::td) 0) fun v11=>
       Option.bind (GE r v11) fun (v12,v13)=>
       AB (τ:=(List ByteArray)) (fun k14=>
        if (!v13) then
         Option.bind (geti (x::td) 0) fun v15=>
         Option.bind (CX m v15) fun v16=>
         k14 v16
        else
         k14 m
       ) fun v17=>
       Option.bind (part (x::td) 1 ((x::td).length:Int)) fun v18=>
       AB (τ:=(List Int)) (fun k19=>
        Aa (σ:=(List Int)) (fun v20=>
         k19 v20
        ) (fun next21 x22 i23 v20=>
         Option.bind (Eo v20 x22) fun v24=>
         next21 v24
        ) v12.ASNs 0 a
       ) fun v25=>
       AB (τ:=(List (ByteArray×Bool))×(List ByteArray)) (fun k26=>
        Aa (σ:=(List (ByteArray×Bool))×(List ByteArray)) (fun (v27,v28)=>
         k26 (v27,v28)
        ) (fun next29 x30 i31 (v27,v28)=>
         Option.bind (some (Option.getD (DI v27 x30) false)) fun v32=>
         AB (τ:=(List (ByteArray×Bool))×(List ByteArray)) (fun k33=>
          if (!v32) then
           Option.bind (apnd (α:=ByteArray) 16 v28 ([x30]:List ByteArray)) fun v34=>
           k33 ((CW v27 x30 true),v34)
          else
           k33 (v27,v28)
         ) fun (v35,v36)=>
         next29 (v35,v36)
        ) v12.Sets 0 (sn,v18)
       ) fun (v37,v38)=>
       k10 (v25,v17,v37,v38)
      ) fun (v39,v40,v41,v42)=>
      next (v39,v40,v41,v42)) Q:=by
 have hkl:=Rb hm h.nd h.rn
 have hla:=h.la
 have hlm:=h.lm
 simp only[X12] at hla hlm hn
 have hx:=h.tk x (by simp)
 have hxr:=h.rn x hx
 rw[AC]
 have g0:geti (x::td) 0=some x:=C7 (l:=x::td) (i:=0) (by simp)
 have p1:part (x::td) 1 ((x::td).length:Int)=some td:=by
  have:=Qg (l:=x::td) (n:=1) (by simp)
  simpa using this
 rw[g0,AA,ME,AA]
 dsimp only
 rw[p1]
 have hmiss :∀K:List ByteArray->Option ρ,(∀m',m'.Pairwise (fun a b=>ltN a b=true)->(∀y,y∈m'↔y∈m\/(y=x/\D7 r.Sets x=none))->m'.length<=m.length+1->Ok (K m') Q)->
   Ok (AB (τ:=(List ByteArray)) (fun k14=>if (!(D7 r.Sets x).isSome) then Option.bind (some x) fun v15=>Option.bind (CX m v15) fun v16=>k14 v16 else k14 m) K) Q:=by
  intro K hK
  rw[AC]
  cases hf:D7 r.Sets x with
  | some s=>
   rw[if_neg (by simp)]
   exact hK m h.pm (by simp[hf]) (by omega)
  | none=>
   rw[if_pos (by simp),AA,Lu h.pm (by omega),AA]
   refine hK _ ?_ (fun y=>?_) ?_
   ·split
    ·exact h.pm
    exact Kx W6 aX h.pm ‹_›
   ·split
    ·simp only[hf,and_true]
     constructor
     ·exact .inl
     rintro (h | rfl)
     ·exact h
     assumption
    rw[Ri];simp[hf]
   split
   ·omega
   rw[Rx];omega
 refine hmiss _ fun m' hm1 hm2 hm3=>?_
 rw[AA,AC]
 generalize hs:(D7 r.Sets x).getD S4=s
 have hsl:s.ASNs.length<=64/\s.Sets.length<=64:=by
  cases hf:D7 r.Sets x with
  | none=>rw[hf] at hs;subst hs;exact⟨by simp[S4],by simp[S4]⟩
  | some s'=>
   rw[hf] at hs
   simp only[Option.getD_some] at hs
   subst hs
   exact⟨hm.a _ (GF hf).1,hm.s _ (GF hf).1⟩
 have hss :∀t∈r.Sets,t.Name=x->t=s/\D7 r.Sets x=some s:=by
  intro t ht he
  have:=hm.u.find ht
  rw[he] at this
  rw[this] at hs
  simp only[Option.getD_some] at hs
  subst hs
  exact⟨rfl,this⟩
 have hsm :∀y,y∈s.ASNs\/y∈s.ASNs->True:=fun _ _=>trivial
 have hsr:(s.ASNs≠[]\/s.Sets≠[])->s∈r.Sets/\s.Name=x:=by
  intro hne
  cases hf:D7 r.Sets x with
  | none=>rw[hf] at hs;subst hs;simp[S4] at hne
  | some s'=>
   rw[hf] at hs
   simp only[Option.getD_some] at hs
   subst hs
   exact GF hf
 refine cG h.pa (by omega) fun a' ha1 ha2 ha3=>?_
 rw[AC]
 refine .forX (fun i (p:List (ByteArray×Bool)×List ByteArray)=>(keys p.1).Nodup/\(∀q∈p.1,q.2=true)/\(∀y,y∈keys p.1↔y∈keys sn\/y∈s.Sets.take i)/\(∀y∈p.2,y∈keys p.1)/\(∀y∈keys p.1,y∈keys sn\/y∈p.2)/\(∀y∈td,y∈p.2)/\p.2.length+sn.length=td.length+p.1.length)
  ⟨h.nd,h.tr,by simp,fun y hy=>h.tk y (X19 _ hy),fun y hy=>.inl hy,fun y hy=>hy,rfl⟩ ?_ ?_
 ·rintro⟨sn',td'⟩ ⟨b1,b2,b3,b4,b5,b6,b7⟩
  simp only[List.take_length] at b1 b2 b3 b4 b5 b6 b7
  have hrn :∀y∈keys sn',RN r.Sets n y:=by
   intro y hy
   rcases (b3 y).1 hy with hy | hy
   ·exact h.rn y hy
   obtain⟨q1,q2⟩:=hsr (.inr (fun e=>by rw[e] at hy;simp at hy))
   exact .step q1 (by rw[q2];exact hxr) hy
  have hkl':=Rb hm b1 hrn
  refine hn a' m' sn' td' ⟨ha1,hm1,b1,b2,hrn,b4,fun y hy=>?_,fun y hy=>?_,fun y hy=>?_,(b3 n).2 (.inl h.n0),by omega,by omega⟩ (by omega)
  ·rcases (ha2 y).1 hy with hy | hy
   ·exact h.sa y hy
   obtain⟨q1,q2⟩:=hsr (.inl (fun e=>by rw[e] at hy;simp at hy))
   exact⟨s,q1,by rw[q2];exact hxr,hy⟩
  ·rcases (hm2 y).1 hy with hy | ⟨rfl,hf⟩
   ·exact h.sm y hy
   exact⟨hxr,Mc hf⟩
  rcases b5 y hy with hy' | hy'
  ·rcases h.pr y hy' with hp | ⟨p1,p2⟩
   ·rcases List.mem_cons.1 hp with rfl | hp
    ·refine .inr ⟨fun t ht he=>?_,fun hno=>?_⟩
     ·obtain⟨e1,e2⟩:=hss t ht he
      subst e1
      exact⟨fun z hz=>(ha2 z).2 (.inr hz),fun z hz=>(b3 z).2 (.inr hz)⟩
     refine (hm2 _).2 (.inr ⟨rfl,?_⟩)
     cases hf:D7 r.Sets y with
     | none=>rfl
     | some t=>exact absurd (GF hf).2 (hno t (GF hf).1)
    exact .inl (b6 y hp)
   refine .inr ⟨fun t ht he=>?_,fun hno=>(hm2 y).2 (.inl (p2 hno))⟩
   obtain⟨c1,c2⟩:=p1 t ht he
   exact⟨fun z hz=>(ha2 z).2 (.inl (c1 z hz)),fun z hz=>(b3 z).2 (.inl (c2 z hz))⟩
  exact .inl hy'
 rintro nx y i ⟨sn',td'⟩ hy ⟨b1,b2,b3,b4,b5,b6,b7⟩ hnx
 simp only at b1 b2 b3 b4 b5 b6 b7
 have hi:=(X16.1 hy).1
 have ht :∀z,z∈s.Sets.take (i+1)↔z∈s.Sets.take i\/z=y:=fun z=>by rw[List.take_add_one,hy];simp
 have hrn :∀z∈keys sn',RN r.Sets n z:=by
  intro z hz
  rcases (b3 z).1 hz with hz | hz
  ·exact h.rn z hz
  have hz:=List.mem_of_mem_take hz
  obtain⟨q1,q2⟩:=hsr (.inr (fun e=>by rw[e] at hz;simp at hz))
  exact .step q1 (by rw[q2];exact hxr) hz
 have hkl':=Rb hm b1 hrn
 simp only[AA]
 rw[AC,Vr b2]
 by_cases hyk:y∈keys sn'
 ·rw[decide_eq_true hyk,if_neg (by decide)]
  refine hnx _ ⟨b1,b2,fun z=>?_,b4,b5,b6,b7⟩
  rw[b3,ht]
  constructor
  ·rintro (h | h)
   ·exact .inl h
   exact .inr (.inl h)
  rintro (h | h | rfl)
  ·exact .inl h
  ·exact .inr h
  exact (b3 _).1 hyk
 rw[decide_eq_false hyk,if_pos (by decide)]
 refine .bind (Ok.apnd (by decide) (by simp;omega)) fun td2 htd2=>?_
 subst htd2
 refine hnx _ ⟨JY b1,TG b2 y,fun z=>?_,fun z hz=>?_,fun z hz=>?_,fun z hz=>?_,?_⟩
 ·rw[FK,b3,ht,or_assoc]
 ·rw[FK]
  rcases X23.1 hz with hz | hz
  ·exact .inl (b4 z hz)
  exact .inr (by simpa using hz)
 ·rcases FK.1 hz with hz | rfl
  ·exact (b5 z hz).imp id fun h=>X23.2 (.inl h)
  exact .inr (by simp)
 ·exact X23.2 (.inl (b6 z hz))
 simp only
 rw[NP hyk]
 simp only[X11,X12,X13]
 omega
theorem RI.init {L:List Set}(n:ByteArray):RI L n [] [] (CW [] n true) [n]:=by
 refine⟨.nil,.nil,by simp[CW],by simp[CW],?_,?_,by simp,by simp,?_,by simp[CW],by simp[CW],by simp[CW]⟩
 ·intro x hx
  simp[CW] at hx
  subst hx
  exact .base
 ·intro x hx;simp[CW] at hx ⊢;exact hx
 intro x hx
 simp[CW] at hx
 exact .inl (by simp[hx])
theorem NA {r:JAD}{n:ByteArray}(hm:Mod r.Sets)(hz :∀s∈r.Sets,GM s)(hv:Fq r=true) :
  Ok (Ek r n) fun res=>(D7 r.Sets n=none/\res=([],[],11))\/(∃s,D7 r.Sets n=some s/\res.2.2=0/\Exp r.Sets n res.1 res.2.1):=by
 unfold Ek
 rw[Gs hz,hv,AA,if_neg (by decide),ME,AA]
 dsimp only
 cases hf:D7 r.Sets n with
 | none=>exact .ite (fun _=>.ret (.inl ⟨rfl,rfl⟩)) fun h=>absurd rfl h
 | some s=>
  refine .ite (fun h=>absurd h (by simp)) fun _=>?_
  refine .join (fun p:List Int×List ByteArray=>Exp r.Sets n p.1 p.2) (fun k hk=>?_) fun p hp=>.ret (.inr ⟨s,rfl,rfl,hp⟩)
  refine .whileI (fun p:(List Int)×(List ByteArray)×(List (ByteArray×Bool))×(List ByteArray)=>RI r.Sets n p.1 p.2.1 p.2.2.1 p.2.2.2) (fun p=>p.2.2.2.length+(4097-p.2.2.1.length)) (RI.init n) (EJ (by simp[CW])) ?_
  rintro next ⟨a,m,sn,td⟩ hri hnx
  simp only at hri
  cases td with
  | nil=>
   dsimp only
   rw[if_neg (by simp)]
   exact hk (a,m) hri.fin
  | cons x td=>
   dsimp only
   rw[if_pos (by simp)]
   exact XE hm hri fun a' m' sn' td' h1 h2=>hnx (a',m',sn',td') h1 h2
theorem VB {V:Type}{m:List (Int×V)}(h1:(m.map (·.1)).Nodup)(h2 :∀p∈m,-9223372036854775808<=p.1/\p.1<=9223372036854775807)(h3:m.length<=1000000000000) :
  ∃r,Of m=some r/\(r.Pairwise fun a b=>ltI a b=true)/\∀x,x∈r↔x∈m.map (·.1):=by
 have ht :∀a b c:Int,decide (a<=b)=true->decide (b<=c)=true->decide (a<=c)=true:=fun a b c h1 h2=>by simp at *;omega
 have hto :∀a b:Int,(decide (a<=b) || decide (b<=a))=true:=fun a b=>by simp;omega
 unfold Of
 rw[if_pos ⟨h1,by simpa using fun a b hab=>h2 (a,b) hab,h3⟩]
 refine⟨_,rfl,?_,fun x=>(List.mergeSort_perm _ _).mem_iff⟩
 have hp:=List.pairwise_mergeSort ht hto (m.map (·.1))
 have hn:((m.map (·.1)).mergeSort fun x y=>decide (x<=y)).Nodup:=(List.mergeSort_perm _ _).nodup_iff.2 h1
 refine (hp.and hn).imp fun {a b} ⟨q1,q2⟩=>?_
 simp[ltI] at q1 ⊢
 omega
theorem Uw {V:Type}{m:List (ByteArray×V)}(h1:(m.map (·.1)).Nodup)(h2 :∀p∈m,p.1.size<=maxLen)(h3:m.length<=1000000000000) :
  ∃r,O7 m=some r/\(r.Pairwise fun a b=>ltN a b=true)/\∀x,x∈r↔x∈m.map (·.1):=by
 have ht :∀a b c:List UInt8,decide (a<=b)=true->decide (b<=c)=true->decide (a<=c)=true:=fun a b c h1 h2=>by
  simp only[decide_eq_true_eq] at *;exact List.le_trans h1 h2
 have hto :∀a b:List UInt8,(decide (a<=b) || decide (b<=a))=true:=fun a b=>by
  simp only[Bool.or_eq_true,decide_eq_true_eq];exact List.le_total a b
 unfold O7
 rw[if_pos ⟨h1,by simpa using fun a b hab=>h2 (a,b) hab,h3⟩]
 have hmk :∀b:ByteArray,(⟨b.data.toList.toArray⟩:ByteArray)=b:=fun b=>by cases b;simp
 have hl2 :∀l:List UInt8,(⟨l.toArray⟩:ByteArray).toList=l:=fun l=>by rw[O5]
 have hp:=List.pairwise_mergeSort ht hto (m.map (·.1.data.toList))
 have hinj:(m.map (·.1.data.toList)).Nodup:=by
  have:m.map (·.1.data.toList)=(m.map (·.1)).map fun b=>b.data.toList:=by simp
  rw[this]
  exact List.pairwise_map.2 (h1.imp fun {a b} hab e=>hab (by rw[<- hmk a,<- hmk b,e]))
 have hn:((m.map (·.1.data.toList)).mergeSort fun x y=>decide (x<=y)).Nodup:=(List.mergeSort_perm _ _).nodup_iff.2 hinj
 refine⟨_,rfl,List.pairwise_map.2 ((hp.and hn).imp fun {a b} ⟨q1,q2⟩=>?_),fun x=>?_⟩
 ·have hm :∀l,l∈((m.map (·.1.data.toList)).mergeSort fun x y=>decide (x<=y))↔l∈m.map (·.1.data.toList):=fun l=>(List.mergeSort_perm _ _).mem_iff
  constructor
  ·intro hx
   obtain⟨l,hl,rfl⟩:=List.mem_map.1 hx
   obtain⟨p,hp,rfl⟩:=List.mem_map.1 ((hm l).1 hl)
   rw[hmk]
   exact List.mem_map.2 ⟨p,hp,rfl⟩
  intro hx
  obtain⟨p,hp,rfl⟩:=List.mem_map.1 hx
  refine List.mem_map.2 ⟨p.1.data.toList,(hm _).2 (List.mem_map.2 ⟨p,hp,rfl⟩),hmk _⟩
 rw[N7,hl2,hl2]
 simp only[decide_eq_true_eq] at q1
 rcases List.le_iff_lt_or_eq.1 q1 with h | h
 ·exact h
 exact absurd h q2
structure PI (L:List Set)(n:ByteArray)(mt:List (ByteArray×Bool))(a:List (Int×Bool))(ms:List (ByteArray×Bool))(q:List ByteArray):Prop where
 nm:(keys mt).Nodup
 tm :∀p∈mt,p.2=true
 rm :∀x∈keys mt,(∃s∈L,s.Name=x)/\RN L n x
 na:(a.map (·.1)).Nodup
 ra :∀x∈a.map (·.1),∃s∈L,RN L n s.Name/\x∈s.ASNs
 ns:(keys ms).Nodup
 rs :∀x∈keys ms,RN L n x/\∀s∈L,s.Name≠x
 rq :∀x∈q,RN L n x
 cl :∀s∈L,s.Name∈keys mt->(∀y∈s.ASNs,y∈a.map (·.1))/\∀y∈s.Sets,y∈q\/y∈keys mt\/y∈keys ms
 n0:n∈q\/n∈keys mt\/n∈keys ms
 la:a.length<=64*mt.length
 lm:ms.length+(q.length+65*(64-mt.length))<=4161
theorem PI.mt_len {L:List Set}{n:ByteArray}{mt:List (ByteArray×Bool)}{a:List (Int×Bool)}{ms:List (ByteArray×Bool)}{q:List ByteArray}(hm:Mod L)(h:PI L n mt a ms q):mt.length<=64:=by
 have h1:=ID (m:=L.map (·.Name)) h.nm fun x hx=>by
  obtain⟨⟨s,hs,he⟩,_⟩:=h.rm x hx
  exact List.mem_map.2 ⟨s,hs,he⟩
 have h2:=hm.n
 simp only[keys,X10] at h1
 omega
theorem PI.fin {L:List Set}{n:ByteArray}{mt:List (ByteArray×Bool)}{a:List (Int×Bool)}{ms:List (ByteArray×Bool)}(h:PI L n mt a ms []){ra:List Int}{rs:List ByteArray}
  (h1:ra.Pairwise fun a b=>ltI a b=true) (h2 :∀x,x∈ra↔x∈a.map (·.1)) (h3:rs.Pairwise fun a b=>ltN a b=true) (h4 :∀x,x∈rs↔x∈ms.map (·.1)):Exp L n ra rs:=by
 have hall :∀x,RN L n x->x∈keys mt\/x∈keys ms:=by
  intro x hx
  induction hx with
  | base=>simpa using h.n0
  | step hs _ hy ih=>
   rcases ih with ih | ih
   ·simpa using (h.cl _ hs ih).2 _ hy
   exact absurd rfl ((h.rs _ ih).2 _ hs)
 refine⟨h1,fun x=>?_,h3,fun x=>?_⟩
 ·rw[h2]
  refine⟨h.ra x,fun ⟨s,hs,q1,q2⟩=>?_⟩
  rcases hall _ q1 with hp | hp
  ·exact (h.cl s hs hp).1 x q2
  exact absurd rfl ((h.rs _ hp).2 s hs)
 rw[h4]
 refine⟨h.rs x,fun ⟨q1,q2⟩=>?_⟩
 rcases hall _ q1 with hp | hp
 ·obtain⟨⟨s,hs,he⟩,_⟩:=h.rm x hp
  exact absurd he (q2 s hs)
 exact hp
theorem PI.init (L:List Set)(n:ByteArray):PI L n [] [] [] [n]:=
 ⟨by simp[keys],by simp,by simp[keys],by simp,by simp,by simp[keys],by simp[keys],fun x hx=>by simp at hx;subst hx;exact .base,by simp[keys],by simp,by simp,by simp⟩
theorem bK {L:List Set}(hu:Uni L){ρ:Type}{Q:ρ->Prop}{K:List (ByteArray×Set)->Option ρ}(hK :∀m,(∀x,DI m x=D7 L x)->Ok (K m) Q) :
  Ok (AB (τ:=(List (ByteArray×Set))) (fun k2=>Aa (σ:=(List (ByteArray×Set))) (fun v3=>k2 v3) (fun next4 x5 i6 v3=>next4 (CW v3 x5.Name x5)) L 0 []) K) Q:=by
 rw[AC]
 refine .forX (fun i (m:List (ByteArray×Set))=>∀x,DI m x=D7 (L.take i) x) (fun x=>by simp[DI,D7]) (fun m h=>hK m (by simpa using h)) ?_
 intro next s i m hs hI hn
 refine hn _ fun x=>?_
 rw[Go.AX.mget_mset,List.take_add_one,hs,hI]
 unfold D7
 rw[List.find?_append]
 have hlt:=(X16.1 hs).1
 have hge:=(X16.1 hs).2
 by_cases hx:s.Name=x
 ·have h0:(L.take i).find? (fun s=>decide (s.Name=x))=none:=by
   rw[List.find?_eq_none]
   intro t ht he
   have he:t.Name=x:=by simpa using he
   obtain⟨j,hj,rfl⟩:=List.getElem_of_mem ht
   rw[List.getElem_take] at he
   have hji:j<i:=by simp at hj;omega
   have:=(List.pairwise_iff_getElem.1 hu) j i (by simp;omega) (by simpa using hlt) hji
   simp only[List.getElem_map] at this
   exact this (by rw[he,hge,hx])
  simp[hx,h0]
 have:(x==s.Name)=false:=by simpa using Ne.symm hx
 simp[hx,this]
theorem bY {a:List (Int×Bool)}{l:List Int}{ρ:Type}{Q:ρ->Prop}{K:List (Int×Bool)->Option ρ}(ha:(a.map (·.1)).Nodup)
  (hK :∀v,(v.map (·.1)).Nodup->(∀y,y∈v.map (·.1)↔y∈a.map (·.1)\/y∈l)->v.length<=a.length+l.length->Ok (K v) Q) :
  Ok (Aa (σ:=(List (Int×Bool))) (fun v26=>K v26) (fun next27 x28 i29 v26=>next27 (CW v26 x28 true)) l 0 a) Q:=by
 refine .forX (fun i v=>(v.map (·.1)).Nodup/\(∀y,y∈v.map (·.1)↔y∈a.map (·.1)\/y∈l.take i)/\v.length<=a.length+i) ⟨ha,by simp,by simp⟩ (fun v ⟨h1,h2,h3⟩=>hK v h1 (by simpa using h2) h3) ?_
 rintro next x i v hx ⟨h1,h2,h3⟩ hn
 refine hn _ ⟨JY h1,fun y=>?_,Nat.le_trans (Vk _ _ _) (by omega)⟩
 rw[FK,h2,List.take_add_one,hx,or_assoc]
 simp
theorem Yv {L:List Set}{n:ByteArray}(hm:Mod L){sets:List (ByteArray×Set)}(hsets :∀x,DI sets x=D7 L x){mt:List (ByteArray×Bool)}{a:List (Int×Bool)}{ms:List (ByteArray×Bool)}{x:ByteArray}{q:List ByteArray}
  (h:PI L n mt a ms (x::q)) {ρ:Type} {Q:ρ->Prop} {next:List (ByteArray×Bool)×List (Int×Bool)×List (ByteArray×Bool)×List ByteArray->Option ρ}
  (hn :∀mt' a' ms' q',PI L n mt' a' ms' q'->q'.length+65*(64-mt'.length)<(x::q).length+65*(64-mt.length)->Ok (next (mt',a',ms',q')) Q) :
  Ok (AB (τ:=(List (ByteArray×Bool))×(List (Int×Bool))×(List (ByteArray×Bool))×(List ByteArray)) (fun k16=>
       Option.bind (geti (x::q) 0) fun v17=>
       Option.bind (some (Option.getD (DI sets v17) (⟨ByteArray.empty,[],[]⟩:Set))) fun v18=>
       Option.bind (some (Option.isSome (DI sets v17))) fun v19=>
       AB (τ:=(List (ByteArray×Bool))×(List (Int×Bool))×(List (ByteArray×Bool))×(List ByteArray)) (fun k20=>
        AB (τ:=(List (ByteArray×Bool))×(List (Int×Bool))×(List (ByteArray×Bool))×(List ByteArray)) (fun k21=>
         if (!v19) then
          Option.bind (geti (x::q) 0) fun v22=>
          k21 (mt,a,(CW ms v22 true),(x::q))
         else
          Option.bind (some (Option.getD (DI mt v18.Name) false)) fun v23=>
          AB (τ:=(List (ByteArray×Bool))×(List (Int×Bool))×(List ByteArray)) (fun k24=>
           if (!v23) then
            AB (τ:=(List (Int×Bool))) (fun k25=>
             Aa (σ:=(List (Int×Bool))) (fun v26=>
              k25 v26
             ) (fun next27 x28 i29 v26=>
              next27 (CW v26 x28 true)
             ) v18.ASNs 0 a
            ) fun v30=>
            Option.bind (apnd (α:=ByteArray) 16 (x::q) v18.Sets) fun v31=>
            k24 ((CW mt v18.Name true),v30,v31)
           else
            k24 (mt,a,(x::q))
          ) fun (v32,v33,v34)=>
          k21 (v32,v33,ms,v34)
        ) fun (v35,v36,v37,v38)=>
        k20 (v35,v36,v37,v38)
       ) fun (v39,v40,v41,v42)=>
       k16 (v39,v40,v41,v42)
      ) fun (v43,v44,v45,v46)=>
      Option.bind (part v46 1 (v46.length:Int)) fun v47=>
      next (v43,v44,v45,v47)) Q:=by
 have hxr:=h.rq x (by simp)
 have hmt:=h.mt_len hm
 have hlm:=h.lm
 have hla:=h.la
 simp only[X12] at hlm hn
 have g0:geti (x::q) 0=some x:=C7 (l:=x::q) (i:=0) (by simp)
 have p1 :∀l:List ByteArray,part (x::l) 1 ((x::l).length:Int)=some l:=fun l=>by
  have:=Qg (l:=x::l) (n:=1) (by simp)
  simpa using this
 simp only[AC]
 rw[g0,AA,AA,AA,AA,hsets]
 cases hf:D7 L x with
 | none=>
  rw[if_pos (by simp),p1,AA]
  have hno:=Mc hf
  have hl2:=Vk ms x true
  refine hn mt a _ q ⟨h.nm,h.tm,h.rm,h.na,h.ra,JY h.ns,fun y hy=>?_,fun y hy=>h.rq y (X19 _ hy),fun s hs hk=>⟨(h.cl s hs hk).1,fun y hy=>?_⟩,?_,h.la,by omega⟩ (by omega)
  ·rcases FK.1 hy with hy | rfl
   ·exact h.rs y hy
   exact⟨hxr,hno⟩
  ·rw[FK]
   rcases (h.cl s hs hk).2 y hy with hy | hy | hy
   ·rcases List.mem_cons.1 hy with rfl | hy
    ·exact .inr (.inr (.inr rfl))
    exact .inl hy
   ·exact .inr (.inl hy)
   exact .inr (.inr (.inl hy))
  rw[FK]
  rcases h.n0 with hy | hy | hy
  ·rcases List.mem_cons.1 hy with e | hy
   ·exact .inr (.inr (.inr e))
   exact .inl hy
  ·exact .inr (.inl hy)
  exact .inr (.inr (.inl hy))
 | some s=>
  obtain⟨hs,hsn⟩:=GF hf
  rw[if_neg (by simp)]
  simp only[Option.getD_some]
  rw[Vr h.tm]
  by_cases hk:s.Name∈keys mt
  ·rw[decide_eq_true hk,AA,if_neg (by decide),p1,AA]
   have hxm:x∈keys mt:=by rw[<- hsn];exact hk
   refine hn mt a ms q ⟨h.nm,h.tm,h.rm,h.na,h.ra,h.ns,h.rs,fun y hy=>h.rq y (X19 _ hy),fun t ht hk=>⟨(h.cl t ht hk).1,fun y hy=>?_⟩,?_,h.la,by omega⟩ (by omega)
   ·rcases (h.cl t ht hk).2 y hy with hy | hy | hy
    ·rcases List.mem_cons.1 hy with rfl | hy
     ·exact .inr (.inl hxm)
     exact .inl hy
    ·exact .inr (.inl hy)
    exact .inr (.inr hy)
   rcases h.n0 with hy | hy | hy
   ·rcases List.mem_cons.1 hy with e | hy
    ·exact .inr (.inl (by rw[e];exact hxm))
    exact .inl hy
   ·exact .inr (.inl hy)
   exact .inr (.inr hy)
  rw[decide_eq_false hk,AA,if_pos (by decide)]
  refine bY h.na fun a' ha1 ha2 ha3=>?_
  have hsa:=hm.a s hs
  have hss:=hm.s s hs
  refine .bind (Ok.apnd (by decide) (by simp only[X12];omega)) fun q2 hq2=>?_
  subst hq2
  have p2:part (x::q++s.Sets) 1 ((x::q++s.Sets).length:Int)=some (q++s.Sets):=p1 (q++s.Sets)
  rw[p2,AA]
  have hml:=NP hk true
  have hlt:mt.length<64:=by
   have h1:=ID (l:=s.Name::keys mt) (m:=L.map (·.Name)) (List.nodup_cons.2 ⟨hk,h.nm⟩) fun y hy=>by
    rcases List.mem_cons.1 hy with rfl | hy
    ·exact List.mem_map.2 ⟨s,hs,rfl⟩
    obtain⟨⟨t,ht,he⟩,_⟩:=h.rm y hy
    exact List.mem_map.2 ⟨t,ht,he⟩
   have h2:=hm.n
   simp only[X12,keys,X10] at h1
   omega
  have hsr:RN L n s.Name:=by rw[hsn];exact hxr
  refine hn _ a' ms _ ⟨JY h.nm,TG h.tm _,fun y hy=>?_,ha1,fun y hy=>?_,h.ns,h.rs,fun y hy=>?_,fun t ht hkt=>?_,?_,by omega,by simp only[X11];omega⟩ (by simp only[X11];omega)
  ·rcases FK.1 hy with hy | rfl
   ·exact h.rm y hy
   exact⟨⟨s,hs,rfl⟩,hsr⟩
  ·rcases (ha2 y).1 hy with hy | hy
   ·exact h.ra y hy
   exact⟨s,hs,hsr,hy⟩
  ·rcases X23.1 hy with hy | hy
   ·exact h.rq y (X19 _ hy)
   exact .step hs hsr hy
  ·rcases FK.1 hkt with hkt | hkt
   ·obtain⟨c1,c2⟩:=h.cl t ht hkt
    refine⟨fun y hy=>(ha2 y).2 (.inl (c1 y hy)),fun y hy=>?_⟩
    rw[FK]
    rcases c2 y hy with hy | hy | hy
    ·rcases List.mem_cons.1 hy with rfl | hy
     ·exact .inr (.inl (.inr hsn.symm))
     exact .inl (X23.2 (.inl hy))
    ·exact .inr (.inl (.inl hy))
    exact .inr (.inr hy)
   have:=hm.u.eq ht hs hkt
   subst this
   exact⟨fun y hy=>(ha2 y).2 (.inr hy),fun y hy=>.inl (X23.2 (.inr hy))⟩
  rw[FK]
  rcases h.n0 with hy | hy | hy
  ·rcases List.mem_cons.1 hy with e | hy
   ·exact .inr (.inl (.inr (by rw[e,hsn])))
   exact .inl (X23.2 (.inl hy))
  ·exact .inr (.inl (.inl hy))
  exact .inr (.inr hy)
theorem G5 {r:JAD}{n:ByteArray}(hm:Mod r.Sets)(hz :∀s∈r.Sets,GM s)(hnz:n.size<=maxLen)(hnum :∀s∈r.Sets,∀x∈s.ASNs,B8 x=true)(hv:Fq r=true) :
  Ok (DL r n) fun res=>(D7 r.Sets n=none/\res=([],[],11))\/(∃s,D7 r.Sets n=some s/\res.2.2=0/\Exp r.Sets n res.1 res.2.1):=by
 have hnsz :∀x,RN r.Sets n x->x.size<=maxLen:=by
  intro x hx
  cases hx with
  | base=>exact hnz
  | step hs _ hy=>exact (hz _ hs).2 _ hy
 unfold DL
 rw[Gm hz,hv,AA,if_neg (by decide)]
 refine bK hm.u fun sets hsets=>?_
 rw[AA,AA,hsets]
 cases hf:D7 r.Sets n with
 | none=>exact .ite (fun _=>.ret (.inl ⟨rfl,rfl⟩)) fun h=>absurd rfl h
 | some s=>
  refine .ite (fun h=>absurd h (by simp)) fun _=>?_
  refine .join (fun p:List (Int×Bool)×List (ByteArray×Bool)=>∃mt,PI r.Sets n mt p.1 p.2 []) (fun k hk=>?_) ?_
  ·refine .whileI (fun p:(List (ByteArray×Bool))×(List (Int×Bool))×(List (ByteArray×Bool))×(List ByteArray)=>PI r.Sets n p.1 p.2.1 p.2.2.1 p.2.2.2) (fun p=>p.2.2.2.length+65*(64-p.1.length)) (PI.init _ n) (EJ (by simp)) ?_
   rintro next ⟨mt,a,ms,q⟩ hpi hnx
   simp only at hpi
   cases q with
   | nil=>
    dsimp only
    rw[if_neg (by simp)]
    exact hk (a,ms) ⟨mt,hpi⟩
   | cons x q=>
    dsimp only
    rw[if_pos (by simp)]
    exact Yv hm hsets hpi fun mt' a' ms' q' h1 h2=>hnx (mt',a',ms',q') h1 h2
  rintro⟨a,ms⟩ ⟨mt,hpi⟩
  have hml:=hpi.mt_len hm
  have hla:=hpi.la
  have hlm:=hpi.lm
  dsimp only
  simp only at hla hlm hpi
  obtain⟨ra,e1,e2,e3⟩:=VB hpi.na (fun p hp=>by
   obtain⟨t,ht,_,hx⟩:=hpi.ra p.1 (List.mem_map.2 ⟨p,hp,rfl⟩)
   have:=hnum t ht _ hx
   simp[B8] at this
   omega) (by omega)
  obtain⟨rs,f1,f2,f3⟩:=Uw hpi.ns (fun p hp=>hnsz _ (hpi.rs p.1 (List.mem_map.2 ⟨p,hp,rfl⟩)).1) (by omega)
  rw[e1,AA,f1,AA]
  exact .ret (.inr ⟨s,rfl,rfl,hpi.fin e2 e3 f2 f3⟩)
theorem TC :∀{l:List Set} {seen:List ByteArray},MB seen l=true↔(l.map (·.Name)).Nodup/\(∀s∈l,s.Name∉seen)/\∀s∈l,P1 s=true
 | [],seen=>by simp[MB]
 | x::t,seen=>by
  rw[MB,X27,X27,TC,List.map_cons,List.nodup_cons]
  simp only[Bool.not_eq_true',decide_eq_false_iff_not,List.mem_cons,forall_eq_or_imp,not_or]
  constructor
  ·rintro⟨⟨h1,h2⟩,h3,h4,h5⟩
   refine⟨⟨fun hm=>?_,h3⟩,⟨h1,fun s hs=>(h4 s hs).2⟩,h2,h5⟩
   obtain⟨s,hs,he⟩:=List.mem_map.1 hm
   exact (h4 s hs).1 he
  rintro⟨⟨h1,h2⟩,⟨h3,h4⟩,h5,h6⟩
  exact⟨⟨h3,h5⟩,h2,fun s hs=>⟨fun he=>h1 (List.mem_map.2 ⟨s,hs,he⟩),h4 s hs⟩,h6⟩
theorem OE {r:JAD}:Fq r=true↔(Uni r.Sets/\∀s∈r.Sets,P1 s=true)/\(∀o∈r.Objects,Me o=true)/\r.Sets.length<=64/\r.Objects.length<=512:=by
 unfold Fq Uni
 simp only[X27,decide_eq_true_eq,List.all_eq_true,TC,and_assoc]
 simp
theorem OU {s:Set}:P1 s=true↔nameB s.Name=true/\s.ASNs.length<=64/\s.Sets.length<=64/\(∀n∈s.ASNs,B8 n=true)/\∀x∈s.Sets,nameB x=true:=by
 unfold P1
 simp only[X27,decide_eq_true_eq,List.all_eq_true,and_assoc]
theorem Qd {r:JAD}(h:Fq r=true):Mod r.Sets/\∀s∈r.Sets,∀x∈s.ASNs,B8 x=true:=by
 obtain⟨⟨h1,h2⟩,_,h3,_⟩:=OE.1 h
 exact⟨⟨h3,h1,fun s hs=>(OU.1 (h2 s hs)).2.1,fun s hs=>(OU.1 (h2 s hs)).2.2.1⟩,fun s hs=>(OU.1 (h2 s hs)).2.2.2.1⟩
theorem Qc {s:ByteArray}(h:nameB s=true):s.size<=maxLen:=by
 have hm:maxLen=9223372036854775807:=rfl
 unfold nameB at h
 simp only[X27,decide_eq_true_eq] at h
 omega
theorem X3 {s:Set}(h:P1 s=true):GM s:=by
 obtain⟨h1,_,_,_,h2⟩:=OU.1 h
 exact⟨Qc h1,fun x hx=>Qc (h2 x hx)⟩
theorem VY {r:JAD}{n:ByteArray}(hz :∀s∈r.Sets,GM s)(hn:n.size<=maxLen) :∃a m e,DL r n=some (a,m,e)/\Ek r n=some (a,m,e):=by
 cases hv:Fq r
 ·refine⟨[],[],1,?_,?_⟩
  ·unfold DL
   rw[Gm hz,hv,AA,if_pos (by decide)]
  unfold Ek
  rw[Gs hz,hv,AA,if_pos (by decide)]
 obtain⟨hm,hnum⟩:=Qd hv
 obtain⟨⟨a,m,e⟩,h1,h2⟩:=G5 hm hz hn hnum hv
 obtain⟨⟨b,k,f⟩,g1,g2⟩:=NA hm hz hv (n:=n)
 refine⟨a,m,e,h1,?_⟩
 rw[g1]
 rcases h2 with ⟨q1,q2⟩|⟨s,q1,q2,q3⟩
 ·rcases g2 with ⟨_,p2⟩|⟨t,p1,_,_⟩
  ·rw[q2,p2]
  rw[q1] at p1;simp at p1
 rcases g2 with ⟨p1,_⟩|⟨t,_,p2,p3⟩
 ·rw[q1] at p1;simp at p1
 simp only at q2 q3 p2 p3
 obtain⟨e1,e2⟩:=q3.unique p3
 rw[e1,e2,q2,p2]
def fam (a:Addr):Int:=if a.V6 then 1 else 0
def Ia (a:Addr):List Int:=[fam a,a.Hi.toNat,a.Lo.toNat]
def TX (o:JAB):List Int:=[fam o.JAA.Addr,o.JAA.Addr.Hi.toNat,o.JAA.Addr.Lo.toNat,o.JAA.Len,o.Max,o.ASN]
def WM (a b:JAB):Int:=Eu (TX a) (TX b)
theorem bL (a b:UInt64):Cb a b=some (YJ a.toNat b.toNat):=by
 unfold Cb EN YJ
 simp only[AA,bne_self_eq_false,Bool.false_eq_true,if_false,decide_eq_true_eq,gt_iff_lt]
 split<;>(try split)<;>rfl
theorem cD (a:Addr):GL a=some (fam a):=by unfold GL fam;split<;>rfl
theorem ZU (l t:List Int):orI (orI l::t)=orI (l++t):=by
 induction l with
 | nil=>rfl
 | cons x s ih=>
  by_cases h:x=0
  ·simp only[orI,h,if_true,List.cons_append] at ih ⊢
   exact ih
  simp[orI,h]
theorem LF (a b:JAB):Ej a b=some (WM a b):=by
 unfold Ej Jj Nl
 simp only[cD,Lj,bL,W8,AA,ZU,List.cons_append,List.nil_append]
 simp only[Ll]
 rfl
theorem U5 (a b:List Int)(c d:List Int)(h:a.length=b.length):Eu (a++c) (b++d)=if Eu a b=0 then Eu c d else Eu a b:=by
 induction a generalizing b with
 | nil=>cases b with
  | nil=>simp[Eu]
  | cons y t=>simp at h
 | cons x s ih=>cases b with
  | nil=>simp at h
  | cons y t=>
   simp only[List.cons_append,Eu]
   rw[ih t (by simpa using h)]
   split
   ·simp
   split<;>simp
theorem JAB.eqd_iff (a b:JAB):JAB.eqd a b=true↔a=b:=by
 have h:=JAA.eqd_iff a.JAA b.JAA
 unfold JAA.eqd at h
 unfold JAB.eqd
 simp only[X27,Bool.and_true,beq_iff_eq] at h ⊢
 rw[h]
 constructor
 ·rintro⟨h1,h2,h3⟩;cases a;cases b;simp_all
 rintro rfl;exact⟨rfl,rfl,rfl⟩
theorem az {a b:Addr}(h:fam a=fam b):a.V6=b.V6:=by
 unfold fam at h
 cases h1:a.V6<;>cases h2:b.V6<;>simp_all
theorem Ve {a b:Addr}(h:Ia a=Ia b):a=b:=by
 simp only[Ia,List.cons.injEq,Int.natCast_inj,UInt64.toNat_inj,and_true] at h
 obtain⟨h1,h2,h3⟩:=h
 have:=az h1
 cases a;cases b;simp_all
theorem Vh {a b:JAB}(h:TX a=TX b):a=b:=by
 simp only[TX,List.cons.injEq,and_true] at h
 obtain⟨h1,h2,h3,h4,h5,h6⟩:=h
 have:=@Ve a.JAA.Addr b.JAA.Addr (by unfold Ia;rw[h1,h2,h3])
 obtain⟨⟨x,y⟩,u,v⟩:=a
 obtain⟨⟨x',y'⟩,u',v'⟩:=b
 simp_all
theorem ak (f p q r s:Int)(h:p≠r\/q≠s):AB (τ:=Bool) (fun k1=>if decide (p<r)=true then k1 true else if (p==r)=true then k1 (cond false true (cond true (decide (q<s)) false)) else k1 false) (fun v2=>if v2=true then some (-1:Int) else some 1)=some (Eu [f,p,q] [f,r,s]):=by
 rw[AC]
 simp only[Eu,Int.lt_irrefl,if_false,decide_eq_true_eq,beq_iff_eq,cond_true,cond_false]
 by_cases a1:p < r<;>by_cases a2:p=r<;>by_cases a3:r < p<;>by_cases b1:q < s<;>by_cases b3:s < q<;>first | (exfalso;omega)|simp[a1,a2,a3,b1,b3]
theorem Tq (a b:Addr):I8 a b=some (Eu (Ia a) (Ia b)):=by
 unfold I8
 by_cases h:a=b
 ·subst h
  rw[if_pos ((Addr.eqd_iff _ _).2 rfl),O9]
 rw[if_neg (fun q=>h ((Addr.eqd_iff _ _).1 q))]
 unfold Ia fam
 by_cases h6:a.V6=b.V6
 ·rw[h6,if_neg (by simp)]
  refine ak _ _ _ _ _ ?_
  by_cases h2:(a.Hi.toNat:Int)=b.Hi.toNat
  ·refine .inr fun h3=>h (Ve ?_)
   unfold Ia fam
   rw[h6,h2,h3]
  exact .inl h2
 rw[if_pos (by simpa using h6)]
 cases ha:a.V6<;>cases hb:b.V6<;>simp_all [Eu]
theorem UJ (a b:JAA):I4 a b=some (Eu (Ia a.Addr++[a.Len]) (Ia b.Addr++[b.Len])):=by
 unfold I4
 rw[Tq,AA,U5 (Ia a.Addr) (Ia b.Addr) [a.Len] [b.Len] rfl]
 by_cases h:Eu (Ia a.Addr) (Ia b.Addr)=0
 ·rw[if_neg (by simpa using h),if_pos h]
  simp only[Eu,decide_eq_true_eq,gt_iff_lt]
  split
  ·rfl
  split<;>rfl
 rw[if_pos (by simpa using h),if_neg h]
theorem ZV (p q r s:Int)(e:Bool)(h:e=true↔(p=r/\q=s)):AB (τ:=Bool) (fun k1=>if decide (p<r)=true then k1 true else if (p==r)=true then k1 (cond false true (cond true (decide (q<s)) false)) else k1 false) (fun v2=>if v2=true then some (-1:Int) else if e=true then some 0 else some 1)=some (Eu [p,q] [r,s]):=by
 rw[AC]
 simp only[Eu,h,decide_eq_true_eq,beq_iff_eq,cond_true,cond_false]
 by_cases a1:p < r<;>by_cases a2:p=r<;>by_cases a3:r < p<;>by_cases b1:q < s<;>by_cases b2:q=s<;>by_cases b3:s < q<;>first | (exfalso;omega)|simp[a1,a2,a3,b1,b2,b3]
theorem Tv (a b:JAB):IC a b=some (WM a b):=by
 unfold IC
 have e:WM a b=Eu ((Ia a.JAA.Addr++[a.JAA.Len])++[a.Max,a.ASN]) ((Ia b.JAA.Addr++[b.JAA.Len])++[b.Max,b.ASN]):=rfl
 rw[UJ,AA,e,U5 (Ia a.JAA.Addr++[a.JAA.Len]) (Ia b.JAA.Addr++[b.JAA.Len]) [a.Max,a.ASN] [b.Max,b.ASN] rfl]
 by_cases h:Eu (Ia a.JAA.Addr++[a.JAA.Len]) (Ia b.JAA.Addr++[b.JAA.Len])=0
 ·rw[if_neg (by simpa using h),if_pos h]
  refine ZV _ _ _ _ _ ((JAB.eqd_iff _ _).trans ⟨fun q=>by rw[q];exact⟨rfl,rfl⟩,fun q=>Vh ?_⟩)
  show (Ia a.JAA.Addr++[a.JAA.Len])++[a.Max,a.ASN]=(Ia b.JAA.Addr++[b.JAA.Len])++[b.Max,b.ASN]
  rw[PO (by rfl) h,q.1,q.2]
 rw[if_pos (by simpa using h),if_neg h]
def ltO (a b:JAB):Bool:=decide (WM a b<0)
theorem N6 (a:JAB):ltO a a=false:=by unfold ltO WM;rw[O9];rfl
theorem MP (a b c:JAB)(h1:ltO a b=true)(h2:ltO b c=true):ltO a c=true:=by
 unfold ltO WM at *
 simp only[decide_eq_true_eq] at *
 exact TZ (by rfl) (by rfl) h1 h2
theorem NT (a b:JAB)(h:ltO a b=false):a=b\/ltO b a=true:=by
 unfold ltO WM at *
 simp only[decide_eq_false_iff_not,decide_eq_true_eq] at *
 have:=Vs (TX a) (TX b)
 by_cases h0:Eu (TX a) (TX b)=0
 ·exact .inl (Vh (PO (by rfl) h0))
 exact .inr (by omega)
theorem Vn (a b:JAB)(h:ltO a b=true):ltO b a=false:=by
 cases h1:ltO b a
 ·rfl
 have:=MP _ _ _ h h1
 rw[N6] at this;simp at this
theorem bI (a b c:JAB)(h1:ltO a b=false)(h2:ltO b c=false):ltO a c=false:=by
 rcases NT _ _ h1 with rfl | h1
 ·exact h2
 rcases NT _ _ h2 with rfl | h2
 ·exact Vn _ _ h1
 exact Vn _ _ (MP _ _ _ h2 h1)
theorem XX (a b:JAB):ltC Ej a b=ltO a b:=by unfold ltC;rw[LF];rfl
theorem WW {l:List JAB}(hl:l.length<=1000000000):Ok (I7 Ej l) fun r=>r.Perm l/\r.Pairwise fun a b=>ltO b a=false:=by
 obtain⟨r,hr⟩:=W0 (cmp:=Ej) (l:=l) (aJ (fun a _ b _=>⟨_,LF a b⟩) (fun a _=>by rw[XX,N6])
  (fun a _ b _ c _ h1 h2=>by rw[XX] at *;exact MP _ _ _ h1 h2) (fun a _ b _ c _ h1 h2=>by rw[XX] at *;exact bI _ _ _ h1 h2) hl)
 obtain⟨h1,h2⟩:=M5 hr
 exact⟨r,hr,h1,h2.imp fun h=>by rw[XX] at h;exact h⟩
theorem QQ {α:Type}{l:List α}{i:Int}{x:α}(h0:0<=i)(h:l[i.toNat]?=some x):geti l i=some x:=by
 have:=(X16.1 h).1
 unfold geti
 rw[if_pos (by omega),h]
theorem NM {α:Type}{l:List α}{i:Nat}{x:α}(h:i<l.length):(l.set i x).take (i+1)=l.take i++[x]:=by
 rw[List.take_add_one,List.take_set_of_le (Nat.le_refl _),List.getElem?_set_self h]
 rfl
theorem Wq {p q:List JAB}{y z:JAB}(hp:p.Pairwise fun a b=>ltO a b=true)(hm :∀x,x∈p↔x∈q)(hz:z∈q)(hq :∀x∈q,ltO z x=false)(hyz:ltO y z=false)(hne:y≠z) :
  (p++[y]).Pairwise (fun a b=>ltO a b=true)/\∀x,x∈p++[y]↔x∈q++[y]:=by
 refine⟨List.pairwise_append.2 ⟨hp,by simp,fun x hx w hw=>?_⟩,fun x=>by rw[X23,X23,hm]⟩
 rw[X14] at hw
 subst hw
 have h1:=hq x ((hm x).1 hx)
 have h2:ltO z w=true:=(NT _ _ hyz).resolve_left hne
 rcases NT _ _ h1 with e | e
 ·rw[<- e];exact h2
 exact MP _ _ _ e h2
theorem SX {l:List JAB}(hs:l.Pairwise fun a b=>ltO b a=false)(hl:l.length<=1000000000) :
  Ok (A9 l) fun c=>c.Pairwise (fun a b=>ltO a b=true)/\∀x,x∈c↔x∈l:=by
 have hprev :∀(k:Nat) (z:JAB),l[k]?=some z->∀x∈l.take (k+1),ltO z x=false:=by
  intro k z hk x hx
  obtain⟨i,hi,rfl⟩:=List.mem_iff_getElem.1 hx
  rw[X18] at hi
  obtain⟨hk1,rfl⟩:=X16.1 hk
  rw[List.getElem_take]
  by_cases e:i=k
  ·subst e;exact N6 _
  exact List.pairwise_iff_getElem.1 hs i k (by omega) hk1 (by omega)
 have hnext :∀(k:Nat) (z y:JAB),l[k]?=some z->l[k+1]?=some y->ltO y z=false:=by
  intro k z y hk hy
  obtain⟨hk1,rfl⟩:=X16.1 hk
  obtain⟨hk2,rfl⟩:=X16.1 hy
  exact List.pairwise_iff_getElem.1 hs k (k+1) hk1 hk2 (by omega)
 have htk :∀(k:Nat) (y:JAB),l[k]?=some y->l.take (k+1)=l.take k++[y]:=by
  intro k y hk
  rw[List.take_add_one,hk];rfl
 have hmem :∀(k:Nat) (z:JAB),l[k]?=some z->z∈l.take (k+1):=by
  intro k z hk;rw[htk k z hk];simp
 unfold A9
 refine .ite (fun h=>?_) fun h=>?_
 ·simp only[decide_eq_true_eq] at h
  refine .ret ⟨?_,fun _=>Iff.rfl⟩
  match l,h with
  | [],_=>exact .nil
  | [x],_=>simp
  | x::y::t,h=>simp at h;omega
 simp only[decide_eq_true_eq] at h
 refine .join (fun _=>l.Pairwise fun a b=>ltO a b=true) (fun k1 hk1=>?_) fun _ h=>.ret ⟨h,fun _=>Iff.rfl⟩
 refine .whileI (fun v:Int=>1<=v/\v<=l.length/\(l.take v.toNat).Pairwise fun a b=>ltO a b=true) (fun v=>(l.length-v).toNat) ⟨by omega,by omega,?_⟩ (EJ (by omega)) fun next v hv hnx=>?_
 ·match l,h with
  | x::t,_=>simp
  | [],h=>simp at h
 obtain⟨v1,v2,v3⟩:=hv
 refine .ite (fun hlt=>?_) fun hge=>?_
 rotate_left
 ·simp only[decide_eq_true_eq] at hge
  refine hk1 () ?_
  have:v.toNat=l.length:=by omega
  rw[this,List.take_length] at v3
  exact v3
 simp only[decide_eq_true_eq] at hlt
 obtain⟨n,rfl⟩ :∃n:Nat,v=((n+1:Nat):Int):=⟨(v-1).toNat,by omega⟩
 have hn:n+1<l.length:=by omega
 have gy:l[n+1]?=some l[n+1]:=X15 hn
 have gz:l[n]?=some l[n]:=X15 (by omega)
 have e1:geti l ((n+1:Nat):Int)=some l[n+1]:=C7 hn
 have e2:geti l (A0 (((n+1:Nat):Int)-1))=some l[n]:=by
  rw[A3 (by omega),show ((n+1:Nat):Int)-1=(n:Int) by omega]
  exact C7 (by omega)
 refine .join (fun _=>l[n+1]≠l[n]) (fun k4 hk4=>?_) fun _ hne=>?_
 rotate_left
 ·rw[A3 (by omega)]
  refine hnx _ ⟨by omega,by omega,?_⟩ (by omega)
  have:=(Wq (p:=l.take (n+1)) (q:=l.take (n+1)) v3 (fun _=>Iff.rfl) (hmem n _ gz) (hprev n _ gz) (hnext n _ _ gz gy) hne).1
  rw[<- htk _ _ gy] at this
  have e:(((n+1:Nat):Int)+1).toNat=n+1+1:=by omega
  rw[e];exact this
 rw[e1,AA,e2,AA]
 refine .ite (fun heq=>?_) fun hne=>hk4 _ fun e=>hne ((JAB.eqd_iff _ _).2 e)
 have heq:=(JAB.eqd_iff _ _).1 heq
 refine .bind (Ok.chk (by omega)) fun _ _=>?_
 refine .join (fun p:Int×List JAB=>0<=p.1/\p.1<=l.length/\p.2.length=l.length/\(p.2.take p.1.toNat).Pairwise (fun a b=>ltO a b=true)/\∀x,x∈p.2.take p.1.toNat↔x∈l) (fun k7 hk7=>?_) ?_
 ·refine .whileI (fun p:Int×Int×List JAB=>0<=p.1/\1<=p.2.1/\p.1<=(n+1:Nat)+p.2.1-1/\(n+1:Nat)+p.2.1<=l.length/\p.2.2.length=l.length/\(∀j:Nat,p.1<=j->p.2.2[j]?=l[j]?)/\
    (p.2.2.take p.1.toNat).Pairwise (fun a b=>ltO a b=true)/\∀x,x∈p.2.2.take p.1.toNat↔x∈l.take ((n+1:Nat)+p.2.1).toNat) (fun p=>(l.length-p.2.1).toNat) ⟨by dsimp only;omega,by dsimp only;omega,by dsimp only;omega,by dsimp only;omega,rfl,fun _ _=>rfl,v3,fun x=>?_⟩ (EJ (by dsimp only;omega)) ?_
  ·dsimp only
   have e:(((n+1:Nat):Int)+1).toNat=n+1+1:=by omega
   rw[e,htk _ _ gy,Int.toNat_natCast]
   constructor
   ·exact fun h=>List.mem_append_left _ h
   intro h
   rcases X23.1 h with h | h
   ·exact h
   rw[X14] at h
   rw[h,heq];exact hmem n _ gz
  rintro next ⟨i,k,a⟩ ⟨q1,q2,q3,q4,q5,q6,q7,q8⟩ hnx2
  dsimp only at q1 q2 q3 q4 q5 q6 q7 q8 ⊢
  refine .ite (fun hk=>?_) fun hk=>?_
  rotate_left
  ·simp only[decide_eq_true_eq] at hk
   refine hk7 (i,a) ⟨q1,by dsimp only;omega,q5,q7,fun x=>?_⟩
   dsimp only
   rw[q8 x,show ((n+1:Nat)+k).toNat=l.length by omega,List.take_length]
  simp only[decide_eq_true_eq] at hk
  obtain⟨m,rfl⟩ :∃m:Nat,k=((m+1:Nat):Int):=⟨(k-1).toNat,by omega⟩
  have hml:n+1+(m+1)<l.length:=by omega
  have gy2:l[n+1+(m+1)]?=some l[n+1+(m+1)]:=X15 hml
  have gz2:l[n+1+m]?=some l[n+1+m]:=X15 (by omega)
  have ge :∀j:Nat,n+1+j<l.length->i<=((n+1+j:Nat):Int)->∀y,l[n+1+j]?=some y->geti (List.take (Int.toNat (l.length:Int)-Int.toNat ((n+1:Nat):Int)) (List.drop (Int.toNat ((n+1:Nat):Int)) a)) (j:Int)=some y:=by
   intro j hj hij y hy
   refine QQ (by omega) ?_
   rw[Int.toNat_natCast,Int.toNat_natCast,Int.toNat_natCast,List.getElem?_take_of_lt (by omega),List.getElem?_drop,q6 _ hij]
   exact hy
  have r1:=ge (m+1) hml (by omega) _ gy2
  have r2:=ge m (by omega) (by omega) _ gz2
  rw[r1,AA,A3 (x:=((m+1:Nat):Int)-1) (by omega),show ((m+1:Nat):Int)-1=(m:Int) by omega,r2,AA]
  refine .join (fun p:Int×List JAB=>0<=p.1/\p.1<=(n+1:Nat)+((m+1:Nat):Int)/\p.2.length=l.length/\(∀j:Nat,p.1<=j->p.2[j]?=l[j]?)/\
    (p.2.take p.1.toNat).Pairwise (fun a b=>ltO a b=true)/\∀x,x∈p.2.take p.1.toNat↔x∈l.take (n+1+(m+1)+1)) (fun k14 hk14=>?_) ?_
  ·have et:((n+1:Nat)+((m+1:Nat):Int)).toNat=n+1+(m+1):=by omega
   rw[et] at q8
   refine .ite (fun hne=>?_) fun heq2=>?_
   ·have hne:l[n+1+(m+1)]≠l[n+1+m]:=fun e=>by rw[(JAB.eqd_iff _ _).2 e] at hne;simp at hne
    rw[AA]
    have hia:i.toNat<a.length:=by omega
    refine .bind (Ok.geti (by omega)) fun _ _=>.bind (Ok.seti (by omega)) fun a' ha'=>hk14 _ ?_
    rw[A3 (by omega)]
    have ei:(i+1).toNat=i.toNat+1:=by omega
    have hc:=Wq (y:=l[n+1+(m+1)]) (z:=l[n+1+m]) q7 q8 (by rw[show n+1+(m+1)=n+1+m+1 by omega];exact hmem _ _ gz2) (by rw[show n+1+(m+1)=n+1+m+1 by omega];exact hprev _ _ gz2) (hnext _ _ _ gz2 gy2) hne
    refine⟨by dsimp only;omega,by dsimp only;omega,ha'.2.trans q5,fun j hj=>?_,?_,?_⟩
    ·dsimp only at hj ⊢
     rw[ha'.1,List.getElem?_set_ne (by omega)]
     exact q6 j (by omega)
    ·dsimp only
     rw[ei,ha'.1,NM hia]
     exact hc.1
    dsimp only
    rw[ei,ha'.1,NM hia,htk _ _ gy2]
    exact hc.2
   have heq2:l[n+1+(m+1)]=l[n+1+m]:=by
    refine (JAB.eqd_iff _ _).1 ?_
    cases h:JAB.eqd l[n+1+(m+1)] l[n+1+m]
    ·rw[h] at heq2;simp at heq2
    rfl
   refine hk14 _ ⟨q1,by dsimp only;omega,q5,q6,q7,fun x=>?_⟩
   dsimp only
   rw[q8 x,htk _ _ gy2]
   constructor
   ·exact fun h=>List.mem_append_left _ h
   intro h
   rcases X23.1 h with h | h
   ·exact h
   rw[X14] at h
   rw[h,heq2];exact hmem _ _ gz2
  rintro⟨i',a'⟩ ⟨p1,p2,p3,p4,p5,p6⟩
  dsimp only at p1 p2 p3 p4 p5 p6 ⊢
  rw[A3 (by omega)]
  refine hnx2 _ ⟨p1,by dsimp only;omega,by dsimp only;omega,by dsimp only;omega,p3,p4,p5,fun x=>?_⟩ (by dsimp only;omega)
  dsimp only
  rw[p6 x,show ((n+1:Nat)+(((m+1:Nat):Int)+1)).toNat=n+1+(m+1)+1 by omega]
 rintro⟨i,a⟩ ⟨p1,p2,p3,p4,p5⟩
 dsimp only at p1 p2 p3 p4 p5 ⊢
 refine .bind (Ok.chk (by omega)) fun _ _=>.bind (Ok.part ⟨by omega,by omega,by simp;omega⟩) fun c hc=>.ret ?_
 have:c=a.take i.toNat:=by
  rw[hc.1]
  simp only[Int.toNat_zero,List.drop_zero,Nat.sub_zero]
  rw[List.append_assoc,List.take_append_of_le_length (by simp;omega),List.take_take,Nat.min_self]
 rw[this]
 exact⟨p4,p5⟩
theorem SH {l:List JAB}(hl:l.length<=1000000):Ok (HQ l) fun r=>r.Pairwise (fun a b=>ltO a b=true)/\∀x,x∈r↔x∈l:=by
 unfold HQ A2
 rw[BX (by decide) (by simp;omega),AA,AA,List.nil_append]
 refine .bind (WW (by omega)) fun v2 h2=>.bind (SX h2.2 (by rw[h2.1.length_eq];omega)) fun v3 h3=>.ret ⟨h3.1,fun x=>(h3.2 x).trans h2.1.mem_iff⟩
theorem UW {l:List JAB}(hl:l.length<=1000000):Ok (Ge l) fun r=>r.Pairwise (fun a b=>ltO a b=true)/\∀x,x∈r↔x∈l:=by
 unfold Ge
 refine .join (fun r=>r.Pairwise (fun a b=>ltO a b=true)/\∀x,x∈r↔x∈l) (fun k hk=>?_) fun r hr=>.ret hr
 refine .forX (fun i v=>v.Pairwise (fun a b=>ltO a b=true)/\(∀x,x∈v↔x∈l.take i)/\v.length<=i) ⟨.nil,by simp,by simp⟩ (fun v hv=>hk v ⟨hv.1,by simpa using hv.2.1⟩) fun next x i v hx hI hn=>?_
 obtain⟨i1,i2,i3⟩:=hI
 have hil:=(X16.1 hx).1
 have hmt :∀y,y∈l.take (i+1)↔y∈l.take i\/y=x:=by
  intro y
  rw[List.take_add_one,hx]
  simp
 refine .join (fun v'=>v'.Pairwise (fun a b=>ltO a b=true)/\(∀x,x∈v'↔x∈l.take (i+1))/\v'.length<=i+1) (fun k6 hk6=>?_) fun v' h=>hn _ h
 have hpos:=EQ (ltO · x) v
 rw[cR (p:=(ltO · x)) (fun y k4=>Option.bind (IC y x) fun v12=>k4 (cond true (decide (v12<0)) false)) (by omega) (fun y _ k=>by rw[Tv];rfl)]
 have hh:=NJ MP N6 (x:=x) i1
 obtain⟨t1,t2⟩:=takeWhile_take (ltO · x) v
 refine .join (fun c=>c=true↔x∈v) (fun k15 hk15=>?_) fun c hc=>.ite (fun h=>?_) fun h=>?_
 ·by_cases hk:(v.takeWhile (ltO · x)).length<v.length
  ·rw[if_pos (by simpa using hk),C7 hk,AA]
   refine hk15 _ ?_
   rw[hh,X15 hk]
   simp only[cond_true,JAB.eqd_iff,X24]
  rw[if_neg (by simpa using hk)]
  refine hk15 _ ?_
  rw[hh,List.getElem?_eq_none (by omega)]
  simp
 ·refine hk6 _ ⟨i1,fun y=>?_,by omega⟩
  rw[hmt,i2 y]
  refine⟨.inl,fun q=>q.elim id fun e=>?_⟩
  rw[e];exact (i2 x).1 (hc.1 h)
 have hnx:x∉v:=fun q=>h (hc.2 q)
 simp only[Int.toNat_natCast,Int.toNat_zero,List.drop_zero,Nat.sub_zero]
 refine .bind (Ok.chk (by omega)) fun _ _=>.bind (Ok.apnd (by decide) (by simp;omega)) fun _ _=>.bind (Ok.apnd (by decide) (by simp;omega)) fun a ha=>.bind (Ok.chk (by omega)) fun _ _=>.bind (Ok.apnd (by decide) (by rw[ha];simp;omega)) fun b hb=>hk6 _ ?_
 have e:b=SS ltO v x:=by
  have e2:(List.drop (v.takeWhile (ltO · x)).length v).take (v.length-(v.takeWhile (ltO · x)).length)=v.dropWhile (ltO · x):=by
   rw[List.take_of_length_le (by simp),t2]
  rw[hb,ha,e2,t1]
  unfold SS
  simp
 rw[e]
 refine⟨Kx MP NT i1 hnx,fun y=>?_,by rw[Rx];omega⟩
 rw[Ri,hmt,i2]
theorem Wu {l m:List JAB}(h1:l.Pairwise fun a b=>ltO a b=true)(h2:m.Pairwise fun a b=>ltO a b=true)(h :∀x,x∈l↔x∈m):l=m:=
 Jb (lt:=fun a b=>ltO a b=true) (fun a=>by simp[N6]) MP h1 h2 h
def cov (p q:JAA):Bool:=decide (q.Len ≥ p.Len)&&inB p q.Addr
theorem Ec (p q:JAA):Be p q=some (cov p q):=by
 unfold Be cov
 rw[AC,IV,AA,cond_true]
 by_cases h:q.Len ≥ p.Len
 ·rw[if_pos (by simpa using h)];simp[h]
 rw[if_neg (by simpa using h)];simp[h]
theorem CM {p q:JAA}(h:q.Addr.ok=true):BE p q=some (cov p q):=by
 unfold BE cov
 rw[AC,N2 h,AA,cond_true]
 by_cases h:q.Len ≥ p.Len
 ·rw[if_pos (by simpa using h)];simp[h]
 rw[if_neg (by simpa using h)];simp[h]
def pc (p:JAA)(a:Int)(o:JAB):Bool:=o.ASN==a&&cov o.JAA p
def JM (L:List JAB)(p:JAA)(a:Int):Bool:=L.any fun o=>pc p a o&&decide (p.Len<=o.Max)
def J5 (L:List JAB)(p:JAA)(a:Int):Int:=
 cond (DN p) (cond (JM L p a) 0 (cond (L.any (pc p a)) 9 (cond (L.any fun o=>o.ASN==a) 7 11))) 1
def La (p:JAA)(a:Int)(cv:JAB->Option Bool)(next4:Int->Option Int)(x5:JAB)(i6:Nat)(v3:Int):Option Int:=
 AB (τ:=Int) (fun k7=>if (x5.ASN != a)=true then k7 v3 else Option.bind (cv x5) fun v8=>AB (τ:=Int) (fun k9=>if (!v8)=true then AB (τ:=Int) (fun k10=>if (v3==11)=true then k10 7 else k10 v3) (fun v11=>k9 v11) else if decide (x5.Max<p.Len)=true then k9 9 else some 0) (fun v12=>k7 v12)) (fun v13=>next4 v13)
theorem VJ {p:JAA}{a:Int}{cv:JAB->Option Bool}{x:JAB}(hc:cv x=some (cov x.JAA p))(next:Int->Option Int)(i:Nat)(v:Int) :
  La p a cv next x i v=cond (pc p a x) (cond (decide (p.Len<=x.Max)) (some 0) (next 9)) (cond (x.ASN==a) (next (if v=11 then 7 else v)) (next v)):=by
 unfold La
 rw[hc]
 show (if (x.ASN != a)=true then next v else if (!(cov x.JAA p))=true then (if (v==11)=true then next 7 else next v) else if decide (x.Max<p.Len)=true then next 9 else some 0)=_
 unfold pc
 by_cases h1:x.ASN=a
 ·cases cov x.JAA p
  ·by_cases h2:v=11<;>simp[h1,h2]
  by_cases h2:x.Max<p.Len
  ·have:¬ p.Len<=x.Max:=by omega
   simp[h1,h2,this]
  have:p.Len<=x.Max:=by omega
  simp[h1,h2,this]
 have h3:(x.ASN==a)=false:=by simpa using h1
 rw[h3]
 simp[h1]
theorem V8 (p:JAA)(a:Int)(cv:JAB->Option Bool)(hc :∀x,cv x=some (cov x.JAA p)) :∀(l:List JAB) (i:Nat) (v:Int),
  Aa (σ:=Int) (fun v3=>some v3) (La p a cv) l i v
   = some (cond (JM l p a) 0 (cond (l.any (pc p a)) 9 (cond (l.any fun o=>o.ASN==a) (if v=11 then 7 else v) v)))
 | [],i,v=>rfl
 | x::t,i,v=>by
  show La p a cv (Aa (fun v3=>some v3) (La p a cv) t (i+1)) x i v=_
  rw[VJ (hc x)]
  have e1:JM (x::t) p a=((pc p a x&&decide (p.Len<=x.Max)) || JM t p a):=rfl
  rw[e1,List.any_cons,List.any_cons,V8 p a cv hc t (i+1),V8 p a cv hc t (i+1),V8 p a cv hc t (i+1)]
  have hp:pc p a x=true->(x.ASN==a)=true:=by
   intro h;unfold pc at h;rw[X27] at h;exact h.1
  by_cases h11:v=11
  ·subst h11
   revert hp
   cases pc p a x<;>cases decide (p.Len<=x.Max)<;>cases (x.ASN==a)<;>cases JM t p a<;>cases t.any (pc p a)<;>cases (t.any fun o=>o.ASN==a)<;>simp
  revert hp
  simp only[h11,if_false]
  cases pc p a x<;>cases decide (p.Len<=x.Max)<;>cases (x.ASN==a)<;>cases JM t p a<;>cases t.any (pc p a)<;>cases (t.any fun o=>o.ASN==a)<;>simp
theorem Kw (L:List JAB)(p:JAA)(a:Int):CN L p a=some (J5 L p a):=by
 unfold CN J5
 rw[E1,AA]
 cases DN p
 ·rfl
 rw[if_neg (by simp),AC]
 exact V8 p a _ (fun x=>Ec _ _) L 0 11
theorem Oj (L:List JAB)(p:JAA)(a:Int):DZ L p a=some (J5 L p a):=by
 unfold DZ J5
 rw[EU,AA]
 cases hg:DN p
 ·rfl
 rw[if_neg (by simp),AC]
 exact V8 p a _ (fun x=>CM ((I9 p).1 hg).1) L 0 11
theorem GI (l:List Int)(n:Int):AS l n=some (l.any fun x=>n==x):=by
 unfold AS EE
 exact LW (f:=fun x=>some (n==x)) fun _ _=>rfl
theorem has_eq (l:List Int)(n:Int):G2 l n=some (l.any fun x=>n==x):=by
 unfold G2
 rw[AC]
 have key :∀(l:List Int) (i:Nat),Aa (σ:=Unit) (fun _=>some false) (fun next2 x3 i4 _=>if (x3==n)=true then some true else next2 ()) l i ()=some (l.any fun x=>n==x):=by
  intro l
  induction l with
  | nil=>intro i;rfl
  | cons x t ih=>
   intro i
   show (if (x==n)=true then some true else Aa _ _ t (i+1) ())=_
   rw[ih,List.any_cons,show (n==x)=(x==n) from Bool.beq_comm]
   cases (x==n)<;>rfl
 exact key l 0
def own (s:List Int)(o:JAB):Bool:=s.any fun x=>o.ASN==x
theorem OI (o:JAB)(s:List Int):H8 o s=some (!own s o,s):=by
 unfold H8 own
 rw[GI,AA]
theorem UD {l:List JAB}{s:List Int}(hl:l.length<=1000000):Ok (Ak l s) fun r=>(∀x,x∈r.1↔x∈l/\own s x=true)/\r.1.length<=l.length:=by
 have htk :∀(k:Nat) (y:JAB),l[k]?=some y->l.take (k+1)=l.take k++[y]:=by
  intro k y hk
  rw[List.take_add_one,hk];rfl
 unfold Ak
 have hi:Ok (Ai l s) fun r=>r.2=s/\((r.1=-1/\∀x∈l,own s x=true) \/∃k:Nat,r.1=(k:Int)/\k<l.length/\(∀x∈l.take k,own s x=true)/\∀x,l[k]?=some x->own s x=false):=by
  unfold Ai
  refine .join (fun v=>v=s/\∀x∈l,own s x=true) (fun k hk=>?_) fun v hv=>.ret ⟨hv.1,.inl ⟨rfl,hv.2⟩⟩
  refine .forX (fun i v=>v=s/\∀x∈l.take i,own s x=true) ⟨rfl,by simp⟩ (fun v hv=>hk v ⟨hv.1,by simpa using hv.2⟩) fun next x i v hx hv hn=>?_
  obtain⟨rfl,hv⟩:=hv
  rw[OI,AA]
  dsimp only
  refine .ite (fun h=>.ret ⟨rfl,.inr ⟨i,rfl,(X16.1 hx).1,hv,fun y hy=>?_⟩⟩) fun h=>hn _ ⟨rfl,fun y hy=>?_⟩
  ·rw[hx] at hy
   cases hy
   simpa using h
  rw[htk _ _ hx,X23] at hy
  rcases hy with hy | hy
  ·exact hv y hy
  rw[X14] at hy
  rw[hy];simpa using h
 refine .bind hi ?_
 rintro⟨v1,v2⟩ ⟨h0,h⟩
 dsimp only at h0 h ⊢
 subst h0
 rcases h with ⟨rfl,h⟩|⟨k,rfl,hk,h1,h2⟩
 ·rw[if_pos (by simp)]
  exact .ret ⟨fun x=>⟨fun q=>⟨q,h x q⟩,fun q=>q.1⟩,Nat.le_refl _⟩
 rw[if_neg (by simp)]
 have gk:l[k]?=some l[k]:=X15 hk
 refine .join (fun p:Int×List JAB×List Int=>0<=p.1/\p.1<=l.length/\p.2.1.length=l.length/\∀x,x∈p.2.1.take p.1.toNat↔x∈l/\own v2 x=true) (fun k3 hk3=>?_) ?_
 ·refine .whileI (fun p:Int×Int×List JAB×List Int=>0<=p.1/\p.1<=p.2.1/\p.2.1<=l.length/\p.2.2.1.length=l.length/\p.2.2.2=v2/\(∀j:Nat,p.2.1<=j->p.2.2.1[j]?=l[j]?)/\∀x,x∈p.2.2.1.take p.1.toNat↔x∈l.take p.2.1.toNat/\own v2 x=true)
   (fun p=>(l.length-p.2.1).toNat) ⟨Int.natCast_nonneg k,by dsimp only;rw[A3 (by omega)];omega,by dsimp only;rw[A3 (by omega)];omega,rfl,rfl,fun _ _=>rfl,fun x=>?_⟩ (EJ (by dsimp only;rw[A3 (by omega)];omega)) ?_
  ·dsimp only
   rw[A3 (by omega),show ((k:Int)+1).toNat=k+1 by omega,htk _ _ gk,Int.toNat_natCast,X23,X14]
   constructor
   ·exact fun q=>⟨.inl q,h1 x q⟩
   rintro⟨q | q,q2⟩
   ·exact q
   rw[q,h2 _ gk] at q2;simp at q2
  rintro next ⟨i,j,a,s'⟩ ⟨q1,q2,q3,q4,q5,q6,q7⟩ hnx
  dsimp only at q1 q2 q3 q4 q5 q6 q7 ⊢
  subst q5
  refine .ite (fun hj=>?_) fun hj=>?_
  rotate_left
  ·simp only[decide_eq_true_eq] at hj
   refine hk3 (i,a,s') ⟨q1,by dsimp only;omega,q4,fun x=>?_⟩
   dsimp only
   rw[q7 x,show j.toNat=l.length by omega,List.take_length]
  simp only[decide_eq_true_eq] at hj
  obtain⟨m,rfl⟩ :∃m:Nat,j=(m:Int):=⟨j.toNat,by omega⟩
  have gm:l[m]?=some l[m]:=X15 (by omega)
  have ga:geti a (m:Int)=some l[m]:=QQ (by omega) (by rw[Int.toNat_natCast,q6 m (by omega)];exact gm)
  rw[ga,AA,OI,AA]
  dsimp only
  refine .join (fun p:Int×List JAB=>0<=p.1/\p.1<=(m:Int)+1/\p.2.length=l.length/\(∀j:Nat,(m:Int)+1<=j->p.2[j]?=l[j]?)/\∀x,x∈p.2.take p.1.toNat↔x∈l.take (m+1)/\own s' x=true) (fun k12 hk12=>?_) ?_
  ·refine .ite (fun hd=>?_) fun hd=>hk12 (i,a) ⟨q1,by dsimp only;omega,q4,fun j hj=>q6 j (by omega),fun x=>?_⟩
   ·have hia:i.toNat<a.length:=by omega
    refine .bind (Ok.geti (by omega)) fun _ _=>.bind (Ok.seti (by omega)) fun a' ha'=>hk12 _ ?_
    rw[A3 (by omega)]
    refine⟨by dsimp only;omega,by dsimp only;omega,ha'.2.trans q4,fun j hj=>?_,fun x=>?_⟩
    ·dsimp only
     rw[ha'.1,List.getElem?_set_ne (by omega)]
     exact q6 j (by omega)
    dsimp only
    rw[show (i+1).toNat=i.toNat+1 by omega,ha'.1,NM hia,htk _ _ gm,X23,X23,q7 x,Int.toNat_natCast,X14]
    have:own s' l[m]=true:=by simpa using hd
    constructor
    ·rintro (q | q)
     ·exact⟨.inl q.1,q.2⟩
     exact⟨.inr q,by rw[q];exact this⟩
    rintro⟨q | q,q2⟩
    ·exact .inl ⟨q,q2⟩
    exact .inr q
   dsimp only
   rw[htk _ _ gm,X23,q7 x,Int.toNat_natCast,X14]
   have:own s' l[m]=false:=by simpa using hd
   constructor
   ·exact fun q=>⟨.inl q.1,q.2⟩
   rintro⟨q | q,q2⟩
   ·exact⟨q,q2⟩
   rw[q,this] at q2;simp at q2
  rintro⟨i',a'⟩ ⟨p1,p2,p3,p4,p5⟩
  dsimp only at p1 p2 p3 p4 p5 ⊢
  rw[A3 (by omega)]
  refine hnx _ ⟨p1,by dsimp only;omega,by dsimp only;omega,p3,rfl,p4,fun x=>?_⟩ (by dsimp only;omega)
  dsimp only
  rw[p5 x,show ((m:Int)+1).toNat=m+1 by omega]
 rintro⟨i,a,s'⟩ ⟨p1,p2,p3,p4⟩
 dsimp only at p1 p2 p3 p4 ⊢
 refine .bind (Ok.chk (by omega)) fun _ _=>.bind (Ok.part ⟨by omega,by omega,by simp;omega⟩) fun c hc=>.ret ?_
 have:c=a.take i.toNat:=by
  rw[hc.1]
  simp only[Int.toNat_zero,List.drop_zero,Nat.sub_zero]
  rw[List.append_assoc,List.take_append_of_le_length (by simp;omega),List.take_take,Nat.min_self]
 dsimp only
 rw[this]
 exact⟨p4,by simp;omega⟩
theorem YE {r:JAD}{s:List Int}(hl:r.Objects.length<=1000000):Ok (Fa r s) fun l=>l.Pairwise (fun a b=>ltO a b=true)/\∀x,x∈l↔x∈r.Objects/\own s x=true:=by
 unfold Fa A2
 rw[BX (by decide) (by simp;omega),AA,AA,List.nil_append]
 refine .bind (UD hl) ?_
 rintro⟨a,b⟩ ⟨h1,h2⟩
 dsimp only at h1 h2 ⊢
 exact .bind (SH (by omega)) fun v hv=>.ret ⟨hv.1,fun x=>(hv.2 x).trans (h1 x)⟩
theorem QE {r:JAD}{s:List Int}(hl:r.Objects.length<=1000000):Ok (G3 r s) fun l=>l.Pairwise (fun a b=>ltO a b=true)/\∀x,x∈l↔x∈r.Objects/\own s x=true:=by
 unfold G3
 refine .join (fun v=>(∀x,x∈v↔x∈r.Objects/\own s x=true)/\v.length<=r.Objects.length) (fun k hk=>?_) fun v hv=>.bind (UW (by omega)) fun w hw=>.ret ⟨hw.1,fun x=>(hw.2 x).trans (hv.1 x)⟩
 refine .forX (fun i v=>(∀x,x∈v↔x∈r.Objects.take i/\own s x=true)/\v.length<=i) ⟨by simp,by simp⟩ (fun v hv=>hk v ⟨by simpa using hv.1,hv.2⟩) fun next x i v hx hv hn=>?_
 have htk:r.Objects.take (i+1)=r.Objects.take i++[x]:=by rw[List.take_add_one,hx];rfl
 have hil:=(X16.1 hx).1
 rw[has_eq,AA]
 refine .join (fun v=>(∀x,x∈v↔x∈r.Objects.take (i+1)/\own s x=true)/\v.length<=i+1) (fun k7 hk7=>.ite (fun h=>?_) fun h=>hk7 _ ⟨fun y=>?_,by omega⟩) fun v' h=>hn _ h
 ·have h:own s x=true:=h
  refine .bind (Ok.apnd (by decide) (by simp;omega)) fun w hw=>hk7 _ ⟨fun y=>?_,by rw[hw];simp;omega⟩
  rw[hw,htk,X23,X23,hv.1 y,X14]
  constructor
  ·rintro (q | q)
   ·exact⟨.inl q.1,q.2⟩
   exact⟨.inr q,by rw[q];exact h⟩
  rintro⟨q | q,q2⟩
  ·exact .inl ⟨q,q2⟩
  exact .inr q
 have h:own s x=false:=Bool.eq_false_iff.2 h
 rw[htk,X23,hv.1 y,X14]
 constructor
 ·exact fun q=>⟨.inl q.1,q.2⟩
 rintro⟨q | q,q2⟩
 ·exact⟨q,q2⟩
 rw[q,h] at q2;simp at q2
theorem V0 {r:JAD}{s:List Int}(hl:r.Objects.length<=1000000) :∃l,Fa r s=some l/\G3 r s=some l/\∀x,x∈l↔x∈r.Objects/\own s x=true:=by
 obtain⟨a,h1,h2,h3⟩:=YE (s:=s) hl
 obtain⟨b,g1,g2,g3⟩:=QE (s:=s) hl
 have:=Wu h2 g2 fun x=>(h3 x).trans (g3 x).symm
 subst this
 exact⟨a,h1,g1,h3⟩
theorem Uj {l L:List JAB}{s:List Int}{a:Int}(h :∀x,x∈l↔x∈L/\own s x=true)(ha:(s.any fun x=>a==x)=true){f:JAB->Bool}(hf :∀x,f x=true->x.ASN=a):l.any f=L.any f:=by
 rw[X28,List.any_eq_true,List.any_eq_true]
 refine⟨fun ⟨x,h1,h2⟩=>⟨x,((h x).1 h1).1,h2⟩,fun ⟨x,h1,h2⟩=>⟨x,(h x).2 ⟨h1,?_⟩,h2⟩⟩
 unfold own
 rw[hf x h2];exact ha
theorem YN {l L:List JAB}{s:List Int}{a:Int}(h :∀x,x∈l↔x∈L/\own s x=true)(ha:(s.any fun x=>a==x)=true)(p:JAA):J5 l p a=J5 L p a:=by
 unfold J5 JM
 have hp :∀x,pc p a x=true->x.ASN=a:=by
  intro x hx
  unfold pc at hx
  rw[X27] at hx
  simpa using hx.1
 rw[Uj h ha (f:=fun o=>pc p a o&&decide (p.Len<=o.Max)) (fun x hx=>hp x (by rw[X27] at hx;exact hx.1)),Uj h ha (f:=pc p a) hp,Uj h ha (f:=fun o=>o.ASN==a) (fun x hx=>by simpa using hx)]
theorem MS {L:List JAB}{p:JAA}{a:Int}:J5 L p a=0↔DN p=true/\JM L p a=true:=by
 unfold J5
 cases DN p<;>cases JM L p a<;>cases L.any (pc p a)<;>cases (L.any fun o=>o.ASN==a)<;>simp
theorem X2 {L:List Set}(h:Mod L){n:ByteArray}{a:List Int}{m:List ByteArray}(e:Exp L n a m):a.length<=4096:=by
 have key :∀(l:List Set),(∀s∈l,s.ASNs.length<=64)->(l.flatMap (·.ASNs)).length<=64*l.length:=by
  intro l
  induction l with
  | nil=>intro _;simp
  | cons x t ih=>
   intro hx
   have:=ih fun s hs=>hx s (X19 _ hs)
   have:=hx x (by simp)
   simp only[List.flatMap_cons,X11,X12]
   omega
 have h1:=key L h.a
 have h2:=h.n
 have hnd:a.Nodup:=e.pa.imp fun {x y} h e=>by rw[e,UC] at h;simp at h
 have:=ID hnd (m:=L.flatMap (·.ASNs)) fun x hx=>by
  obtain⟨s,hs,_,h3⟩:=(e.am x).1 hx
  exact List.mem_flatMap.2 ⟨s,hs,h3⟩
 omega
theorem RO {r:JAD}{h:Int}{n:ByteArray}{p:JAA}{o:Int}(hz :∀s∈r.Sets,GM s)(hn:n.size<=maxLen) :∃v,Bq r h n p o=some v/\DJ r h n p o=some v:=by
 suffices hs:Ok (Bq r h n p o) fun v=>DJ r h n p o=some v by
  obtain⟨v,h1,h2⟩:=hs
  exact⟨v,h1,h2⟩
 unfold Bq DJ
 rw[Gm hz,Gs hz,AA,AA]
 cases hv:Fq r
 ·exact .ret rfl
 rw[if_neg (by simp),if_neg (by simp),AC,AC]
 obtain⟨_,_,_,hlo⟩:=OE.1 hv
 have key :∀v:List Int,Ok (Option.bind (AS v o) fun v8=>if (!v8)=true then some 17 else Option.bind (Fa r v) fun v9=>Option.bind (CN v9 p o) fun v10=>some v10)
   fun w=>(Option.bind (G2 v o) fun v8=>if (!v8)=true then some 17 else Option.bind (G3 r v) fun v9=>Option.bind (DZ v9 p o) fun v10=>some v10)=some w:=by
  intro v
  obtain⟨l,e1,e2,_⟩:=V0 (r:=r) (s:=v) (by omega)
  rw[GI,has_eq,e1,e2]
  simp only[AA,Kw,Oj]
  cases (v.any fun x=>o==x)
  ·exact .ret rfl
  exact .ret rfl
 by_cases he:(!(n.toList==(ByteArray.mk (List.toArray List.nil)).toList))=true
 ·rw[if_pos he,if_pos he]
  obtain⟨a,m,e,e1,e2⟩:=VY hz hn
  rw[e1,e2,AA,AA]
  dsimp only
  by_cases hx:(e != 0)=true
  ·rw[if_pos hx,if_pos hx];exact .ret rfl
  rw[if_neg hx,if_neg hx]
  have ha:a.length<=1000000:=by
   obtain⟨hm,hnum⟩:=Qd hv
   obtain⟨⟨a',m',e'⟩,g1,g2⟩:=G5 hm hz hn hnum hv
   rw[e1] at g1
   simp only[X24,X26] at g1
   obtain⟨rfl,rfl,rfl⟩:=g1
   rcases g2 with ⟨_,g2⟩|⟨_,_,_,g2⟩
   ·simp only[X26] at g2
    rw[g2.1];simp
   have:=X2 hm g2
   simp only at this
   omega
  rw[BX (by decide) (by simp;omega),AA,AA]
  exact key _
 rw[if_neg he,if_neg he]
 exact key _
end Go.AX.Q24
end
