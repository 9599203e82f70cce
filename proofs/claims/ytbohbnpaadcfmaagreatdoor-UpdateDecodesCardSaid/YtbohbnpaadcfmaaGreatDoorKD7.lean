/-
  Texts of one proof, packed.
-/
import Derived.Test.YtbohbnpaadcfmaaGreatDoorKD5
import Derived.Test.YtbohbnpaadcfmaaGreatDoorKD6
import Derived.KernelRfl
set_option linter.all false
set_option maxRecDepth 100000
set_option maxHeartbeats 4000000
open List renaming length_append→X11,length_cons→X12,length_nil→X13,mem_singleton→X14,getElem?_eq_getElem→X15,getElem?_eq_some_iff→X16,length_drop→X17,length_take→X18,mem_cons_of_mem→X19,length_replicate→X20,length_singleton→X22,mem_append→X23
open Option.some renaming injEq→X24,inj→X25
open Prod.mk renaming injEq→X26
open Bool renaming and_eq_true→X27,eq_iff_iff→X28
open Nat renaming add_mul→X32
section
namespace Go.AX.Q19
open Go Go.AX
def hd4 (x:UInt8):Bool:=(((Am ((BitVec.ofInt 8 (x.toNat:Int) &&& BitVec.ofInt 8 16).toNat:Int)).toNat:Int) != 0)
def hdN (x:UInt8):Nat:=if hd4 x=true then 4 else 3
def flagsOf (x:UInt8):Int:=((Am ((BitVec.ofInt 8 (x.toNat:Int) &&& BitVec.ofInt 8 224).toNat:Int)).toNat:Int)
def sizeOf (b:List UInt8)(h:Nat):Nat:=val ((b.drop 2).take (h-2))
def stp (x:UInt8)(t:List UInt8):Option (JAA×List UInt8):=
 if (x::t).length<hdN x\/(x::t).length-hdN x<sizeOf (x::t) (hdN x) then none else
  some (⟨flagsOf x,((t.headD 0).toNat:Int),((x::t).drop (hdN x)).take (sizeOf (x::t) (hdN x))⟩,(x::t).drop (hdN x+sizeOf (x::t) (hdN x)))
def spl:Nat->List UInt8->List JAA->Option (List JAA)
 | _,[],acc=>some acc
 | n+1,x::t,acc=>match stp x t with
  | none=>none
  | some (u,r)=>spl n r (acc++[u])
 | 0,_::_,_=>none
theorem XE (x:UInt8):hdN x=4\/hdN x=3:=by unfold hdN;split<;>simp
theorem UK {x:UInt8}{t:List UInt8}{u:JAA}{r:List UInt8}(h:stp x t=some (u,r)):r.length+3<=(x::t).length/\u.Data.length+r.length<=(x::t).length:=by
 unfold stp at h
 split at h
 ·cases h
 rename_i hc
 simp only[X24,X26] at h
 obtain⟨rfl,rfl⟩:=h
 have:=XE x
 simp only[X17,X18,X12] at hc ⊢
 omega
theorem U9 (n:Nat)(acc:List JAA):spl n [] acc=some acc:=by cases n<;>rfl
theorem WS :∀(n m:Nat) (b:List UInt8) (acc:List JAA),b.length<=n->b.length<=m->spl n b acc=spl m b acc
 | n,m,[],acc,_,_=>by rw[U9,U9]
 | n+1,m+1,x::t,acc,h1,h2=>by
  simp only[spl]
  cases h:stp x t with
  | none=>rfl
  | some p=>
   obtain⟨u,r⟩:=p
   have:=(UK h).1
   exact WS n m r _ (by omega) (by omega)
 | 0,_,_::_,_,h,_=>by simp at h
 | _,0,_::_,_,_,h=>by simp at h
def LL (b:List UInt8)(acc:List JAA):Option (List JAA):=spl b.length b acc
theorem TZ (x:UInt8)(t:List UInt8)(acc:List JAA):LL (x::t) acc=match stp x t with | none=>none | some (u,r)=>LL r (acc++[u]):=by
 unfold LL
 rw[X12]
 simp only[spl]
 cases h:stp x t with
 | none=>rfl
 | some p=>
  obtain⟨u,r⟩:=p
  have:=(UK h).1
  simp only[X12] at this
  exact WS _ _ r _ (by omega) (by omega)
def Oc (b:List UInt8):List JAA×Int:=match LL b [] with
 | none=>([],12)
 | some l=>(l,0)
theorem V3 {b:List UInt8}{h:Nat}(hh:h=4\/h=3)(hb:h<=b.length):Db ((b.drop 2).take (h-2))=(sizeOf b h:Int)/\sizeOf b h<65536:=by
 unfold sizeOf
 have hl:((b.drop 2).take (h-2)).length=h-2:=by simp only[X18,X17];omega
 refine⟨Gw (by omega),?_⟩
 have:=Me ((b.drop 2).take (h-2))
 rw[hl] at this
 rcases hh with rfl | rfl
 ·exact this
 have h2:(256:Nat)^(3-2)=256:=rfl
 omega
theorem dI {b:List UInt8}{h:Nat}(h2:2<=h)(hb:h<=b.length):part b 2 (h:Int)=some ((b.drop 2).take (h-2)):=Bj (l:=b) (a:=2) (b:=h) h2 hb
theorem W6 {b:List UInt8}(hb:b.length<=1000000):EU b=some (Oc b):=by
 unfold EU
 rw[AB]
 refine (B9 (fun s:List UInt8×List JAA=>s.1.length+s.2.length<=1000000) (fun s=>s.1.length) (fun s=>some (match LL s.1 s.2 with | none=>([],12)|some l=>(l,0))) ?_ fuel (b,[]) (by simpa using hb) (BS (by simp only;omega))).trans rfl
 rintro next ⟨b,acc⟩ hl hn
 dsimp only at hl ⊢
 match b,hl,hn with
 | [],_,_=>rfl
 | x::t,hl,hn=>
  have h0:geti (x::t) 0=some x:=GH
  have hN:=XE x
  have hjoin :∀K:Int->Option (List JAA×Int),AC (τ:=Int) (fun k6=>if (((Am ((BitVec.ofInt 8 (x.toNat:Int) &&& BitVec.ofInt 8 16).toNat:Int)).toNat:Int) != 0)=true then k6 4 else k6 3) K=K (hdN x:Int):=by
   intro K
   rw[AB]
   unfold hdN
   show (if hd4 x=true then K 4 else K 3)=_
   cases hd4 x<;>rfl
  rw[if_pos (by simp),h0,AA,hjoin,TZ,AB]
  simp only[X12] at hl
  by_cases c1:(x::t).length<hdN x
  ·have:stp x t=none:=by unfold stp;rw[if_pos (.inl c1)]
   rw[this,if_pos (by simp only[decide_eq_true_eq];omega)]
   rfl
  obtain⟨g1,g2⟩:=V3 hN (by omega:hdN x<=(x::t).length)
  have hp:=dI (b:=x::t) (h:=hdN x) (by omega) (by omega)
  rw[if_neg (by simp only[decide_eq_true_eq];omega),hp,AA,C4,AA,g1,AP (x:=((x::t).length:Int)-(hdN x:Int)) (by simp only[X12];omega)]
  by_cases c2:(x::t).length-hdN x<sizeOf (x::t) (hdN x)
  ·have:stp x t=none:=by unfold stp;rw[if_pos (.inr c2)]
   have e:decide (((x::t).length:Int)-(hdN x:Int)<(sizeOf (x::t) (hdN x):Int))=true:=decide_eq_true (by omega)
   rw[this,e]
   rfl
  have hs:stp x t=some (⟨flagsOf x,((t.headD 0).toNat:Int),((x::t).drop (hdN x)).take (sizeOf (x::t) (hdN x))⟩,(x::t).drop (hdN x+sizeOf (x::t) (hdN x))):=by
   unfold stp
   rw[if_neg (fun q=>q.elim c1 c2)]
  have e:decide (((x::t).length:Int)-(hdN x:Int)<(sizeOf (x::t) (hdN x):Int))=false:=decide_eq_false (by omega)
  obtain⟨y,t2,rfl⟩ :∃y t2,t=y::t2:=by
   cases t with
   | nil=>simp at c1;omega
   | cons y t2=>exact⟨y,t2,rfl⟩
  simp only[X12] at hl
  have h1:geti (x::y::t2) 1=some y:=H9
  rw[hs,e]
  show (if (cond false true false)=true then _ else _)=_
  have hp3:part (x::y::t2) (hdN x:Int) ((hdN x+sizeOf (x::y::t2) (hdN x):Nat):Int)=some (((x::y::t2).drop (hdN x)).take (sizeOf (x::y::t2) (hdN x))):=by
   rw[Bj (by omega) (by omega)]
   congr 2
   omega
  have hp4:part (x::y::t2) ((hdN x+sizeOf (x::y::t2) (hdN x):Nat):Int) ((x::y::t2).length:Int)=some ((x::y::t2).drop (hdN x+sizeOf (x::y::t2) (hdN x))):=D9 (by omega)
  rw[if_neg (by decide),AA,C4,AA,g1,AA,h1,AA,AP (by omega),show (hdN x:Int)+(sizeOf (x::y::t2) (hdN x):Int)=((hdN x+sizeOf (x::y::t2) (hdN x):Nat):Int) by omega,hp3,AA,
   AQ (by decide) (by simp only[X13,X18,X17];omega),AA,AQ (by decide) (by simp only[X22];omega),AA,hp4,AA]
  exact hn _ (by simp only[X11,X17,X12,X13];omega) (by simp only[X17,X12];omega)
theorem Sz {b:List UInt8}(hb:b.length<=1000000):Eo b=some (Oc b):=by
 unfold Eo
 rw[AB]
 refine (B9 (fun s:List UInt8×List JAA=>s.1.length+s.2.length<=1000000) (fun s=>s.1.length) (fun s=>some (match LL s.1 s.2 with | none=>([],12)|some l=>(l,0))) ?_ fuel (b,[]) (by simpa using hb) (BS (by simp only;omega))).trans rfl
 rintro next ⟨b,acc⟩ hl hn
 dsimp only at hl ⊢
 match b,hl,hn with
 | [],_,_=>rfl
 | x::t,hl,hn=>
  have h0:geti (x::t) 0=some x:=GH
  have hN:=XE x
  have hjoin :∀K:Int->Option (List JAA×Int),AC (τ:=Int) (fun k6=>if (((Am ((BitVec.ofInt 8 (x.toNat:Int) &&& BitVec.ofInt 8 16).toNat:Int)).toNat:Int) != 0)=true then k6 4 else k6 3) K=K (hdN x:Int):=by
   intro K
   rw[AB]
   unfold hdN
   show (if hd4 x=true then K 4 else K 3)=_
   cases hd4 x<;>rfl
  rw[if_pos (by simp),h0,AA,hjoin,TZ]
  simp only[X12] at hl
  by_cases c1:(x::t).length<hdN x
  ·have:stp x t=none:=by unfold stp;rw[if_pos (.inl c1)]
   rw[this,if_pos (by simp only[decide_eq_true_eq];omega)]
  obtain⟨g1,g2⟩:=V3 hN (by omega:hdN x<=(x::t).length)
  obtain⟨y,z,t2,rfl⟩ :∃y z t2,t=y::z::t2:=by
   match t,c1 with
   | [],c1=>simp at c1;omega
   | [y],c1=>simp at c1;omega
   | y::z::t2,_=>exact⟨y,z,t2,rfl⟩
  simp only[X12] at hl
  have h1:geti (x::y::z::t2) 1=some y:=H9
  have h2:geti (x::y::z::t2) 2=some z:=CS (l:=x::y::z::t2) (i:=2) (by simp)
  have hsz :∀K:Int->Option (List JAA×Int),AC (τ:=Int) (fun k9=>if ((hdN x:Int)==4)=true then Option.bind (geti (x::y::z::t2) 3) fun v10=>k9 (AD ((BitVec.ofInt 64 (AD ((z.toNat:Int)*(2^(min (Int.toNat 8) 64)))) ||| BitVec.ofInt 64 (v10.toNat:Int)).toNat:Int)) else k9 (z.toNat:Int)) K=K (sizeOf (x::y::z::t2) (hdN x):Int):=by
   intro K
   rw[AB]
   rcases hN with e | e
   ·obtain⟨w,t3,rfl⟩ :∃w t3,t2=w::t3:=by
     cases t2 with
     | nil=>rw[e] at c1;simp at c1
     | cons w t3=>exact⟨w,t3,rfl⟩
    have h3:geti (x::y::z::w::t3) 3=some w:=CS (l:=x::y::z::w::t3) (i:=3) (by simp)
    have hz:=z.toNat_lt
    have hs:sizeOf (x::y::z::w::t3) 4=z.toNat*256+w.toNat:=by simp[sizeOf,val]
    rw[e,if_pos (by decide),h3,AA,Ug (by omega) w.toNat_lt,hs]
   have hs:sizeOf (x::y::z::t2) 3=z.toNat:=by simp[sizeOf,val]
   rw[e,if_neg (by decide),hs]
  rw[if_neg (by simp only[decide_eq_true_eq];omega),h2,AA,hsz,AP (x:=((x::y::z::t2).length:Int)-(hdN x:Int)) (by simp only[X12];omega)]
  by_cases c2:(x::y::z::t2).length-hdN x<sizeOf (x::y::z::t2) (hdN x)
  ·have:stp x (y::z::t2)=none:=by unfold stp;rw[if_pos (.inr c2)]
   rw[this,if_pos (by simp only[decide_eq_true_eq];omega)]
  have hs:stp x (y::z::t2)=some (⟨flagsOf x,(y.toNat:Int),((x::y::z::t2).drop (hdN x)).take (sizeOf (x::y::z::t2) (hdN x))⟩,(x::y::z::t2).drop (hdN x+sizeOf (x::y::z::t2) (hdN x))):=by
   unfold stp
   rw[if_neg (fun q=>q.elim c1 c2)]
   rfl
  have hp3:part (x::y::z::t2) (hdN x:Int) ((hdN x+sizeOf (x::y::z::t2) (hdN x):Nat):Int)=some (((x::y::z::t2).drop (hdN x)).take (sizeOf (x::y::z::t2) (hdN x))):=by
   rw[Bj (by omega) (by omega)]
   congr 2
   omega
  have hp4:part (x::y::z::t2) ((hdN x+sizeOf (x::y::z::t2) (hdN x):Nat):Int) ((x::y::z::t2).length:Int)=some ((x::y::z::t2).drop (hdN x+sizeOf (x::y::z::t2) (hdN x))):=D9 (by omega)
  rw[hs,if_neg (by simp only[decide_eq_true_eq];omega),AA,h1,AA,AP (by omega),show (hdN x:Int)+(sizeOf (x::y::z::t2) (hdN x):Int)=((hdN x+sizeOf (x::y::z::t2) (hdN x):Nat):Int) by omega,hp3,AA,
   AQ (by decide) (by simp only[X13,X18,X17];omega),AA,AQ (by decide) (by simp only[X22];omega),AA,hp4,AA]
  exact hn _ (by simp only[X11,X17,X12,X13];omega) (by simp only[X17,X12];omega)
theorem VK :∀(n:Nat) (b:List UInt8) (acc l:List JAA) (N:Nat),spl n b acc=some l->(∀u∈acc,u.Data.length<=N)->b.length<=N->(l.length<=acc.length+b.length/\∀u∈l,u.Data.length<=N)
 | n,[],acc,l,N,h,ha,_=>by
  rw[U9] at h
  obtain rfl:=X25 h
  exact⟨by simp,ha⟩
 | n+1,x::t,acc,l,N,h,ha,hb=>by
  simp only[spl] at h
  cases hs:stp x t with
  | none=>rw[hs] at h;cases h
  | some p=>
   obtain⟨u,r⟩:=p
   rw[hs] at h
   have h2:=UK hs
   have ih:=VK n r (acc++[u]) l N h (fun w hw=>by
    rcases X23.1 hw with hw | hw
    ·exact ha w hw
    rw[X14] at hw
    subst hw
    omega) (by omega)
   refine⟨?_,ih.2⟩
   have:=ih.1
   simp only[X11,X22] at this
   omega
 | 0,_::_,_,_,_,h,_,_=>by cases h
theorem Q7 {b:List UInt8}(hb:b.length<=400000){l:List JAA}(h:LL b []=some l):l.length<=400000/\∀u∈l,u.Data.length<=400000:=by
 have:=VK _ _ _ _ 400000 h (by simp) hb
 simp only[X13] at this
 exact⟨by omega,this.2⟩
instance (a0:Addr):Tt (EA a0):=by unfold EA;exact Tt.auto
instance (a0:Addr):Tt (D8 a0):=by unfold D8;exact Tt.auto
instance (a0:List UInt8):Tt (A5 a0):=by unfold A5;exact Tt.auto
instance (a0:Int):Tt (Be a0):=by unfold Be;exact Tt.auto
instance (a0:Int):Tt (BY a0):=by unfold BY;exact Tt.auto
instance (a0:JAB):Tt (EN a0):=by unfold EN;exact Tt.auto
instance (a0:JAB) (a1:JAB):Tt (EP a0 a1):=by unfold EP;exact Tt.auto
instance (a0:JAF):Tt (CU a0):=by unfold CU;exact Tt.auto
instance (a0:JAF) (a1:JAF):Tt (CL a0 a1):=by unfold CL;exact Tt.auto
instance (a0:List JAB) (a1:JAB):Tt (Gh a0 a1):=by unfold Gh;exact Tt.auto
instance (a0:List JAF) (a1:JAF):Tt (Dq a0 a1):=by unfold Dq;exact Tt.auto
instance:Tt (Ew):=by unfold Ew;exact Tt.auto
instance (a0:List JAB) (a1:List JAB):Tt (Fa a0 a1):=by unfold Fa;exact Tt.auto
instance (a0:List JAF) (a1:List JAF):Tt (DT a0 a1):=by unfold DT;exact Tt.auto
instance (a0:List JAA) (a1:List JAA):Tt (Dp a0 a1):=by unfold Dp;exact Tt.auto
instance (a0:Addr):Tt (CY a0):=by unfold CY;exact Tt.auto
instance (a0:Int):Tt (FA a0):=by unfold FA;exact Tt.auto
instance (a0:Addr) (a1:Int):Tt (D6 a0 a1):=by unfold D6;exact Tt.auto
theorem XS {a k:Nat}(ha:a<2^64)(hk:k<=64):(BitVec.ofInt 64 (a:Int) &&& ~~~BitVec.ofInt 64 ((2^k-1:Nat):Int)).toNat=a/2^k*2^k:=by
 apply Nat.eq_of_testBit_eq
 intro i
 rw[BitVec.ofInt_natCast,BitVec.ofInt_natCast,BitVec.testBit_toNat]
 simp only[BitVec.getLsbD_and,BitVec.getLsbD_not,BitVec.getLsbD_ofNat,Nat.testBit_mul_two_pow,Nat.testBit_div_two_pow,Nat.testBit_two_pow_sub_one]
 by_cases hi:i<64
 ·by_cases hki:k<=i
  ·simp[hi,hki,Nat.not_lt.2 hki]
  simp[hi,hki,Nat.lt_of_not_le hki]
 have:a.testBit i=false:=Nat.testBit_lt_two_pow (Nat.lt_of_lt_of_le ha (Nat.pow_le_pow_right (by omega) (by omega)))
 by_cases hki:k<=i
 ·simp[hi,hki,this]
 omega
theorem DO (n:Nat):Ad (n:Int)=UInt64.ofNat n:=by
 unfold Ad
 apply UInt64.toNat_inj.1
 simp only[UInt64.toNat_ofNat']
 omega
def Addr.n (a:Addr):Nat:=a.Hi.toNat*2^64+a.Lo.toNat
def Addr.w (a:Addr):Nat:=if a.V6 then 128 else 32
def Addr.ok (a:Addr):Bool:=cond a.V6 true (cond ((a.Hi.toNat:Int)==0) (decide ((a.Lo.toNat:Int)<4294967296)) false)
def mkA (v6:Bool)(n:Nat):Addr:=⟨v6,UInt64.ofNat (n/2^64),UInt64.ofNat n⟩
def Addr.cut (a:Addr)(n:Nat):Addr:=mkA a.V6 (a.n/2^(a.w-n)*2^(a.w-n))
theorem XR (b:Bool)(m:Nat):(mkA b m).V6=b:=by unfold mkA;rfl
theorem XL (a:Addr)(n:Nat):(a.cut n).V6=a.V6:=XR _ _
theorem fx (h l k:Nat)(hl:l<2^64)(hk:k<=64):(h*2^64+l)/2^k*2^k=h*2^64+l/2^k*2^k:=by
 have:(2:Nat)^64=2^(64-k)*2^k:=by rw[<- Nat.pow_add];congr 1;omega
 rw[this,<- Nat.mul_assoc,Nat.add_comm,Nat.add_mul_div_right _ _ (Nat.two_pow_pos k),X32,Nat.add_comm]
theorem cp:Ad (((0:Nat):Int)-1)=UInt64.ofNat 18446744073709551615:=by
   unfold Ad
   congr 1
theorem cn {k:Nat}(hk:k<64):Ad (((UInt64.ofNat (2^k)).toNat:Int)-1)=UInt64.ofNat (2^k-1):=by
  have h3:(2:Nat)^k<2^64:=Nat.pow_lt_pow_right (by omega) (by omega)
  have h4:0<(2:Nat)^k:=Nat.two_pow_pos k
  have h5:(UInt64.ofNat (2^k)).toNat=2^k:=by simp only[UInt64.toNat_ofNat'];omega
  rw[h5]
  have h6:((2^k:Nat):Int)-1=((2^k-1:Nat):Int):=by omega
  rw[h6,DO]
theorem di:Ad (((UInt64.ofNat (2^64)).toNat:Int)-1)=UInt64.ofNat (2^64-1):=by
  have h5:(UInt64.ofNat (2^64)).toNat=0:=by simp only[UInt64.toNat_ofNat',Nat.mod_self]
  rw[h5]
  exact cp
theorem dK {k:Nat}(hk:k<=64):Ad (1*(2^(min (Int.toNat ((Ad (k:Int)).toNat:Int)) 64)))=UInt64.ofNat (2^k):=by
 rw[DO]
 have h1:(UInt64.ofNat k).toNat=k:=by simp;omega
 rw[h1,Int.toNat_natCast,Nat.min_eq_left hk,Int.one_mul]
 have h2:((2:Int)^k)=((2^k:Nat):Int):=by simp
 rw[h2,DO]
theorem Vw {k:Nat}(hk:k<=64):Ad (((Ad (1*(2^(min (Int.toNat ((Ad (k:Int)).toNat:Int)) 64)))).toNat:Int)-1)=UInt64.ofNat (2^k-1):=by
 rw[dK hk]
 rcases Nat.lt_or_eq_of_le hk with h | h
 ·exact cn h
 rw[h];exact di
theorem NW {x:UInt64}{k:Nat}(hk:k<=64):Ad ((BitVec.ofInt 64 (x.toNat:Int) &&& ~~~BitVec.ofInt 64 ((UInt64.ofNat (2^k-1)).toNat:Int)).toNat:Int)=UInt64.ofNat (x.toNat/2^k*2^k):=by
 have h:(UInt64.ofNat (2^k-1)).toNat=2^k-1:=by
  have:(2:Nat)^k<=2^64:=Nat.pow_le_pow_right (by omega) hk
  have h4:0<(2:Nat)^k:=Nat.two_pow_pos k
  simp only[UInt64.toNat_ofNat'];omega
 rw[h,XS x.toNat_lt hk,DO]
theorem QC (a:Addr){n:Nat}(hn:n<=a.w):D6 a (n:Int)=some (a.cut n):=by
 have hw:CY a=some (a.w:Int):=by unfold CY Addr.w;split<;>rfl
 have hwn:AD ((a.w:Int)-(n:Int))=((a.w-n:Nat):Int):=by
  have:a.w<=128:=by unfold Addr.w;split<;>omega
  rw[AP (by omega)];omega
 have hlo:=a.Lo.toNat_lt
 have hhi:=a.Hi.toNat_lt
 unfold D6
 rw[hw,AA,hwn]
 have hk128:a.w-n<=128:=by unfold Addr.w;split<;>omega
 generalize hk:a.w-n=k at *
 unfold FA
 by_cases h64:k > 64
 ·rw[if_pos (by simp;omega),AA]
  have e:AD ((k:Int)-64)=((k-64:Nat):Int):=by rw[AP (by omega)];omega
  rw[e,Vw (by omega)]
  simp only[NW (show k-64<=64 by omega)]
  have h1:(18446744073709551615:UInt64)=UInt64.ofNat (2^64-1):=rfl
  rw[h1,NW (Nat.le_refl 64)]
  have h0:a.Lo.toNat/2^64=0:=Nat.div_eq_of_lt hlo
  unfold Addr.cut mkA Addr.n
  rw[hk]
  have hsplit:(2:Nat)^k=2^64*2^(k-64):=by rw[<- Nat.pow_add];congr 1;omega
  have hd:(a.Hi.toNat*2^64+a.Lo.toNat)/2^k=a.Hi.toNat/2^(k-64):=by
   rw[hsplit,<- Nat.div_div_eq_div_mul,Nat.add_comm,Nat.add_mul_div_right _ _ (Nat.two_pow_pos 64),h0,Nat.zero_add]
  rw[hd]
  have he:a.Hi.toNat/2^(k-64)*2^k=a.Hi.toNat/2^(k-64)*2^(k-64)*2^64:=by
   rw[hsplit,Nat.mul_comm (2^64),Nat.mul_assoc]
  rw[he,Nat.mul_div_cancel _ (Nat.two_pow_pos 64),h0]
  have e0:UInt64.ofNat (a.Hi.toNat/2^(k-64)*2^(k-64)*2^64)=UInt64.ofNat 0:=by
   apply UInt64.toNat_inj.1
   simp only[UInt64.toNat_ofNat',Nat.mul_mod_left,Nat.zero_mod]
  rw[e0,Nat.zero_mul]
 rw[if_neg (by simp;omega),AA,Vw (by omega)]
 simp only[NW (show k<=64 by omega)]
 have h1:(0:UInt64)=UInt64.ofNat (2^0-1):=rfl
 rw[h1,NW (Nat.zero_le 64)]
 unfold Addr.cut mkA Addr.n
 rw[hk,fx _ _ _ hlo (by omega)]
 have hlt:a.Lo.toNat/2^k*2^k<2^64:=Nat.lt_of_le_of_lt (Nat.div_mul_le_self _ _) hlo
 have e1:UInt64.ofNat (a.Hi.toNat/2^0*2^0)=UInt64.ofNat ((a.Hi.toNat*2^64+a.Lo.toNat/2^k*2^k)/2^64):=by
  congr 1
  omega
 have e2:UInt64.ofNat (a.Lo.toNat/2^k*2^k)=UInt64.ofNat (a.Hi.toNat*2^64+a.Lo.toNat/2^k*2^k):=by
  apply UInt64.toNat_inj.1
  simp only[UInt64.toNat_ofNat']
  omega
 rw[e1,e2]
theorem Iu (n:Nat):Am (n:Int)=UInt8.ofNat n:=by
 unfold Am
 apply UInt8.toNat_inj.1
 simp only[UInt8.toNat_ofNat']
 omega
def Addr.L (a:Addr):Nat:=if a.V6 then 16 else 4
def TU (a:Addr)(k:Nat):UInt8:=UInt8.ofNat (a.n/2^(8*k))
theorem Ej (a:Addr):EA a=some a.ok:=by
 unfold EA Addr.ok
 rw[AB]
 generalize ((a.Hi.toNat:Int)==0)=x
 generalize decide ((a.Lo.toNat:Int)<4294967296)=y
 generalize a.V6=z
 cases z<;>cases x<;>rfl
theorem XX {w:UInt64}{k:Nat}(hk:k<8) :
  Am ((Ad (Int.fdiv (w.toNat:Int) (2^(min (Int.toNat ((Ad (8*((Ad (k:Int)).toNat:Int))).toNat:Int)) 64)))).toNat:Int)=UInt8.ofNat (w.toNat/2^(8*k)):=by
 have h1:(Ad (k:Int)).toNat=k:=by rw[DO];simp;omega
 have h2:(Ad (8*((Ad (k:Int)).toNat:Int))).toNat=8*k:=by
  rw[h1]
  have:(8*(k:Int))=((8*k:Nat):Int):=by omega
  rw[this,DO];simp;omega
 have h3:Int.fdiv (w.toNat:Int) ((2:Int)^(8*k))=((w.toNat/2^(8*k):Nat):Int):=by
  have:((2:Int)^(8*k))=((2^(8*k):Nat):Int):=by simp
  rw[this,Int.fdiv_eq_ediv_of_nonneg _ (Int.natCast_nonneg _),Int.natCast_ediv]
 rw[h2,Int.toNat_natCast,Nat.min_eq_left (by omega),h3,DO,Iu]
 have:(UInt64.ofNat (w.toNat/2^(8*k))).toNat=w.toNat/2^(8*k):=by
  have hd:w.toNat/2^(8*k)<2^64:=Nat.lt_of_le_of_lt (Nat.div_le_self _ _) w.toNat_lt
  rw[UInt64.toNat_ofNat',Nat.mod_eq_of_lt hd]
 rw[this]
theorem UW {a b:Nat}(h:a%256=b%256):UInt8.ofNat a=UInt8.ofNat b:=by
 apply UInt8.toNat_inj.1
 simp only[UInt8.toNat_ofNat']
 exact h
theorem U1 {a:Addr}{k:Nat}(hk:k<16)(hv:a.ok=true)(h4:a.V6=false->k<4) :
  UInt8.ofNat ((if k ≥ 8 then a.Hi else a.Lo).toNat/2^(8*(k%8)))=TU a k:=by
 unfold TU Addr.n
 have hlo:=a.Lo.toNat_lt
 by_cases h8:k ≥ 8
 ·rw[if_pos h8]
  have e:8*k=64+8*(k%8):=by omega
  rw[e,Nat.pow_add,<- Nat.div_div_eq_div_mul,Nat.add_comm (a.Hi.toNat*2^64),Nat.add_mul_div_right _ _ (Nat.two_pow_pos 64),Nat.div_eq_of_lt hlo,Nat.zero_add]
 rw[if_neg h8]
 have e:k%8=k:=Nat.mod_eq_of_lt (by omega)
 rw[e]
 apply UW
 have e2:(2:Nat)^64=2^(8*k)*2^(64-8*k):=by rw[<- Nat.pow_add];congr 1;omega
 have e3:(2:Nat)^(64-8*k)=256*2^(56-8*k):=by
  have:(256:Nat)=2^8:=rfl
  rw[this,<- Nat.pow_add];congr 1;omega
 have e4:a.Hi.toNat*2^64=a.Hi.toNat*2^(56-8*k)*256*2^(8*k):=by
  rw[e2,e3,Nat.mul_assoc,Nat.mul_assoc]
  congr 1
  rw[Nat.mul_comm (2^(56-8*k)),Nat.mul_comm (2^(8*k))]
  rw[Nat.mul_assoc,Nat.mul_comm (2^(56-8*k)),Nat.mul_assoc]
 rw[e4,Nat.add_comm,Nat.add_mul_div_right _ _ (Nat.two_pow_pos _),Nat.add_mul_mod_self_right]
theorem KF {a:Addr}(hv:a.ok=true):Ok (Bn a) fun l=>l.length=a.L/\∀j,j<a.L->l[j]?=some (TU a (a.L-1-j)):=by
 unfold Bn
 rw[Ej,AA,hv]
 refine .ite (fun h=>by simp at h) fun _=>?_
 refine .join (fun n:Int=>n=a.L) (fun k hk=>.ite (fun h=>hk _ (by unfold Addr.L;rw[if_pos h];rfl)) fun h=>hk _ (by unfold Addr.L;rw[if_neg h];rfl)) fun n hn=>?_
 have hL:a.L=16\/a.L=4:=by unfold Addr.L;split<;>simp
 subst hn
 refine .join (fun l:List UInt8=>l.length=a.L/\∀j,j<a.L->l[j]?=some (TU a (a.L-1-j))) (fun k hk=>?_) fun l hl=>.ret hl
 refine .whileI (fun s:Int×List UInt8=>-1<=s.1/\s.1=a.L-1-s.2.length/\∀j,j<s.2.length->s.2[j]?=some (TU a (a.L-1-j))) (fun s=>(s.1+1).toNat) ?_ ?_ ?_
 ·rw[AP (by omega)];simp;omega
 ·rw[AP (by omega)];exact BS (by omega)
 rintro next ⟨p,l⟩ ⟨h1,h2,h3⟩ hn
 simp only at h1 h2 h3
 refine .ite (fun h=>?_) fun h=>hk _ ⟨by simp at h;omega,fun j hj=>h3 j (by simp at h;omega)⟩
 simp only[decide_eq_true_eq] at h
 obtain⟨k,rfl⟩ :∃k:Nat,p=k:=⟨p.toNat,by omega⟩
 refine .join (fun w:UInt64=>w=if k ≥ 8 then a.Hi else a.Lo) (fun k' hk'=>.ite (fun h=>hk' _ (by rw[if_pos (by simp at h;omega)]) ) fun h=>hk' _ (by rw[if_neg (by simp at h;omega)])) fun w hw=>?_
 refine .bind (Ok.apnd (by decide) (by simp;omega)) fun l' hl'=>?_
 have hb:k<16:=by omega
 have ht:Int.tmod (k:Int) 8=((k%8:Nat):Int):=by rw[Int.tmod_eq_emod_of_nonneg (by omega)];omega
 rw[ht,XX (Nat.mod_lt _ (by omega)),hw,U1 hb hv (fun h4=>by unfold Addr.L at h2;simp[h4] at h2;omega)] at hl'
 subst hl'
 rw[AP (by omega)]
 refine hn _ ⟨by simp only;omega,by simp;omega,fun j hj=>?_⟩ (by simp only;omega)
 simp only[X11,X22] at hj
 by_cases hj':j<l.length
 ·simp only
  rw[List.getElem?_append_left hj'];exact h3 j hj'
 have:j=l.length:=by omega
 subst this
 simp only[List.getElem?_append_right (Nat.le_refl _),Nat.sub_self,List.getElem?_cons_zero]
 congr 2
 omega
theorem UE {u v:Nat}(hu:u<2^64)(hv:v<256):Ad ((BitVec.ofInt 64 ((Ad ((u:Int)*(2^(min (Int.toNat 8) 64)))).toNat:Int) ||| BitVec.ofInt 64 ((Ad (v:Int)).toNat:Int)).toNat:Int)=UInt64.ofNat (u*256+v):=by
 have h1:((u:Int)*(2^(min (Int.toNat 8) 64)))=((u*256:Nat):Int):=by
  have:min (Int.toNat 8) 64=8:=rfl
  rw[this];omega
 rw[h1,DO,DO,DO]
 have h2:(UInt64.ofNat v).toNat=v:=by simp only[UInt64.toNat_ofNat'];omega
 have h3:(UInt64.ofNat (u*256)).toNat=2^8*(u%2^56):=by simp only[UInt64.toNat_ofNat'];omega
 rw[h2,h3,BitVec.ofInt_natCast,BitVec.ofInt_natCast,BitVec.toNat_or,BitVec.toNat_ofNat,BitVec.toNat_ofNat,Nat.mod_eq_of_lt (show 2^8*(u%2^56)<2^64 by omega),Nat.mod_eq_of_lt (show v<2^64 by omega),
  ← Nat.two_pow_add_eq_or_of_lt (show v<2^8 by omega)]
 apply UInt64.toNat_inj.1
 simp only[UInt64.toNat_ofNat']
 omega
theorem Hf {l:List UInt8}(hl:l.length=4\/l.length=16):Ok (A5 l) fun r=>r=(mkA (l.length==16) (val l%2^128),0):=by
 unfold A5
 refine .join (fun b=>b=false) (fun k hk=>.ite (fun h=>hk _ ?_) fun _=>hk _ rfl) fun b hb=>?_
 ·rcases hl with h' | h'<;>simp[h'] at h ⊢
 subst hb
 refine .ite (fun h=>by simp at h) fun _=>?_
 refine .join (fun a=>a=mkA (l.length==16) (val l%2^128)) (fun k hk=>?_) fun a ha=>.ret (by rw[ha])
 refine .forX (fun i s=>s=mkA (l.length==16) (val (l.take i)%2^128)) ?_ (fun s hs=>hk _ (by rw[hs,List.take_length])) ?_
 ·have:((l.length:Int)==16)=(l.length==16):=by rw[X28];simp only[beq_iff_eq];omega
  rw[this,List.take_zero]
  have e0:val []%2^128=0:=by simp[val]
  rw[e0]
  unfold mkA
  rfl
 rintro next x i s hx rfl hn
 refine hn _ ?_
 have hlt:=(X16.1 hx).1
 have ht:l.take (i+1)=l.take i++[x]:=by rw[List.take_add_one,hx];rfl
 rw[ht,M8]
 generalize val (l.take i)=m
 have hx8:=x.toNat_lt
 have hlo:(mkA (l.length==16) (m%2^128)).Lo.toNat=m%2^64:=by unfold mkA;simp only[UInt64.toNat_ofNat'];omega
 have hhi:(mkA (l.length==16) (m%2^128)).Hi.toNat=m/2^64%2^64:=by unfold mkA;simp only[UInt64.toNat_ofNat'];omega
 have h1:=UE (u:=m%2^64) (v:=x.toNat) (by omega) hx8
 have h2:=UE (u:=m/2^64%2^64) (v:=m%2^64/2^56) (by omega) (by omega)
 have h3:Int.fdiv ((m%2^64:Nat):Int) (2^(min (Int.toNat 56) 64))=((m%2^64/2^56:Nat):Int):=by
  have:min (Int.toNat 56) 64=56:=rfl
  have e5:((2:Int)^56)=((2^56:Nat):Int):=by simp
  rw[this,e5,Int.fdiv_eq_ediv_of_nonneg _ (Int.natCast_nonneg _),Int.natCast_ediv]
 rw[hlo,hhi,h3,h1,h2,XR]
 unfold mkA
 have e1:UInt64.ofNat (m/2^64%2^64*256+m%2^64/2^56)=UInt64.ofNat ((m*256+x.toNat)%2^128/2^64):=by
  apply UInt64.toNat_inj.1;simp only[UInt64.toNat_ofNat'];omega
 have e2:UInt64.ofNat (m%2^64*256+x.toNat)=UInt64.ofNat ((m*256+x.toNat)%2^128):=by
  apply UInt64.toNat_inj.1;simp only[UInt64.toNat_ofNat'];omega
 rw[e1,e2]
theorem Vs :∀(l:List UInt8) (q:Nat),(val l).testBit q=if q<8*l.length then (l.getD (l.length-1-q/8) 0).toNat.testBit (q%8) else false:=by
 intro l
 induction h:l.length generalizing l with
 | zero=>intro q;have:l=[]:=List.eq_nil_of_length_eq_zero h;subst this;simp[val]
 | succ n ih=>
  intro q
  obtain⟨l',x,rfl⟩ :∃l' x,l=l'++[x]:=by
   rcases List.eq_nil_or_concat l with h' | ⟨l',x,h'⟩
   ·subst h';simp at h
   exact⟨l',x,by simpa using h'⟩
  have hl':l'.length=n:=by simpa using h
  rw[M8,Nat.mul_comm,show (256:Nat)=2^8 from rfl,Nat.testBit_two_pow_mul_add _ (show x.toNat<2^8 from x.toNat_lt)]
  by_cases hq:q<8
  ·rw[if_pos hq,if_pos (by omega)]
   have e1:n+1-1-q/8=l'.length:=by omega
   rw[e1,Nat.mod_eq_of_lt hq]
   simp[List.getD_eq_getElem?_getD]
  rw[if_neg hq,ih l' hl']
  by_cases h2:q-8<8*n
  ·rw[if_pos h2,if_pos (by omega)]
   have e1:n-1-(q-8)/8=n+1-1-q/8:=by omega
   have e2:(q-8)%8=q%8:=by omega
   rw[e1,e2,List.getD_eq_getElem?_getD,List.getD_eq_getElem?_getD,List.getElem?_append_left (by omega)]
  rw[if_neg h2,if_neg (by omega)]
theorem Yi {x:UInt8}{r:Nat}(hr:r<8){s:Nat}(hs:s<8) :
  (Am ((BitVec.ofInt 8 (x.toNat:Int) &&& ~~~BitVec.ofInt 8 ((Am (Int.fdiv 128 (2^(min (Int.toNat ((Ad (r:Int)).toNat:Int)) 8)))).toNat:Int)).toNat:Int)).toNat.testBit s=(x.toNat.testBit s&&!decide (7-r=s)):=by
 have h1:(Ad (r:Int)).toNat=r:=by rw[DO];simp;omega
 have h2:Int.fdiv 128 ((2:Int)^r)=((2^(7-r):Nat):Int):=by
  have e1:((2:Int)^r)=((2^r:Nat):Int):=by simp
  have e2:(128:Int)=((128:Nat):Int):=rfl
  rw[e1,e2,Int.fdiv_eq_ediv_of_nonneg _ (Int.natCast_nonneg _),<- Int.natCast_ediv]
  congr 1
  have e3:(128:Nat)=2^(7-r)*2^r:=by rw[<- Nat.pow_add,show 7-r+r=7 by omega]
  rw[e3,Nat.mul_div_cancel _ (Nat.two_pow_pos r)]
 rw[h1,Int.toNat_natCast,Nat.min_eq_left (by omega),h2,Iu,Iu,BitVec.ofInt_natCast,BitVec.ofInt_natCast]
 have hp:2^(7-r)<256:=Nat.lt_of_le_of_lt (Nat.pow_le_pow_right (by omega) (show 7-r<=7 by omega)) (by decide)
 have h3:(UInt8.ofNat (2^(7-r))).toNat=2^(7-r):=by simp only[UInt8.toNat_ofNat'];exact Nat.mod_eq_of_lt hp
 rw[h3,UInt8.toNat_ofNat',Nat.testBit_mod_two_pow,BitVec.testBit_toNat]
 simp only[BitVec.getLsbD_and,BitVec.getLsbD_not,BitVec.getLsbD_ofNat,hs,decide_true,Bool.true_and,Nat.testBit_two_pow]
theorem Addr.cut_bit (a:Addr){n q:Nat}(hn:n<=a.w):(a.n/2^(a.w-n)*2^(a.w-n)).testBit q=(a.n.testBit q&&decide (a.w-n<=q)):=by
 rw[Nat.testBit_mul_two_pow,Nat.testBit_div_two_pow]
 by_cases h:a.w-n<=q
 ·simp[h]
 simp[h]
theorem Z4 {b c:Bool}(h:cond b c false=true):b=true/\c=true:=by cases b<;>simp at h ⊢;exact h
theorem Addr.ok4 {a:Addr}(hv:a.ok=true)(h6:a.V6=false):a.Hi.toNat=0/\a.Lo.toNat<2^32:=by
 unfold Addr.ok at hv
 rw[h6] at hv
 obtain⟨h1,h2⟩:=Z4 hv
 have h2:=of_decide_eq_true h2
 have h1:=eq_of_beq h1
 omega
theorem Addr.n_lt {a:Addr}(hv:a.ok=true):a.n<2^a.w:=by
 have h1:=a.Lo.toNat_lt
 have h2:=a.Hi.toNat_lt
 cases hv6:a.V6
 ·obtain⟨g1,g2⟩:=Addr.ok4 hv hv6
  have hw:a.w=32:=by unfold Addr.w;rw[hv6];rfl
  have hn:a.n=a.Lo.toNat:=by unfold Addr.n;rw[g1,Nat.zero_mul,Nat.zero_add]
  rw[hw,hn];exact g2
 have hw:a.w=128:=by unfold Addr.w;rw[hv6];rfl
 rw[hw]
 unfold Addr.n
 omega
theorem Ln {a:Addr}{n:Nat}(hv:a.ok=true)(hn:n<=a.w):Ok (B1 a (n:Int)) fun r=>r=(⟨a.cut n,n⟩,0):=by
 have hw:a.w=8*a.L:=by unfold Addr.w Addr.L;split<;>rfl
 have hL:a.L=16\/a.L=4:=by unfold Addr.L;split<;>simp
 unfold B1
 rw[Ej,AA,hv]
 refine .ite (fun h=>by simp at h) fun _=>?_
 have hwid:D8 a=some (a.w:Int):=by unfold D8 Addr.w;split<;>rfl
 refine .join (fun b=>b=false) (fun k hk=>.ite (fun h=>by simp at h;omega) fun _=>?_) fun b hb=>?_
 ·rw[hwid,AA]
  refine hk _ ?_
  simp only[cond_false,decide_eq_false_iff_not]
  omega
 subst hb
 refine .ite (fun h=>by simp at h) fun _=>?_
 refine .bind (KF hv) fun l hl=>?_
 refine .join (fun l:List UInt8=>l.length=a.L/\val l=a.n/2^(a.w-n)*2^(a.w-n)) (fun k hk=>?_) fun l' hl'=>?_
 ·refine .whileI (fun s:Int×List UInt8=>∃P:Nat,s.1=P/\n<=P/\P<=8*a.L/\s.2.length=a.L/\∀q,q<8*a.L->(s.2.getD (a.L-1-q/8) 0).toNat.testBit (q%8)=(a.n.testBit q&&!decide (8*a.L-P<=q/\q<8*a.L-n)))
   (fun s=>(8*a.L-s.1).toNat) ⟨n,rfl,Nat.le_refl _,by omega,hl.1,fun q hq=>?_⟩ (BS (by simp only;omega)) ?_
  ·have h1:a.L-1-q/8<a.L:=by omega
   have h2:=hl.2 _ h1
   have h3:a.L-1-(a.L-1-q/8)=q/8:=by omega
   have h4:¬ (8*a.L-n<=q/\q<8*a.L-n):=by omega
   rw[List.getD_eq_getElem?_getD,h2,h3]
   simp only[Option.getD_some,h4,decide_false,Bool.not_false,Bool.and_true]
   unfold TU
   rw[UInt8.toNat_ofNat',Nat.testBit_mod_two_pow,Nat.testBit_div_two_pow,Nat.mod_add_div]
   simp[Nat.mod_lt]
  rintro next ⟨p,l⟩ ⟨P,h1,h2,h3,h4,h5⟩ hnx
  simp only at h1 h4 h5
  subst h1
  have e8:AD (8*(l.length:Int))=((8*a.L:Nat):Int):=by rw[AP (by omega)];omega
  refine .ite (fun h=>?_) fun h=>hk _ ?_
  ·rw[e8] at h
   simp only[decide_eq_true_eq] at h
   have ed:AD (Int.tdiv (P:Int) 8)=((P/8:Nat):Int):=by
    rw[Int.tdiv_eq_ediv_of_nonneg (by omega),AP (by omega)];omega
   have et:Int.tmod (P:Int) 8=((P%8:Nat):Int):=by rw[Int.tmod_eq_emod_of_nonneg (by omega)];omega
   have hlt:P/8<l.length:=by omega
   rw[ed,CS hlt,AA,AA]
   refine .bind (Ok.seti (by omega)) fun l' hl'=>?_
   rw[Int.toNat_natCast,et] at hl'
   rw[AP (by omega)]
   refine hnx _ ⟨P+1,by simp only;omega,by omega,by omega,by simp only;omega,fun q hq=>?_⟩ (by simp only;omega)
   simp only
   rw[hl'.1]
   by_cases hb:a.L-1-q/8=P/8
   ·have hx:=h5 q hq
    rw[hb,List.getD_eq_getElem?_getD,X15 hlt,Option.getD_some] at hx
    rw[hb,List.getD_eq_getElem?_getD,List.getElem?_set_self (by omega),Option.getD_some,Yi (Nat.mod_lt _ (by omega)) (Nat.mod_lt _ (by omega)),hx,Bool.and_assoc]
    congr 1
    rw[X28]
    simp only[X27,Bool.not_eq_true',decide_eq_false_iff_not]
    omega
   have hx:=h5 q hq
   rw[List.getD_eq_getElem?_getD] at hx
   rw[List.getD_eq_getElem?_getD,List.getElem?_set_ne (by omega),hx]
   congr 2
   rw[decide_eq_decide]
   omega
  rw[e8] at h
  simp only[decide_eq_true_eq] at h
  have hP:P=8*a.L:=by omega
  subst hP
  refine⟨h4,?_⟩
  apply Nat.eq_of_testBit_eq
  intro q
  rw[Vs,a.cut_bit hn,h4]
  by_cases hq:q<8*a.L
  ·rw[if_pos hq,h5 q hq]
   congr 1
   rw[X28]
   simp only[Bool.not_eq_true',decide_eq_false_iff_not,decide_eq_true_eq]
   omega
  rw[if_neg hq]
  have:a.n.testBit q=false:=Nat.testBit_lt_two_pow (Nat.lt_of_lt_of_le (Addr.n_lt hv) (Nat.pow_le_pow_right (by omega) (by omega)))
  rw[this,Bool.false_and]
 refine .bind (Hf (by omega)) fun r hr=>?_
 subst hr
 refine .ret ?_
 have e1:(l'.length==16)=a.V6:=by
  rw[hl'.1]
  unfold Addr.L
  cases a.V6<;>rfl
 have e2:val l'%2^128=val l':=by
  refine Nat.mod_eq_of_lt ?_
  rw[hl'.2]
  exact Nat.lt_of_le_of_lt (Nat.div_mul_le_self _ _) (Nat.lt_of_lt_of_le (Addr.n_lt hv) (Nat.pow_le_pow_right (by omega) (by rw[hw];omega)))
 rw[e1,e2,hl'.2,Addr.cut]
theorem Q5 {a:Addr}{n:Int}(hn:¬ (a.ok=true/\0<=n/\n<=a.w)):Ok (B1 a n) fun r=>r.2≠0:=by
 have hwid:D8 a=some (a.w:Int):=by unfold D8 Addr.w;split<;>rfl
 unfold B1
 rw[Ej,AA]
 refine .ite (fun _=>.ret (by decide)) fun hv=>?_
 have hv:a.ok=true:=by simpa using hv
 refine .join (fun b=>b=true) (fun k hk=>.ite (fun _=>hk _ rfl) fun h=>?_) fun b hb=>?_
 ·rw[hwid,AA]
  refine hk _ ?_
  show decide (n > (a.w:Int))=true
  simp at h ⊢
  have:¬ (0<=n/\n<=a.w):=fun q=>hn ⟨hv,q⟩
  omega
 subst hb
 exact .ite (fun _=>.ret (by decide)) fun h=>absurd rfl h
theorem Ie (a:Addr)(n:Int) :∃r e,B1 a n=some (r,e)/\((a.ok=true/\0<=n/\n<=a.w)/\e=0/\r=⟨a.cut n.toNat,n⟩\/¬ (a.ok=true/\0<=n/\n<=a.w)/\e≠0):=by
 by_cases h:a.ok=true/\0<=n/\n<=a.w
 ·obtain⟨k,rfl⟩ :∃k:Nat,n=k:=⟨n.toNat,by omega⟩
  obtain⟨r,h1,h2⟩:=Ln h.1 (n:=k) (by omega)
  exact⟨_,_,by rw[h1,h2],.inl ⟨h,rfl,by rw[Int.toNat_natCast]⟩⟩
 obtain⟨r,h1,h2⟩:=Q5 h
 exact⟨r.1,r.2,h1,.inr ⟨h,h2⟩⟩
instance (a:Addr) (n:Int):Tt (B1 a n):=by
 obtain⟨r,e,h,_⟩:=Ie a n
 exact⟨_,h⟩
instance (p:JAC):Tt (D4 p):=by unfold D4;exact Tt.auto
structure SmA (n:Nat)(a:JAE):Prop where
 p:a.Path.length<=n
 s :∀s∈a.Path,s.ASNs.length<=n
 c:a.Communities.length<=n
 l:a.JAF.length<=n
 o:a.Other.length<=n
 d :∀u∈a.Other,u.Data.length<=n
theorem SmA.mono {n m:Nat}{a:JAE}(h:SmA n a)(hnm:n<=m):SmA m a:=
 ⟨Nat.le_trans h.p hnm,fun s hs=>Nat.le_trans (h.s s hs) hnm,Nat.le_trans h.c hnm,Nat.le_trans h.l hnm,Nat.le_trans h.o hnm,fun u hu=>Nat.le_trans (h.d u hu) hnm⟩
theorem SmA.zero (n:Nat)(x:Addr)(a b c d:Int):SmA n ⟨a,[],x,b,c,d,[],[],[]⟩:=⟨Nat.zero_le _,fun _ h=>absurd h (by simp),Nat.zero_le _,Nat.zero_le _,Nat.zero_le _,fun _ h=>absurd h (by simp)⟩
instance (a b:List JAD):Tt (FY a b):=by
 unfold FY
 refine Ok.tt (Q:=fun _=>True) (.ite (fun _=>.ret trivial) fun hl=>.join (fun _=>True) (fun k hk=>?_) fun _ _=>.ret trivial)
 have hl:a.length=b.length:=by simp at hl;omega
 refine .for_ (fun _=>hk _ trivial) fun next x i s hi hx hnx=>.join (fun _=>True) (fun k2 hk2=>?_) fun _ _=>hnx _
 have hib:i<b.length:=by omega
 refine .join (fun c=>c=false->x.ASNs.length=b[i].ASNs.length) (fun k3 hk3=>?_) fun c hc=>.ite (fun _=>.ret trivial) fun hc'=>.join (fun _=>True) (fun k4 hk4=>?_) fun _ _=>hk2 _ trivial
 ·rw[CS hib,AA]
  refine .ite (fun _=>hk3 _ (by simp)) fun _=>?_
  rw[AA]
  exact hk3 _ fun h=>by simp at h;omega
 have:=hc (by simpa using hc')
 refine .for_ (fun _=>hk4 _ trivial) fun next y j s hj hy hny=>?_
 rw[CS hib,AA]
 refine .bind (.geti (by omega)) fun _ _=>.ite (fun _=>.ret trivial) fun _=>hny _
instance (a b:JAE):Tt (Dm a b):=by unfold Dm;exact Tt.auto
theorem Wz {K V:Type}[BEq K](hl :∀a b:K,(a==b)=true↔a=b){l:List (K×V)}{k k':K}{v:V}:BV (Cf l k v) k'=cond (k'==k) (some v) (BV l k'):=by
 induction l with
 | nil=>simp only[Cf,BV];cases k'==k<;>rfl
 | cons p l ih=>
  simp only[Cf]
  cases h:(k==p.1)
  ·simp only[Bool.false_eq_true,if_false,BV,ih]
   cases h2:(k'==p.1)
   ·simp
   have h3:(k'==k)=false:=by
    cases h4:(k'==k)
    ·rfl
    have e1:=(hl _ _).1 h2;have e2:=(hl _ _).1 h4
    rw[<- e2,e1,(hl _ _).2 rfl] at h
    simp at h
   rw[h3];simp
  simp only[if_true,BV]
  have e:=(hl _ _).1 h
  rw[<- e]
  cases k'==k<;>simp
theorem mget_mset {V:Type}{l:List (Int×V)}{k k':Int}{v:V}:BV (Cf l k v) k'=if k'=k then some v else BV l k':=by
 rw[Wz (fun a b=>beq_iff_eq)]
 by_cases h:k'=k
 ·rw[if_pos h,h];simp
 rw[if_neg h,show (k'==k)=false by simpa using h];rfl
def Mb (n:Nat)(ks:List Int)(m:List (Int×List UInt8)):Prop:=(∀k v,BV m k=some v->v.length<=n)/\∀k∈ks,BV m k=none
theorem Mb.set {n:Nat}{ks ks':List Int}{m:List (Int×List UInt8)}{k:Int}{v:List UInt8}(h:Mb n ks m)(hv:v.length<=n)(hk :∀q∈ks',q∈ks/\q≠k):Mb n ks' (Cf m k v):=by
 refine⟨fun q u hq=>?_,fun q hq=>?_⟩
 ·rw[mget_mset] at hq
  split at hq
  ·obtain rfl:=X25 hq;exact hv
  exact h.1 _ _ hq
 rw[mget_mset,if_neg (hk q hq).2]
 exact h.2 q (hk q hq).1
theorem Mb.sub {n:Nat}{ks ks':List Int}{m:List (Int×List UInt8)}(h:Mb n ks m)(hk :∀q∈ks',q∈ks):Mb n ks' m:=⟨h.1,fun q hq=>h.2 q (hk q hq)⟩
def Fv (p:JAC):Prop:=p.Addr.ok=true/\0<=p.Len/\p.Len<=p.Addr.w/\p.Addr.cut p.Len.toNat=p.Addr
theorem Addr.eqd_iff (a b:Addr):Addr.eqd a b=true↔a=b:=by
 unfold Addr.eqd
 simp only[X27,beq_iff_eq,Bool.and_true,Int.natCast_inj,UInt64.toNat_inj]
 constructor
 ·rintro⟨h1,h2,h3⟩;cases a;cases b;simp_all
 rintro rfl;exact⟨rfl,rfl,rfl⟩
theorem JAC.eqd_iff (a b:JAC):JAC.eqd a b=true↔a=b:=by
 have h:=Addr.eqd_iff a.Addr b.Addr
 unfold Addr.eqd at h
 unfold JAC.eqd
 rw[X27,h]
 simp only[Bool.and_true,beq_iff_eq]
 constructor
 ·rintro⟨h1,h2⟩;cases a;cases b;simp_all
 rintro rfl;exact⟨rfl,rfl⟩
theorem RG (p:JAC):Ok (D4 p) fun b=>b=true↔Fv p:=by
 obtain⟨r,e,h1,h2⟩:=Ie p.Addr p.Len
 unfold D4
 rw[h1,AA]
 dsimp only
 unfold Fv
 rcases h2 with ⟨h3,rfl,rfl⟩|⟨h3,h4⟩
 ·refine .join (fun b=>b=true↔p.Addr.cut p.Len.toNat=p.Addr) (fun k hk=>.ite (fun _=>hk _ ?_) fun h=>absurd rfl h) fun b hb=>.ret (by rw[hb];exact⟨fun h=>⟨h3.1,h3.2.1,h3.2.2,h⟩,fun h=>h.2.2.2⟩)
  show JAC.eqd p _=true↔_
  rw[JAC.eqd_iff]
  exact⟨fun h=>(congrArg JAC.Addr h).symm,fun h=>by rw[h]⟩
 refine .join (fun b=>b=false) (fun k hk=>.ite (fun h=>absurd (by simpa using h) h4) fun _=>hk _ rfl) fun b hb=>.ret ⟨fun h=>by rw[hb] at h;simp at h,fun h=>absurd ⟨h.1,h.2.1,h.2.2.1⟩ h3⟩
def Dk (d:JAI):Prop:=0<=d.At/\d.L.length<=9223372036854775807
def Sh (p:List JAD)(o:List JAA):Prop:=(p.length<=4/\∀s∈p,s.ASNs.length<=20)/\o.length<=4/\∀u∈o,u.Data.length<=4
theorem Sh.a {p:List JAD}{o:List JAA}(h:Sh p o){a b c d:Int}{x:Addr}{e:List JAB}{f:List JAF}(he:e.length<=8)(hf:f.length<=8):SmA 1000 ⟨a,p,x,b,c,d,e,f,o⟩:=
 ⟨by have:=h.1.1;simp only;omega,fun s hs=>by have:=h.1.2 s hs;omega,by simp only;omega,by simp only;omega,by have:=h.2.1;simp only;omega,fun u hu=>by have:=h.2.2 u hu;omega⟩
def pw (six:Bool):Nat:=if six=true then 16 else 4
def pk (n:UInt8):Nat:=(n.toNat+7)/8
def WN (six:Bool)(n:UInt8)(t:List UInt8):List UInt8:=t.take (pk n)++List.replicate (pw six-pk n) 0
def fL (six:Bool)(n:UInt8)(t:List UInt8):JAC:=⟨(addrOf (WN six n t)).cut n.toNat,n.toNat⟩
def N9 (six:Bool)(n:UInt8)(t:List UInt8):Option (JAC×List UInt8):=if 8*pw six<n.toNat\/t.length<pk n then none else some (fL six n t,t.drop (pk n))
def pfx (six:Bool):Nat->List UInt8->List JAC->Option (List JAC)
 | _,[],acc=>some acc
 | f+1,n::t,acc=>match N9 six n t with
  | none=>none
  | some (p,r)=>pfx six f r (acc++[p])
 | 0,_::_,_=>none
theorem Of {six:Bool}{n:UInt8}{t:List UInt8}{p:JAC}{r:List UInt8}(h:N9 six n t=some (p,r)):r.length<=t.length:=by
 unfold N9 at h
 split at h
 ·cases h
 simp only[X24,X26] at h
 obtain⟨_,rfl⟩:=h
 simp
theorem T9 (six:Bool)(n:Nat)(acc:List JAC):pfx six n [] acc=some acc:=by cases n<;>rfl
theorem Vq (six:Bool) :∀(n m:Nat) (b:List UInt8) (acc:List JAC),b.length<=n->b.length<=m->pfx six n b acc=pfx six m b acc
 | n,m,[],acc,_,_=>by rw[T9,T9]
 | n+1,m+1,x::t,acc,h1,h2=>by
  simp only[pfx]
  cases h:N9 six x t with
  | none=>rfl
  | some p=>
   obtain⟨u,r⟩:=p
   have:=Of h
   simp only[X12] at h1 h2
   exact Vq six n m r _ (by omega) (by omega)
 | 0,_,_::_,_,h,_=>by simp at h
 | _,0,_::_,_,_,h=>by simp at h
def Ef (six:Bool)(b:List UInt8)(acc:List JAC):Option (List JAC):=pfx six b.length b acc
theorem Wa (six:Bool)(acc:List JAC):Ef six [] acc=some acc:=rfl
theorem TA (six:Bool)(x:UInt8)(t:List UInt8)(acc:List JAC):Ef six (x::t) acc=match N9 six x t with | none=>none | some (u,r)=>Ef six r (acc++[u]):=by
 unfold Ef
 rw[X12]
 simp only[pfx]
 cases h:N9 six x t with
 | none=>rfl
 | some p=>
  obtain⟨u,r⟩:=p
  have:=Of h
  exact Vq six _ _ r _ (by omega) (by omega)
def Ll (six:Bool)(b:List UInt8):List JAC×Bool:=match Ef six b [] with
 | none=>([],false)
 | some l=>(l,true)
theorem UO (six:Bool) :∀(f:Nat) (b:List UInt8) (acc l:List JAC),pfx six f b acc=some l->l.length<=acc.length+b.length
 | f,[],acc,l,h=>by
  rw[T9] at h
  obtain rfl:=X25 h
  simp
 | f+1,x::t,acc,l,h=>by
  simp only[pfx] at h
  cases hs:N9 six x t with
  | none=>rw[hs] at h;cases h
  | some p=>
   obtain⟨u,r⟩:=p
   rw[hs] at h
   have h1:=Of hs
   have ih:=UO six f r _ l h
   simp only[X11,X12,X13] at ih ⊢
   omega
 | 0,_::_,_,_,h=>by cases h
theorem Vz (six:Bool)(b:List UInt8):(Ll six b).1.length<=b.length:=by
 unfold Ll
 cases h:Ef six b [] with
 | none=>simp
 | some l=>
  have:=UO six _ _ _ _ h
  simpa using this
theorem Z1 {six:Bool}{n:UInt8}(h:¬ 8*pw six<n.toNat):pk n<=pw six:=by
 unfold pk
 omega
theorem Su {six:Bool}{n:UInt8}{t:List UInt8}(h1:¬ 8*pw six<n.toNat)(h2:¬ t.length<pk n):(WN six n t).length=pw six:=by
 have:=Z1 h1
 unfold WN
 simp only[X11,X18,X20]
 omega
theorem Yf {l:List UInt8}(h:l.length=4\/l.length=16):BF l=some (addrOf l,0)/\addrOf l=mkA (l.length==16) (val l%2^128):=by
 obtain⟨r,h1,h2⟩:=Hf h
 rw[HY] at h1
 have e:addrOf l=mkA (l.length==16) (val l%2^128):=by
  unfold addrOf
  rw[h1,h2];rfl
 refine⟨?_,e⟩
 rw[h1,h2,e]
theorem IJ {six:Bool}{l:List UInt8}(h:l.length=pw six):BF l=some (addrOf l,0)/\(addrOf l).V6=six/\(addrOf l).ok=true/\(addrOf l).w=8*pw six:=by
 have h4:l.length=4\/l.length=16:=by
  rw[h];unfold pw;cases six<;>simp
 obtain⟨g1,g2⟩:=Yf h4
 have hv:(addrOf l).V6=six:=by
  rw[g2,XR,h]
  unfold pw;cases six<;>rfl
 refine⟨g1,hv,?_,?_⟩
 ·unfold Addr.ok
  rw[hv]
  cases six with
  | true=>rfl
  | false=>
   have hl:l.length=4:=h
   have hval:=Me l
   rw[hl] at hval
   have hval:val l<4294967296:=hval
   have e1:(addrOf l).Hi.toNat=0:=by
    rw[g2];unfold mkA
    simp only[UInt64.toNat_ofNat']
    omega
   have e2:(addrOf l).Lo.toNat<4294967296:=by
    rw[g2];unfold mkA
    simp only[UInt64.toNat_ofNat']
    omega
   have e3:((((addrOf l).Hi.toNat:Nat):Int)==0)=true:=by rw[e1];rfl
   rw[e3,cond_false,cond_true]
   exact decide_eq_true (by omega)
 unfold Addr.w pw
 rw[hv]
 cases six<;>rfl
def G7 (b:List UInt8):Option (List UInt8×List UInt8):=match b with
 | x::y::t=>if t.length<x.toNat*256+y.toNat then none else some (t.take (x.toNat*256+y.toNat),t.drop (x.toNat*256+y.toNat))
 | _=>none
theorem Fj {b p r:List UInt8}(h:G7 b=some (p,r)):p.length+r.length+2=b.length:=by
 unfold G7 at h
 split at h
 ·split at h
  ·cases h
  simp only[X24,X26] at h
  obtain⟨rfl,rfl⟩:=h
  simp only[X18,X17,X12]
  omega
 cases h
def Ba (l:List JAA)(k:Int):List JAA:=l.filter fun x=>x.Type_==k
def isP (d:List UInt8):Bool:=d.take 3==[0,2,1]
def Dv (d:List UInt8):Option (Addr×List JAC):=
 if isP d=true/\21<=d.length/\d.getD 3 0=16/\d.getD 20 0=0 then (Ef true (d.drop 21) []).map fun l=>(addrOf ((d.drop 4).take 16),l) else none
def Dl (d:List UInt8):Option (List JAC):=if isP d=true then Ef true (d.drop 3) [] else none
def zAd:Addr:=⟨false,(0:UInt64),(0:UInt64)⟩
def Dw (l:List JAA):Option (Addr×List JAC):=match Ba l 14 with
 | []=>some (zAd,[])
 | [x]=>Dv x.Data
 | _=>none
def CH (l:List JAA):Option (List JAC):=match Ba l 15 with
 | []=>some []
 | [x]=>Dl x.Data
 | _=>none
structure Pt where
 l:List JAA
 next:Addr
 old:List JAC
 gone:List JAC
 four:List JAC
 six:List JAC
def okN (old gone four six:List JAC):Bool:=!(decide (0<four.length)&&decide (0<six.length))&&(decide (old.length+gone.length<=256)&&decide (four.length+six.length<=256))
def Xy (l:List JAA):Option (Addr×List JAC)->Option (List JAC)->Option (List JAC)->Option (List JAC)->Option Pt
 | some (n,six),some gone,some old,some four=>if okN old gone four six=true/\(rdS l).2≠12 then some ⟨l,n,old,gone,four,six⟩ else none
 | _,_,_,_=>none
def Zr (w rest:List UInt8):Option (List JAA)->Option Pt
 | none=>none
 | some l=>Xy l (Dw l) (CH l) (Ef false w []) (Ef false rest [])
theorem JP {w rest:List UInt8}{l:List JAA}:Zr w rest (some l)=Xy l (Dw l) (CH l) (Ef false w []) (Ef false rest []):=rfl
def IZ (b:List UInt8):Option Pt:=match G7 b with
 | none=>none
 | some (w,b1)=>match G7 b1 with
  | none=>none
  | some (a,rest)=>Zr w rest (LL a [])
theorem Jl {l:List JAA}{n:Addr}{six gone old four:List JAC}:Xy l (some (n,six)) (some gone) (some old) (some four)=if okN old gone four six=true/\(rdS l).2≠12 then some ⟨l,n,old,gone,four,six⟩ else none:=rfl
theorem DU {l:List JAA}{R:Option (Addr×List JAC)}{U O F:Option (List JAC)}(h:R=none\/U=none\/O=none\/F=none):Xy l R U O F=none:=by
 rcases h with rfl | rfl | rfl | rfl
 ·rfl
 ·cases R<;>rfl
 ·cases R<;>cases U<;>rfl
 cases R<;>cases U<;>cases O<;>rfl
def flg (x:JAA):Bool:=(x.Type_==14 || x.Type_==15)&&(bt x.Flags 192 != 128)
def WV (P:Pt):Bool:=decide ((rdS P.l).2≠0) || (P.l.any flg || (!(CW P.l 1) || (!(CW P.l 2) || (decide (0<P.four.length)&&Addr.eqd (rdS P.l).1.Next zAd))))
def fV:JAG:=⟨[],zA,[]⟩
def bG (b:List UInt8):JAG×Int:=match IZ b with
 | none=>(fV,12)
 | some P=>if P.four++P.six=[] then (⟨P.old++P.gone,eA,[]⟩,0) else
  if WV P=true then (⟨P.old++P.gone++(P.four++P.six),eA,[]⟩,13) else
   (⟨P.old++P.gone,if 0<P.six.length then { (rdS P.l).1 with Next:=P.next } else (rdS P.l).1,P.four++P.six⟩,0)
def H4 (b:List UInt8):List UInt8×List UInt8×Bool:=match G7 b with
 | none=>([],[],false)
 | some (p,r)=>(p,r,true)
theorem UB (x y:UInt8)(t:List UInt8):Ek (x::y::t)=some ((x.toNat*256+y.toNat:Nat):Int):=by
 unfold Ek
 have hx:=x.toNat_lt
 rw[GH,AA,H9,AA,Ug (by omega) y.toNat_lt]
theorem Rj {b:List UInt8}(hb:b.length<=1000000):ER b=some (H4 b):=by
 match b,hb with
 | [],_=>rfl
 | [x],_=>rfl
 | x::y::t,hb=>
  have hx:=x.toNat_lt
  have hy:=y.toNat_lt
  simp only[X12] at hb
  unfold ER H4 G7
  rw[if_neg (by simp only[X12,decide_eq_true_eq];omega),GH,AA,H9,AA,Ug (by omega) hy]
  dsimp only
  rw[AP (x:=((x::y::t).length:Int)-2) (by simp only[X12];omega)]
  by_cases c:t.length<x.toNat*256+y.toNat
  ·rw[if_pos c,if_pos (by simp only[X12,decide_eq_true_eq];omega)]
  have e:AD (2+((x.toNat*256+y.toNat:Nat):Int))=((2+(x.toNat*256+y.toNat):Nat):Int):=by rw[AP (by omega)];omega
  rw[if_neg c,if_neg (by simp only[X12,decide_eq_true_eq];omega),e,show (2:Int)=((2:Nat):Int) by rfl,Bj (by omega) (by simp only[X12];omega),AA,D9 (by simp only[X12];omega),AA]
  have e1:2+(x.toNat*256+y.toNat)-2=x.toNat*256+y.toNat:=by omega
  have e2:2+(x.toNat*256+y.toNat)=(x.toNat*256+y.toNat)+2:=by omega
  rw[e1,e2]
  rfl
theorem Wq {b:List UInt8}(hb:b.length<=1000000):Gl b=some (H4 b):=by
 match b,hb with
 | [],_=>rfl
 | [x],_=>rfl
 | x::y::t,hb=>
  have hx:=x.toNat_lt
  have hy:=y.toNat_lt
  simp only[X12] at hb
  unfold Gl H4 G7
  rw[AB,if_neg (by simp only[X12,decide_eq_true_eq];omega),UB,AA,AP (x:=((x::y::t).length:Int)-2) (by simp only[X12];omega)]
  dsimp only
  by_cases c:t.length<x.toNat*256+y.toNat
  ·rw[if_pos c,if_pos (by simp only[cond_false,decide_eq_true_eq,X12];omega)]
  have e:AD (2+((x.toNat*256+y.toNat:Nat):Int))=((2+(x.toNat*256+y.toNat):Nat):Int):=by rw[AP (by omega)];omega
  rw[if_neg c,if_neg (by simp only[cond_false,decide_eq_true_eq,X12];omega),AA,e,show (2:Int)=((2:Nat):Int) by rfl,Bj (by omega) (by simp only[X12];omega),AA,D9 (by simp only[X12];omega),AA]
  have e1:2+(x.toNat*256+y.toNat)-2=x.toNat*256+y.toNat:=by omega
  have e2:2+(x.toNat*256+y.toNat)=(x.toNat*256+y.toNat)+2:=by omega
  rw[e1,e2]
  rfl
theorem SS (a:Addr):Em a=some a.ok:=by
 unfold Em Addr.ok
 rw[AB]
 generalize ((a.Hi.toNat:Int)==0)=x
 generalize decide ((a.Lo.toNat:Int)<4294967296)=y
 generalize a.V6=z
 cases z<;>cases x<;>rfl
theorem QD (a:Addr):CY a=some (a.w:Int):=by unfold CY Addr.w;split<;>rfl
theorem Yq {a:Addr}{n:Nat}(hv:a.ok=true)(hn:n<=a.w):G4 a (n:Int)=some (⟨a.cut n,n⟩,0):=by
 unfold G4
 rw[SS,AA,hv,if_neg (by decide),AB,if_neg (by simp only[decide_eq_true_eq];omega),QD,AA]
 dsimp only
 rw[if_neg (by simp only[cond_false,decide_eq_true_eq];omega),QC a hn,AA]
theorem Z7 {a:Addr}{n:Nat}(hv:a.ok=true)(hn:n<=a.w):B1 a (n:Int)=some (⟨a.cut n,n⟩,0):=by
 obtain⟨r,h1,h2⟩:=Ln hv hn
 rw[h1,h2]
theorem aT (x:UInt8):AD (1+AD (Int.tdiv (AD ((x.toNat:Int)+7)) 8))=((1+pk x:Nat):Int)/\AD (Int.tdiv (AD ((x.toNat:Int)+7)) 8)=(pk x:Int):=by
 have hx:=x.toNat_lt
 have e:AD (Int.tdiv (AD ((x.toNat:Int)+7)) 8)=(pk x:Int):=by
  unfold pk
  rw[AP (x:=(x.toNat:Int)+7) (by omega),Int.tdiv_eq_ediv_of_nonneg (by omega),AP (by omega)]
  omega
 refine⟨?_,e⟩
 rw[e]
 have:pk x<=40:=by unfold pk;omega
 rw[AP (by omega)]
 omega
theorem OE {ρ:Type}(W:Int)(six:Bool)(hW:W=(pw six:Int)){b:List UInt8}(hb:b.length<=1000000)(K:Bool×List JAC->Option ρ) :
  AC (τ:=Bool×(List JAC)) (fun k10=>
   AC (τ:=(List JAC)) (fun k11=>
    Ao (σ:=(List UInt8)×(List JAC)) (fun next12 (v13,v14)=>
     if (decide ((v13.length:Int) > 0)) then
      Option.bind (geti v13 0) fun v15=>
      AC (τ:=Bool) (fun k16=>
       if (decide ((v15.toNat:Int) > (AD (8*W)))) then
        k16 true
       else
        k16 (cond false true (decide ((v13.length:Int)<(AD (1+(AD (Int.tdiv (AD ((v15.toNat:Int)+7)) 8)))))))
      ) fun v17=>
      if v17 then
       k10 (false,[])
      else
       Option.bind (part v13 1 (AD (1+(AD (Int.tdiv (AD ((v15.toNat:Int)+7)) 8))))) fun v18=>
       Option.bind (apnd (α:=UInt8) 1 [] v18) fun _=>
       Option.bind (chk (0<=(AD (W-(AD (Int.tdiv (AD ((v15.toNat:Int)+7)) 8))))/\(AD (W-(AD (Int.tdiv (AD ((v15.toNat:Int)+7)) 8))))<=1048576)) fun _=>
       Option.bind (apnd (α:=UInt8) 1 v18 (List.replicate (Int.toNat (AD (W-(AD (Int.tdiv (AD ((v15.toNat:Int)+7)) 8))))) (0:UInt8))) fun v19=>
       Option.bind (A5 v19) fun (v20,v21)=>
       Option.bind (B1 v20 (v15.toNat:Int)) fun (v22,v23)=>
       Option.bind (apnd (α:=JAC) 32 v14 ([v22]:List JAC)) fun v24=>
       Option.bind (part v13 (AD (1+(AD (Int.tdiv (AD ((v15.toNat:Int)+7)) 8)))) (v13.length:Int)) fun v25=>
       next12 (v25,v24)
     else
      k11 v14
    ) fuel (b,[])
   ) fun v26=>
   k10 (true,v26)
  ) K=K ((Ll six b).2,(Ll six b).1):=by
 rw[AB,AB]
 refine (B9 (fun s:List UInt8×List JAC=>s.1.length+s.2.length<=1000000) (fun s=>s.1.length) (fun s=>match Ef six s.1 s.2 with | none=>K (false,[])|some l=>K (true,l)) ?_ fuel (b,[]) (by simpa using hb) (BS (by simp only;omega))).trans ?_
 ·rintro next ⟨v,acc⟩ hl hn
  dsimp only at hl ⊢
  match v,hl,hn with
  | [],_,_=>rfl
  | x::t,hl,hn=>
   have hx:=x.toNat_lt
   obtain⟨p1,p2⟩:=aT x
   have hw:pw six=4\/pw six=16:=by unfold pw;cases six<;>simp
   simp only[X12] at hl
   rw[if_pos (by simp),GH,AA,TA,AB,p1,p2,hW,AP (x:=8*(pw six:Int)) (by omega)]
   unfold N9
   by_cases c1:8*pw six<x.toNat
   ·rw[if_pos (by simp only[decide_eq_true_eq];omega),if_pos (.inl c1)]
    rfl
   rw[if_neg (by simp only[decide_eq_true_eq];omega)]
   dsimp only
   by_cases c2:t.length<pk x
   ·rw[if_pos (by simp only[cond_false,decide_eq_true_eq,X12];omega),if_pos (.inr c2)]
   have hk:=Z1 c1
   have e3:AD ((pw six:Int)-(pk x:Int))=((pw six-pk x:Nat):Int):=by rw[AP (by omega)];omega
   rw[if_neg (by simp only[cond_false,decide_eq_true_eq,X12];omega),if_neg (fun q=>q.elim c1 c2),show (1:Int)=((1:Nat):Int) by rfl,Bj (l:=x::t) (a:=1) (b:=1+pk x) (by omega) (by simp only[X12];omega),AA,e3]
   have e4:((x::t).drop 1).take (1+pk x-1)=t.take (pk x):=by
    have:1+pk x-1=pk x:=by omega
    rw[this];rfl
   have hfl:=Su (six:=six) (n:=x) (t:=t) c1 c2
   obtain⟨a1,a2,a3,a4⟩:=IJ hfl
   have e5:apnd (α:=UInt8) 1 (t.take (pk x)) (List.replicate (Int.toNat ((pw six-pk x:Nat):Int)) (0:UInt8))=some (WN six x t):=by
    rw[Int.toNat_natCast,AQ (by decide) (by simp only[X18,X20];omega)]
    rfl
   have e6:(x::t).drop (1+pk x)=t.drop (pk x):=by rw[Nat.add_comm];rfl
   have e7:chk (0<=((pw six-pk x:Nat):Int)/\((pw six-pk x:Nat):Int)<=1048576)=some ():=if_pos (by omega)
   rw[e4,AQ (b:=1) (l:=[]) (by decide) (by simp only[X13,X18];omega),AA,e7,AA,e5,AA,HY,a1,AA]
   dsimp only
   rw[Z7 a3 (by omega),AA]
   dsimp only
   rw[AQ (by decide) (by simp only[X22];omega),AA,D9 (by simp only[X12];omega),AA,e6]
   exact hn _ (by simp only[X11,X17,X12,X13];omega) (by simp only[X17,X12];omega)
 unfold Ll
 cases Ef six b []<;>rfl
theorem ag {w:Nat}{ys:List UInt8}(h:ys.length<=w):cpy (List.replicate w (0:UInt8)) 0 (List.replicate w (0:UInt8)).length ys=ys++List.replicate (w-ys.length) 0:=by
 unfold cpy
 rw[List.take_zero,List.nil_append,X20,List.take_of_length_le h,List.drop_replicate]
 congr 2
 omega
theorem Gv {b:List UInt8}(hb:b.length<=1000000)(six:Bool):CJ b six=some (Ll six b):=by
 unfold CJ
 have hw:pw six=4\/pw six=16:=by unfold pw;cases six<;>simp
 have hW :∀(K:Int->Option (List JAC×Bool)),AC (τ:=Int) (fun k1=>if six then k1 128 else k1 32) K=K ((8*pw six:Nat):Int):=by
  intro K
  rw[AB]
  cases six<;>rfl
 rw[hW,AB]
 have e8:AD (Int.tdiv ((8*pw six:Nat):Int) 8)=(pw six:Int):=by rw[Int.tdiv_eq_ediv_of_nonneg (by omega),AP (by omega)];omega
 rw[e8]
 refine (B9 (fun s:List UInt8×List JAC=>s.1.length+s.2.length<=1000000) (fun s=>s.1.length) (fun s=>match Ef six s.1 s.2 with | none=>some ([],false)|some l=>some (l,true)) ?_ fuel (b,[]) (by simpa using hb) (BS (by simp only;omega))).trans ?_
 ·rintro next ⟨v,acc⟩ hl hn
  dsimp only at hl ⊢
  match v,hl,hn with
  | [],_,_=>rfl
  | x::t,hl,hn=>
   have hx:=x.toNat_lt
   obtain⟨p1,p2⟩:=aT x
   simp only[X12] at hl
   rw[if_pos (by simp),GH,AA,TA,AB,p1]
   unfold N9
   by_cases c1:8*pw six<x.toNat
   ·rw[if_pos (by simp only[decide_eq_true_eq];omega),if_pos (.inl c1)]
    rfl
   rw[if_neg (by simp only[decide_eq_true_eq];omega)]
   dsimp only
   by_cases c2:t.length<pk x
   ·rw[if_pos (by simp only[cond_false,decide_eq_true_eq,X12];omega),if_pos (.inr c2)]
   have hk:=Z1 c1
   rw[if_neg (by simp only[cond_false,decide_eq_true_eq,X12];omega),if_neg (fun q=>q.elim c1 c2),show (1:Int)=((1:Nat):Int) by rfl,Bj (l:=x::t) (a:=1) (b:=1+pk x) (by omega) (by simp only[X12];omega)]
   have e4:((x::t).drop 1).take (1+pk x-1)=t.take (pk x):=by
    have:1+pk x-1=pk x:=by omega
    rw[this];rfl
   have hfl:=Su (six:=six) (n:=x) (t:=t) c1 c2
   obtain⟨a1,a2,a3,a4⟩:=IJ hfl
   have e5:cpy (List.replicate (Int.toNat (pw six:Int)) (0:UInt8)) 0 (List.replicate (Int.toNat (pw six:Int)) (0:UInt8)).length (t.take (pk x))=WN six x t:=by
    have hlen:(t.take (pk x)).length=pk x:=by simp only[X18];omega
    rw[Int.toNat_natCast,ag (by omega),hlen]
    rfl
   have e6:(x::t).drop (1+pk x)=t.drop (pk x):=by rw[Nat.add_comm];rfl
   have e7:chk (0<=(pw six:Int)/\(pw six:Int)<=(pw six:Int)/\(pw six:Int)<=1048576)=some ():=if_pos (by omega)
   rw[e7,AA,AA,e4,e5,a1,AA]
   dsimp only
   rw[Yq a3 (by omega),AA]
   dsimp only
   rw[AQ (by decide) (by simp only[X22];omega),AA,D9 (by simp only[X12];omega),AA,e6]
   exact hn _ (by simp only[X11,X17,X12,X13];omega) (by simp only[X17,X12];omega)
 unfold Ll
 cases Ef six b []<;>rfl
def zU:JAA:=⟨0,0,[]⟩
theorem OZ (x:JAA)(t:List JAA)(k:Int):Ba (x::t) k=if (x.Type_==k)=true then x::Ba t k else Ba t k:=by
 unfold Ba
 rw[List.filter_cons]
theorem ak (l:List JAA)(k:Int):(Ba l k).length<=l.length:=List.length_filter_le _ _
theorem RE {l:List JAA}(hl:l.length<=1000000)(k:Int):FX l k=some ((Ba l k).headD zU,((Ba l k).length:Int)):=by
 unfold FX
 rw[AB]
 refine (Uz (fun (t:List JAA) _ (s:Int×JAA)=>0<=s.1/\s.1+t.length<=1000000) (fun t _ s=>some (if s.1=0 then (Ba t k).headD s.2 else s.2,s.1+((Ba t k).length:Int))) ?_ ?_ l 0 (0,zU) (by simp only;omega)).trans ?_
 ·rintro i ⟨c,u⟩ hP
  show some (u,c)=some (if c=0 then u else u,c+0)
  rw[ite_self,Int.add_zero]
 ·rintro next x t i ⟨c,u⟩ ⟨h1,h2⟩ hn
  simp only[X12] at h1 h2
  have hle:=ak t k
  dsimp only
  rw[AB,OZ]
  by_cases hx:(x.Type_==k)=true
  ·have e1:AD (c+1)=c+1:=AP (by omega)
   rw[if_pos hx,if_pos hx,e1,AB]
   by_cases hc:c=0
   ·subst hc
    rw[if_pos (by decide),if_pos rfl]
    dsimp only
    rw[hn _ (by simp only;omega)]
    dsimp only
    rw[if_neg (by omega)]
    simp only[List.headD_cons,X12,X24,X26,true_and]
    omega
   rw[if_neg (by simp only[beq_iff_eq];omega),if_neg hc]
   dsimp only
   rw[hn _ (by simp only;omega)]
   dsimp only
   rw[if_neg (by omega)]
   simp only[X12,X24,X26,true_and]
   omega
  rw[if_neg hx,if_neg hx]
  dsimp only
  rw[hn _ (by simp only;omega)]
 dsimp only
 rw[if_pos rfl,Int.zero_add]
theorem IW (x y z:UInt8)(t:List UInt8):isP (x::y::z::t)=true↔x=0/\y=2/\z=1:=by
 unfold isP
 simp
theorem J4 (x:UInt8)(n:Nat)(h:n<256):((x.toNat:Int) != (n:Int))=!decide (x=UInt8.ofNat n):=by
 have:(x=UInt8.ofNat n)↔x.toNat=n:=by
  rw[<- UInt8.toNat_inj,UInt8.toNat_ofNat',Nat.mod_eq_of_lt h]
 rw[X28]
 simp only[bne_iff_ne,ne_eq,Int.natCast_inj,Bool.not_eq_true',decide_eq_false_iff_not,this]
theorem JD {l:List UInt8}{i:Nat}(h:i<l.length):geti l (i:Int)=some l[i]:=CS h
theorem Yr {l:List JAA}(hd :∀x∈l,x.Data.length<=1000000):match Dw l with
  | some (a,p)=>DC ((Ba l 14).headD zU) ((Ba l 14).length:Int)=some (a,p,true)
  | none=>∃a,DC ((Ba l 14).headD zU) ((Ba l 14).length:Int)=some (a,[],false):=by
 unfold Dw
 have hm :∀x∈Ba l 14,x.Data.length<=1000000:=fun x hx=>hd x ((List.mem_filter.1 hx).1)
 match Ba l 14,hm with
 | [],_=>rfl
 | x::y::t,_=>
  refine⟨zAd,?_⟩
  show DC x ((t.length+1+1:Nat):Int)=_
  unfold DC
  rw[if_neg (by simp only[beq_iff_eq];omega),AB,if_pos (by simp only[decide_eq_true_eq];omega)]
  rfl
 | [x],hm=>
  have hx:=hm x (by simp)
  generalize hdd:x.Data=d at hx
  show match Dv x.Data with
   | some (a,p)=>DC x 1=some (a,p,true)
   | none=>∃a,DC x 1=some (a,[],false)
  unfold DC
  rw[if_neg (by decide),AB,if_neg (by decide),hdd]
  by_cases h21:d.length<21
  ·have hr:Dv d=none:=if_neg (by omega)
   rw[hr,if_pos (by simp only[cond_false,decide_eq_true_eq];omega)]
   exact⟨zAd,rfl⟩
  rw[if_neg (by simp only[cond_false,decide_eq_true_eq];omega)]
  match d,h21,hx with
  | [],h,_=>exact absurd (by simp) h
  | [_],h,_=>exact absurd (by simp) h
  | [_,_],h,_=>exact absurd (by simp) h
  | [_,_,_],h,_=>exact absurd (by simp) h
  | x0::x1::x2::x3::t,h21,hx=>
   have g2:geti (x0::x1::x2::x3::t) 2=some x2:=JD (l:=x0::x1::x2::x3::t) (i:=2) (by simp)
   have g3:geti (x0::x1::x2::x3::t) 3=some x3:=JD (l:=x0::x1::x2::x3::t) (i:=3) (by simp)
   simp only[X12] at h21 hx
   have h16:16<t.length:=by omega
   have g20:geti (x0::x1::x2::x3::t) 20=some (t[16]'h16):=JD (l:=x0::x1::x2::x3::t) (i:=20) (by simp only[X12];omega)
   have d20:(x0::x1::x2::x3::t).getD 20 0=t[16]'h16:=by simp[h16]
   have d3:(x0::x1::x2::x3::t).getD 3 0=x3:=rfl
   rw[GH,AA,H9,AA,g2,AA,g3,AA,g20,AA]
   have n0:=J4 x0 0 (by omega)
   have n1:=J4 x1 2 (by omega)
   have n2:=J4 x2 1 (by omega)
   have n3:=J4 x3 16 (by omega)
   have n20:=J4 (t[16]'h16) 0 (by omega)
   have c0:((x0.toNat:Int) != 0)=!decide (x0=0):=n0
   have c1:((x1.toNat:Int) != 2)=!decide (x1=2):=n1
   have c2:((x2.toNat:Int) != 1)=!decide (x2=1):=n2
   have c3:((x3.toNat:Int) != 16)=!decide (x3=16):=n3
   have c20:(((t[16]'h16).toNat:Int) != 0)=!decide (t[16]'h16=0):=n20
   rw[c0,c1,c2,c3,c20]
   by_cases k0:x0=0
   case neg=>rw[show Dv _=none from if_neg (fun q=>k0 ((IW _ _ _ _).1 q.1).1),if_pos (by simp[k0])];exact⟨zAd,rfl⟩
   by_cases k1:x1=2
   case neg=>rw[show Dv _=none from if_neg (fun q=>k1 ((IW _ _ _ _).1 q.1).2.1),if_neg (by simp[k0]),if_pos (by simp[k1])];exact⟨zAd,rfl⟩
   by_cases k2:x2=1
   case neg=>rw[show Dv _=none from if_neg (fun q=>k2 ((IW _ _ _ _).1 q.1).2.2),if_neg (by simp[k0]),if_neg (by simp[k1]),if_pos (by simp[k2])];exact⟨zAd,rfl⟩
   by_cases k3:x3=16
   case neg=>rw[show Dv _=none from if_neg (fun q=>k3 (d3 ▸ q.2.2.1)),if_neg (by simp[k0]),if_neg (by simp[k1]),if_neg (by simp[k2]),if_pos (by simp[k3])];exact⟨zAd,rfl⟩
   by_cases k20:t[16]'h16=0
   case neg=>
    rw[show Dv _=none from if_neg (fun q=>k20 (d20 ▸ q.2.2.2)),if_neg (by simp[k0]),if_neg (by simp[k1]),if_neg (by simp[k2]),if_neg (by simp[k3])]
    have e:cond false true (!decide (t[16]'h16=0))=true:=by simp[k20]
    rw[e]
    exact⟨zAd,rfl⟩
   have e:cond false true (!decide (t[16]'h16=0))=false:=by simp[k20]
   rw[show Dv (x0::x1::x2::x3::t)=_ from if_pos ⟨(IW _ _ _ _).2 ⟨k0,k1,k2⟩,by simp only[X12];omega,d3.trans k3,d20.trans k20⟩,if_neg (by simp[k0]),if_neg (by simp[k1]),if_neg (by simp[k2]),if_neg (by simp[k3]),e]
   dsimp only
   have p1:part (x0::x1::x2::x3::t) 4 20=some (((x0::x1::x2::x3::t).drop 4).take 16):=Bj (l:=x0::x1::x2::x3::t) (a:=4) (b:=20) (by omega) (by simp only[X12];omega)
   have p2:part (x0::x1::x2::x3::t) 21 ((x0::x1::x2::x3::t).length:Int)=some ((x0::x1::x2::x3::t).drop 21):=D9 (n:=21) (by simp only[X12];omega)
   have hl16:(((x0::x1::x2::x3::t).drop 4).take 16).length=pw true:=by
    show _=16
    simp only[X18,X17,X12]
    omega
   rw[if_neg (by decide),p1,AA,HY,(IJ hl16).1,AA]
   dsimp only
   rw[p2,AA,OE 16 true rfl (by simp only[X17,X12];omega)]
   unfold Ll
   cases Ef true ((x0::x1::x2::x3::t).drop 21) [] with
   | none=>exact⟨_,rfl⟩
   | some p=>rfl
theorem WR {l:List JAA}(hd :∀x∈l,x.Data.length<=1000000):C6 ((Ba l 15).headD zU) ((Ba l 15).length:Int)=some (match CH l with | some p=>(p,true)|none=>([],false)):=by
 unfold CH
 have hm :∀x∈Ba l 15,x.Data.length<=1000000:=fun x hx=>hd x ((List.mem_filter.1 hx).1)
 match Ba l 15,hm with
 | [],_=>rfl
 | x::y::t,_=>
  show C6 x ((t.length+1+1:Nat):Int)=_
  unfold C6
  rw[if_neg (by simp only[beq_iff_eq];omega),AB,if_pos (by simp only[decide_eq_true_eq];omega)]
  rfl
 | [x],hm=>
  have hx:=hm x (by simp)
  generalize hdd:x.Data=d at hx
  show C6 x 1=some (match Dl x.Data with | some p=>(p,true)|none=>([],false))
  unfold C6
  rw[if_neg (by decide),AB,if_neg (by decide),hdd]
  by_cases h3:d.length<3
  ·have:isP d=false:=by
    unfold isP
    match d,h3 with
    | [],_=>rfl
    | [_],_=>simp
    | [_,_],_=>simp
   rw[show Dl d=none from if_neg (by rw[this];decide),if_pos (by simp only[cond_false,decide_eq_true_eq];omega)]
   rfl
  rw[if_neg (by simp only[cond_false,decide_eq_true_eq];omega)]
  match d,h3,hx with
  | [],h,_=>exact absurd (by simp) h
  | [_],h,_=>exact absurd (by simp) h
  | [_,_],h,_=>exact absurd (by simp) h
  | x0::x1::x2::t,h3,hx=>
   have g2:geti (x0::x1::x2::t) 2=some x2:=JD (l:=x0::x1::x2::t) (i:=2) (by simp)
   simp only[X12] at hx
   rw[GH,AA,H9,AA,g2,AA]
   have c0:((x0.toNat:Int) != 0)=!decide (x0=0):=J4 x0 0 (by omega)
   have c1:((x1.toNat:Int) != 2)=!decide (x1=2):=J4 x1 2 (by omega)
   have c2:((x2.toNat:Int) != 1)=!decide (x2=1):=J4 x2 1 (by omega)
   rw[c0,c1,c2]
   by_cases k0:x0=0
   case neg=>rw[show Dl _=none from if_neg (fun q=>k0 ((IW _ _ _ _).1 q).1),if_pos (by simp[k0])];rfl
   by_cases k1:x1=2
   case neg=>rw[show Dl _=none from if_neg (fun q=>k1 ((IW _ _ _ _).1 q).2.1),if_neg (by simp[k0]),if_pos (by simp[k1])];rfl
   by_cases k2:x2=1
   case neg=>
    have e:cond false true (!decide (x2=1))=true:=by simp[k2]
    rw[show Dl _=none from if_neg (fun q=>k2 ((IW _ _ _ _).1 q).2.2),if_neg (by simp[k0]),if_neg (by simp[k1]),e];rfl
   have e:cond false true (!decide (x2=1))=false:=by simp[k2]
   have p2:part (x0::x1::x2::t) 3 ((x0::x1::x2::t).length:Int)=some ((x0::x1::x2::t).drop 3):=D9 (n:=3) (by simp only[X12];omega)
   rw[show Dl (x0::x1::x2::t)=_ from if_pos ((IW _ _ _ _).2 ⟨k0,k1,k2⟩),if_neg (by simp[k0]),if_neg (by simp[k1]),e]
   dsimp only
   rw[if_neg (by decide),p2,AA,OE 16 true rfl (by simp only[X17,X12];omega)]
   unfold Ll
   cases Ef true ((x0::x1::x2::t).drop 3) []<;>rfl
theorem Vd (a b:List UInt8):bytes_Equal a b=some (a==b):=by
 unfold bytes_Equal
 rw[Oa,Oa]
theorem Uk (d:List UInt8):bytes_CutPrefix d [0,2,1]=some (if isP d=true then (d.drop 3,true) else (d,false)):=by
 have hp:bytes_HasPrefix d [0,2,1]=some (isP d):=by
  unfold bytes_HasPrefix
  rw[AB]
  by_cases h3:d.length<3
  ·have:isP d=false:=by
    unfold isP
    match d,h3 with
    | [],_=>rfl
    | [_],_=>simp
    | [_,_],_=>simp
   rw[this,if_neg (by simp only[X12,X13,decide_eq_true_eq];omega)]
  rw[if_pos (by simp only[X12,X13,decide_eq_true_eq];omega)]
  have p:part d 0 (([0,2,1]:List UInt8).length:Int)=some (d.take 3):=Rf (n:=3) (by omega)
  rw[p,AA,Vd,AA]
  rfl
 unfold bytes_CutPrefix
 rw[hp,AA]
 by_cases h:isP d=true
 ·have h3:3<=d.length:=by
   unfold isP at h
   rcases Nat.lt_or_ge d.length 3 with q | q
   ·match d,q with
    | [],_=>simp at h
    | [_],_=>simp at h
    | [_,_],_=>simp at h
   exact q
  have p:part d (([0,2,1]:List UInt8).length:Int) (d.length:Int)=some (d.drop 3):=D9 (n:=3) h3
  rw[if_pos h,if_neg (by rw[h];decide),p,AA]
 rw[if_neg h,if_pos (by simpa using h)]
def spF:List JAA->JAH×Nat×Nat->Option (JAH×Nat×Nat)
 | [],s=>some s
 | x::t,(p,c,e)=>if x.Type_=14 then (match Dv x.Data with
   | none=>none
   | some (a,l)=>spF t ({ p with next:=a,new6:=l },c+1,e)) else
  if x.Type_=15 then (match Dl x.Data with
   | none=>none
   | some l=>spF t ({ p with gone6:=l },c,e+1)) else spF t (p,c,e)
theorem C7 {x:JAA}{t:List JAA}{k:Int}(h:x.Type_≠k):Ba (x::t) k=Ba t k:=by rw[OZ,if_neg (by simpa using h)]
theorem Gt {x:JAA}{t:List JAA}{k:Int}(h:x.Type_=k):Ba (x::t) k=x::Ba t k:=by rw[OZ,if_pos (by simpa using h)]
theorem N5 :∀{l:List JAA} {s:JAH×Nat×Nat},spF l s=none->(∃x∈Ba l 14,Dv x.Data=none)\/(∃x∈Ba l 15,Dl x.Data=none)
 | [],s,h=>by cases h
 | x::t,(p,c,e),h=>by
  unfold spF at h
  split at h
  ·rename_i h14
   have h15:x.Type_≠15:=by omega
   rw[Gt h14,C7 h15]
   split at h
   ·rename_i hr
    exact .inl ⟨x,by simp,hr⟩
   rcases N5 h with ⟨y,hy,q⟩|q
   ·exact .inl ⟨y,X19 _ hy,q⟩
   exact .inr q
  rename_i h14
  split at h
  ·rename_i h15
   rw[C7 h14,Gt h15]
   split at h
   ·rename_i hr
    exact .inr ⟨x,by simp,hr⟩
   rcases N5 h with q | ⟨y,hy,q⟩
   ·exact .inl q
   exact .inr ⟨y,X19 _ hy,q⟩
  rename_i h15
  rw[C7 h14,C7 h15]
  exact N5 h
structure SpR (l:List JAA)(p q:JAH)(c c' e e':Nat):Prop where
 c:c'=c+(Ba l 14).length
 e:e'=e+(Ba l 15).length
 a0:Ba l 14=[]->q.next=p.next/\q.new6=p.new6
 a1 :∀x,Ba l 14=[x]->Dv x.Data=some (q.next,q.new6)
 b0:Ba l 15=[]->q.gone6=p.gone6
 b1 :∀x,Ba l 15=[x]->Dl x.Data=some q.gone6
 k:q.attrs=p.attrs/\q.gone4=p.gone4/\q.new4=p.new4
theorem NC :∀{l:List JAA} {p q:JAH} {c c' e e':Nat},spF l (p,c,e)=some (q,c',e')->SpR l p q c c' e e'
 | [],p,q,c,c',e,e',h=>by
  simp only[spF,X24,X26] at h
  obtain⟨rfl,rfl,rfl⟩:=h
  exact⟨rfl,rfl,fun _=>⟨rfl,rfl⟩,fun x hx=>(by cases hx),fun _=>rfl,fun x hx=>(by cases hx),rfl,rfl,rfl⟩
 | x::t,p,q,c,c',e,e',h=>by
  unfold spF at h
  split at h
  ·rename_i h14
   have h15:x.Type_≠15:=by omega
   split at h
   ·cases h
   rename_i a l hr
   have ih:=NC h
   refine⟨?_,?_,fun z=>?_,fun y z=>?_,fun z=>?_,fun y z=>?_,ih.k⟩
   ·rw[Gt h14,X12];have:=ih.c;omega
   ·rw[C7 h15];exact ih.e
   ·rw[Gt h14] at z;cases z
   ·rw[Gt h14] at z
    obtain⟨rfl,z2⟩:=List.cons.inj z
    obtain⟨i1,i2⟩:=ih.a0 z2
    rw[hr,i1,i2]
   ·rw[C7 h15] at z;exact ih.b0 z
   rw[C7 h15] at z;exact ih.b1 y z
  rename_i h14
  split at h
  ·rename_i h15
   split at h
   ·cases h
   rename_i l hr
   have ih:=NC h
   refine⟨?_,?_,fun z=>?_,fun y z=>?_,fun z=>?_,fun y z=>?_,ih.k⟩
   ·rw[C7 h14];exact ih.c
   ·rw[Gt h15,X12];have:=ih.e;omega
   ·rw[C7 h14] at z;exact ih.a0 z
   ·rw[C7 h14] at z;exact ih.a1 y z
   ·rw[Gt h15] at z;cases z
   rw[Gt h15] at z
   obtain⟨rfl,z2⟩:=List.cons.inj z
   have i1:=ih.b0 z2
   rw[hr,i1]
  rename_i h15
  have ih:=NC h
  refine⟨?_,?_,fun z=>?_,fun y z=>?_,fun z=>?_,fun y z=>?_,ih.k⟩
  ·rw[C7 h14];exact ih.c
  ·rw[C7 h15];exact ih.e
  ·rw[C7 h14] at z;exact ih.a0 z
  ·rw[C7 h14] at z;exact ih.a1 y z
  ·rw[C7 h15] at z;exact ih.b0 z
  rw[C7 h15] at z;exact ih.b1 y z
theorem XA {d:List UInt8}(hd:d.length<=1000000){v8:List UInt8}{v9:Bool}(hv:(if isP d=true then (d.drop 3,true) else (d,false))=(v8,v9)){ρ:Type}{B:Option ρ}{G:Addr->List JAC×Bool->Option ρ}{L:Option ρ}
  (hL:L=(AC (τ:=Bool) (fun k11=>
      if (!v9) then
       k11 true
      else
       if (cond false true (decide ((v8.length:Int)<18))) then
        k11 true
       else
        Option.bind (geti v8 0) fun v12=>
        if (cond false true ((v12.toNat:Int) != 16)) then
         k11 true
        else
         Option.bind (geti v8 17) fun v13=>
         k11 (cond false true ((v13.toNat:Int) != 0))
     ) fun v14=>
     if v14 then
      B
     else
      Option.bind (part v8 1 17) fun v15=>
      Option.bind (BF v15) fun (v16,v17)=>
      Option.bind (part v8 18 (v8.length:Int)) fun v18=>
      Option.bind (CJ v18 true) fun v=>G v16 v)):match Dv d with
   | none=>L=B \/∃a l,L=G a (l,false)
   | some (a,l)=>L=G a (l,true):=by
 rw[AB] at hL
 by_cases hp:isP d=true
 case neg=>
  rw[if_neg hp] at hv
  obtain⟨rfl,rfl⟩:=Prod.mk.inj hv
  rw[show Dv d=none from if_neg (fun q=>hp q.1)]
  exact .inl hL
 rw[if_pos hp] at hv
 obtain⟨rfl,rfl⟩:=Prod.mk.inj hv
 rw[if_neg (by decide)] at hL
 by_cases hl:d.length<21
 ·rw[if_pos (by simp only[cond_false,decide_eq_true_eq,X17];omega)] at hL
  rw[show Dv d=none from if_neg (fun q=>by omega)]
  exact .inl hL
 rw[if_neg (by simp only[cond_false,decide_eq_true_eq,X17];omega)] at hL
 have g0:geti (d.drop 3) 0=some (d.getD 3 0):=by
  have:=JD (l:=d.drop 3) (i:=0) (by simp only[X17];omega)
  have e:(d.drop 3)[0]'(by simp only[X17];omega)=d.getD 3 0:=by
   rw[List.getElem_drop,List.getD_eq_getElem?_getD,X15 (by omega),Option.getD_some]
  rw[<- e];exact this
 have g17:geti (d.drop 3) 17=some (d.getD 20 0):=by
  have:=JD (l:=d.drop 3) (i:=17) (by simp only[X17];omega)
  have e:(d.drop 3)[17]'(by simp only[X17];omega)=d.getD 20 0:=by
   rw[List.getElem_drop,List.getD_eq_getElem?_getD,X15 (by omega),Option.getD_some]
  rw[<- e];exact this
 have c3:(((d.getD 3 0).toNat:Int) != 16)=!decide (d.getD 3 0=16):=J4 _ 16 (by omega)
 have c20:(((d.getD 20 0).toNat:Int) != 0)=!decide (d.getD 20 0=0):=J4 _ 0 (by omega)
 rw[g0,AA,g17,AA,c3,c20] at hL
 by_cases k3:d.getD 3 0=16
 case neg=>
  rw[if_pos (by simp only[k3,decide_false,Bool.not_false,cond_false])] at hL
  rw[show Dv d=none from if_neg (fun q=>k3 q.2.2.1)]
  exact .inl hL
 rw[if_neg (by simp only[k3,decide_true,Bool.not_true,cond_false];decide)] at hL
 by_cases k20:d.getD 20 0=0
 case neg=>
  rw[decide_eq_false k20] at hL
  rw[show Dv d=none from if_neg (fun q=>k20 q.2.2.2)]
  exact .inl hL
 have p1:part (d.drop 3) 1 17=some ((d.drop 4).take 16):=by
  have:=Bj (l:=d.drop 3) (a:=1) (b:=17) (by omega) (by simp only[X17];omega)
  rw[List.drop_drop] at this
  exact this
 have p2:part (d.drop 3) 18 ((d.drop 3).length:Int)=some (d.drop 21):=by
  have:=D9 (l:=d.drop 3) (n:=18) (by simp only[X17];omega)
  rw[List.drop_drop] at this
  exact this
 have hl16:((d.drop 4).take 16).length=pw true:=by
  show _=16
  simp only[X18,X17]
  omega
 rw[decide_eq_true k20] at hL
 dsimp only at hL
 rw[if_neg (by decide),p1,AA,(IJ hl16).1,AA] at hL
 dsimp only at hL
 rw[p2,AA,Gv (by simp only[X17];omega),AA] at hL
 unfold Ll at hL
 rw[show Dv d=_ from if_pos ⟨hp,by omega,k3,k20⟩]
 cases hx:Ef true (d.drop 21) [] with
 | none=>rw[hx] at hL;exact .inr ⟨_,_,hL⟩
 | some l=>rw[hx] at hL;exact hL
theorem Up {p:JAH}(hl:p.attrs.length<=1000000)(hd :∀x∈p.attrs,x.Data.length<=1000000) :∃r,DF p=some r/\(match spF p.attrs (p,0,0) with
  | none=>r.1=false
  | some (q,c,e)=>r=(decide (c<2)&&decide (e<2),q)):=by
 unfold DF
 rw[AB]
 generalize hR:spF p.attrs (p,0,0)=R
 refine X0 (fun (t:List JAA) _ (s:JAH×List (Int×Int))=>(∃c e:Nat,(BV s.2 14).getD 0=(c:Int)/\(BV s.2 15).getD 0=(e:Int)/\c+e+t.length<=1000000/\spF t (s.1,c,e)=R)/\∀x∈t,x.Data.length<=1000000) _ ?_ ?_ p.attrs 0 (p,[]) ⟨⟨0,0,rfl,rfl,by omega,hR⟩,hd⟩
 ·rintro i ⟨v2,v3⟩ ⟨⟨c,e,h1,h2,h3,h4⟩,_⟩
  have h4:some (v2,c,e)=R:=h4
  subst h4
  refine⟨(decide (c<2)&&decide (e<2),v2),?_,rfl⟩
  dsimp only at h1 h2 ⊢
  rw[AB,AA,h1,AA,h2]
  by_cases hc:c<2
  ·rw[if_pos (by simp only[decide_eq_true_eq];omega),decide_eq_true hc]
   have:decide ((e:Int)<2)=decide (e<2):=by rw[decide_eq_decide];omega
   rw[this]
   rfl
  rw[if_neg (by simp only[decide_eq_true_eq];omega),decide_eq_false hc]
  rfl
 rintro next x t i ⟨v2,v3⟩ ⟨⟨c,e,h1,h2,h3,h4⟩,hdx⟩ hn
 have hdd:=hdx x (by simp)
 have hdt :∀y∈t,y.Data.length<=1000000:=fun y hy=>hdx y (X19 _ hy)
 simp only[X12] at h1 h2 h3 h4
 dsimp only
 obtain⟨v8,v9,hv⟩ :∃v8 v9,(if isP x.Data=true then (x.Data.drop 3,true) else (x.Data,false))=(v8,v9):=⟨_,_,rfl⟩
 rw[AA,Uk,hv,AA]
 dsimp only
 rw[AB]
 by_cases h14:x.Type_=14
 ·rw[if_pos (by rw[h14];rfl)]
  have hz:=XA hdd hv (B:=some (false,v2)) (G:=fun a q=>if (!q.2) then some (false,{ v2 with next:=a,new6:=q.1 }) else next ({ v2 with next:=a,new6:=q.1 },Cf v3 x.Type_ (AD ((BV v3 x.Type_).getD 0+1)))) rfl
  unfold spF at h4
  rw[if_pos h14] at h4
  cases hr:Dv x.Data with
  | none=>
   rw[hr] at hz h4
   have h4:none=R:=h4
   subst h4
   rcases hz with hz | ⟨a,l,hz⟩
   ·exact⟨_,hz,rfl⟩
   exact⟨_,hz,rfl⟩
  | some q=>
   obtain⟨a,l⟩:=q
   rw[hr] at hz h4
   dsimp only at hz h4
   rw[if_neg (by decide)] at hz
   obtain⟨r,g1,g2⟩:=hn ({ v2 with next:=a,new6:=l },Cf v3 x.Type_ (AD ((BV v3 x.Type_).getD 0+1))) ⟨⟨c+1,e,by
    rw[mget_mset,if_pos h14.symm,h14,h1,Option.getD_some,AP (by omega)];omega,by
    rw[mget_mset,if_neg (by omega)];exact h2,by omega,h4⟩,hdt⟩
   exact⟨r,Eq.trans hz g1,g2⟩
 rw[if_neg (by simpa using h14),AB]
 unfold spF at h4
 rw[if_neg h14] at h4
 by_cases h15:x.Type_=15
 ·rw[if_pos (by rw[h15];rfl),AB]
  rw[if_pos h15] at h4
  by_cases hp:isP x.Data=true
  ·rw[if_pos hp] at hv
   obtain⟨rfl,rfl⟩:=Prod.mk.inj hv
   rw[if_pos rfl,Gv (by simp only[X17];omega),AA]
   rw[show Dl x.Data=_ from if_pos hp] at h4
   unfold Ll
   cases hx:Ef true (x.Data.drop 3) [] with
   | none=>
    rw[hx] at h4
    have h4:none=R:=h4
    subst h4
    exact⟨_,rfl,rfl⟩
   | some l=>
    rw[hx] at h4
    dsimp only at h4 ⊢
    rw[if_neg (by decide)]
    exact hn _ ⟨⟨c,e+1,by
     rw[mget_mset,if_neg (by omega)];exact h1,by
     rw[mget_mset,if_pos h15.symm,h15,h2,Option.getD_some,AP (by omega)];omega,by omega,h4⟩,hdt⟩
  rw[if_neg hp] at hv
  obtain⟨rfl,rfl⟩:=Prod.mk.inj hv
  rw[show Dl x.Data=none from if_neg hp] at h4
  have h4:none=R:=h4
  subst h4
  exact⟨_,rfl,rfl⟩
 rw[if_neg (by simpa using h15)]
 rw[if_neg h15] at h4
 dsimp only
 rw[if_neg (by decide)]
 refine hn _ ⟨⟨c,e,?_,?_,by omega,h4⟩,hdt⟩
 ·dsimp only
  rw[mget_mset,if_neg (by omega)];exact h1
 dsimp only
 rw[mget_mset,if_neg (by omega)];exact h2
theorem WE {l:List JAA}(h :∃x∈Ba l 14,Dv x.Data=none):Dw l=none:=by
 obtain⟨x,hx,hr⟩:=h
 unfold Dw
 match Ba l 14,hx with
 | [y],hx=>
  rw[X14] at hx
  subst hx;exact hr
 | _::_::_,_=>rfl
theorem SB {l:List JAA}(h :∃x∈Ba l 15,Dl x.Data=none):CH l=none:=by
 obtain⟨x,hx,hr⟩:=h
 unfold CH
 match Ba l 15,hx with
 | [y],hx=>
  rw[X14] at hx
  subst hx;exact hr
 | _::_::_,_=>rfl
theorem PI {l:List JAA}(h:2<=(Ba l 14).length):Dw l=none:=by
 unfold Dw
 match Ba l 14,h with
 | [],h=>simp at h
 | [_],h=>simp at h
 | _::_::_,_=>rfl
theorem L1 {l:List JAA}(h:2<=(Ba l 15).length):CH l=none:=by
 unfold CH
 match Ba l 15,h with
 | [],h=>simp at h
 | [_],h=>simp at h
 | _::_::_,_=>rfl
theorem SpR.reach {l:List JAA}{p q:JAH}{c c' e e':Nat}(h:SpR l p q c c' e e')(hp:p.next=zAd/\p.new6=[])(hn:(Ba l 14).length<2):Dw l=some (q.next,q.new6):=by
 have h0:=h.a0
 have h1:=h.a1
 unfold Dw
 match Ba l 14,h0,h1,hn with
 | [],h0,_,_=>
  obtain⟨e1,e2⟩:=h0 rfl
  rw[e1,e2,hp.1,hp.2]
 | [x],_,h1,_=>exact h1 x rfl
 | _::_::t,_,_,hn=>exact absurd hn (by simp only[X12];omega)
theorem SpR.unreach {l:List JAA}{p q:JAH}{c c' e e':Nat}(h:SpR l p q c c' e e')(hp:p.gone6=[])(hn:(Ba l 15).length<2):CH l=some q.gone6:=by
 have h0:=h.b0
 have h1:=h.b1
 unfold CH
 match Ba l 15,h0,h1,hn with
 | [],h0,_,_=>
  have e1:=h0 rfl
  rw[e1,hp]
 | [x],_,h1,_=>exact h1 x rfl
 | _::_::t,_,_,hn=>exact absurd hn (by simp only[X12];omega)
theorem ZI {ρ:Type}(x y A B C D:Bool)(K:Bool->Option ρ):AC (τ:=Bool) (fun k18=>
     if (!x)=true then
      k18 true
     else
      if (cond false true (!y))=true then
       k18 true
      else
       if A=true then
        if (cond false true (cond true B false))=true then
         k18 true
        else
         if (cond false true C)=true then
          k18 true
         else
          k18 (cond false true D)
       else
        if (cond false true C)=true then
         k18 true
        else
         k18 (cond false true D)) K=K (!x || (!y || ((A&&B) || (C || D)))):=by
 rw[AB]
 cases x<;>cases y<;>cases A<;>cases B<;>cases C<;>cases D<;>rfl
theorem Ze (old gone four six:List JAC):(decide ((four.length:Int) > 0)&&decide ((six.length:Int) > 0) || (decide ((old.length:Int)+gone.length > 256) || decide ((four.length:Int)+six.length > 256)))=!okN old gone four six:=by
 have e1:decide ((four.length:Int) > 0)=decide (0<four.length):=by rw[decide_eq_decide];omega
 have e2:decide ((six.length:Int) > 0)=decide (0<six.length):=by rw[decide_eq_decide];omega
 have e3:decide ((old.length:Int)+gone.length > 256)=!decide (old.length+gone.length<=256):=by rw[<- decide_not,decide_eq_decide];omega
 have e4:decide ((four.length:Int)+six.length > 256)=!decide (four.length+six.length<=256):=by rw[<- decide_not,decide_eq_decide];omega
 rw[e1,e2,e3,e4]
 unfold okN
 cases decide (0 < four.length)<;>cases decide (0 < six.length)<;>cases decide (old.length+gone.length<=256)<;>cases decide (four.length+six.length<=256)<;>rfl
theorem N8 {six:Bool}{b:List UInt8}{l:List JAC}(h:Ef six b []=some l):l.length<=b.length:=by
 have:=UO six _ _ _ _ h
 simpa using this
theorem Nv {l:List JAA}{N:Nat}(hd :∀x∈l,x.Data.length<=N){p:List JAC}(h:CH l=some p):p.length<=N:=by
 unfold CH at h
 have hm :∀x∈Ba l 15,x.Data.length<=N:=fun x hx=>hd x (List.mem_filter.1 hx).1
 match Ba l 15,hm,h with
 | [],_,h=>obtain rfl:=X25 h;simp
 | [x],hm,h=>
  have h:Dl x.Data=some p:=h
  unfold Dl at h
  split at h
  ·have:=N8 h
   have:=hm x (by simp)
   simp only[X17] at *
   omega
  cases h
theorem Rk {l:List JAA}{N:Nat}(hd :∀x∈l,x.Data.length<=N){a:Addr}{p:List JAC}(h:Dw l=some (a,p)):p.length<=N:=by
 unfold Dw at h
 have hm :∀x∈Ba l 14,x.Data.length<=N:=fun x hx=>hd x (List.mem_filter.1 hx).1
 match Ba l 14,hm,h with
 | [],_,h=>
  simp only[X24,X26] at h
  obtain⟨_,rfl⟩:=h;simp
 | [x],hm,h=>
  have h:Dv x.Data=some (a,p):=h
  unfold Dv at h
  split at h
  ·obtain⟨q,hq,he⟩:=Option.map_eq_some_iff.1 h
   simp only[X26] at he
   obtain⟨_,rfl⟩:=he
   have:=N8 hq
   have:=hm x (by simp)
   simp only[X17] at *
   omega
  cases h
def p00:JAH:=⟨[],(⟨false,(0:UInt64),(0:UInt64)⟩:Addr),[],[],[],[]⟩
theorem TF {b:List UInt8}(hb:b.length<=400000) :∃r,B5 p00 b=some r/\(match IZ b with
  | none=>r.1=false
  | some P=>r=(true,⟨P.l,P.next,P.old,P.gone,P.four,P.six⟩)):=by
 unfold B5 IZ
 rw[Wq (by omega),AA]
 unfold H4
 cases h1:G7 b with
 | none=>exact⟨_,rfl,rfl⟩
 | some q=>
  obtain⟨w,b1⟩:=q
  have l1:=Fj h1
  dsimp only
  rw[if_neg (by decide),Wq (by omega),AA]
  unfold H4
  cases h2:G7 b1 with
  | none=>exact⟨_,rfl,rfl⟩
  | some q=>
   obtain⟨a,rest⟩:=q
   have l2:=Fj h2
   dsimp only
   rw[if_neg (by decide),W6 (by omega),AA]
   unfold Oc
   cases h3:LL a [] with
   | none=>exact⟨_,rfl,rfl⟩
   | some l=>
    obtain⟨s1,s2⟩:=Q7 (by omega) h3
    dsimp only
    rw[JP,AB,if_neg (by decide)]
    obtain⟨r,hr,hq⟩:=Up (p:={ p00 with attrs:=l }) (by show l.length<=_;omega) (fun x hx=>by have:=s2 x hx;omega)
    rw[hr,AA]
    have hq':(match spF l ({ p00 with attrs:=l },0,0) with
     | none=>r.1=false
     | some (q,c,e)=>r=(decide (c<2)&&decide (e<2),q)):=hq
    cases hs:spF l ({ p00 with attrs:=l },0,0) with
    | none=>
     rw[hs] at hq'
     rw[DU ((N5 hs).imp WE fun z=>.inl (SB z))]
     obtain⟨r1,r2⟩:=r
     have hq':r1=false:=hq'
     subst hq'
     exact⟨_,rfl,rfl⟩
    | some z=>
     obtain⟨q,c,e⟩:=z
     rw[hs] at hq'
     have hq':r=(decide (c<2)&&decide (e<2),q):=hq'
     subst hq'
     have sp:=NC hs
     have c0:=sp.c
     have e0:=sp.e
     rw[Nat.zero_add] at c0 e0
     by_cases hc:(decide (c<2)&&decide (e<2))=true
     case neg=>
      have:Dw l=none\/CH l=none:=by
       rcases Nat.lt_or_ge c 2 with q1 | q1
       ·rcases Nat.lt_or_ge e 2 with q2 | q2
        ·exact absurd (by rw[decide_eq_true q1,decide_eq_true q2];rfl) hc
        exact .inr (L1 (by omega))
       exact .inl (PI (by omega))
      rw[DU (this.imp id .inl),Bool.not_eq_true _ |>.mp hc]
      exact⟨_,rfl,rfl⟩
     rw[hc]
     rw[X27,decide_eq_true_eq,decide_eq_true_eq] at hc
     have hR:=sp.reach ⟨rfl,rfl⟩ (by omega)
     have hU:=sp.unreach rfl (by omega)
     obtain⟨ka,k4,kn⟩:=sp.k
     have ka:q.attrs=l:=ka
     rw[hR,hU]
     have n6:=Rk (N:=400000) (fun x hx=>s2 x hx) hR
     have g6:=Nv (N:=400000) (fun x hx=>s2 x hx) hU
     dsimp only
     rw[if_neg (by decide),Gv (by omega),AA,Gv (by omega)]
     unfold Ll
     cases hO:Ef false w [] with
     | none=>rw[DU (.inr (.inr (.inl rfl)))];exact⟨_,rfl,rfl⟩
     | some old=>
      have lo:=N8 hO
      cases hF:Ef false rest [] with
      | none=>rw[DU (.inr (.inr (.inr rfl)))];exact⟨_,rfl,rfl⟩
      | some four=>
       have lf:=N8 hF
       dsimp only
       rw[AA]
       dsimp only
       rw[ZI,AP (x:=(old.length:Int)+(q.gone6.length:Int)) (by omega),AP (x:=(four.length:Int)+(q.new6.length:Int)) (by omega),Ze,ka,VX ⟨by omega,fun x hx=>by have:=s2 x hx;omega⟩,AA]
       rw[Jl]
       cases hk:okN old q.gone6 four q.new6 with
       | false=>
        rw[if_neg (show ¬ (false=true/\(rdS l).2≠12) by simp)]
        exact⟨_,rfl,rfl⟩
       | true=>
        rw[if_neg (by decide)]
        by_cases h12:(rdS l).2=12
        ·rw[if_neg (fun z=>z.2 h12)]
         refine⟨_,rfl,?_⟩
         show ((rdS l).2 != 12)=false
         rw[h12];rfl
        rw[if_pos ⟨rfl,h12⟩]
        refine⟨_,rfl,?_⟩
        have:((rdS l).2 != 12)=true:=by simpa using h12
        dsimp only
        rw[this,<- ka]
theorem JE {α σ ρ:Type}{K:σ->Option ρ}{b:(σ->Option ρ)->α->Nat->σ->Option ρ}{x:α}{t:List α}{i:Nat}{s:σ}:Ak K b (x::t) i s=b (fun s=>Ak K b t (i+1) s) x i s:=rfl
theorem Wg {α σ ρ:Type}{K:σ->Option ρ}{b:(σ->Option ρ)->α->Nat->σ->Option ρ}{i:Nat}{s:σ}:Ak K b [] i s=K s:=rfl
theorem TR {x y:List JAC}(hx:x.length<=100000)(hy:y.length<=100000):A0 [x,y]=some (x++y):=by
 unfold A0
 rw[AB,JE]
 have e1:AD (0+(x.length:Int))=(x.length:Int):=by rw[AP (by omega)];omega
 have e2:AD ((x.length:Int)+(y.length:Int))=((x.length+y.length:Nat):Int):=by rw[AP (by omega)];omega
 rw[e1,if_neg (by simp only[decide_eq_true_eq];omega)]
 dsimp only
 rw[JE,e2,if_neg (by simp only[decide_eq_true_eq];omega)]
 dsimp only
 rw[Wg]
 have e3:AD (((x.length+y.length:Nat):Int)-AD (0-0))=((x.length+y.length:Nat):Int):=by
  have:AD (0-0)=0:=AP (by omega)
  rw[this,AP (by omega)];omega
 have hk :∀(K:List JAC->Option (List JAC)),AC (τ:=(List JAC)) (fun k8=>
    if (decide ((AD (((x.length+y.length:Nat):Int)-(AD (0-0)))) > 0)) then
     Option.bind (chk (0<(AD (((x.length+y.length:Nat):Int)-(AD (0-0))))/\(AD (((x.length+y.length:Nat):Int)-(AD (0-0))))<=1048576)) fun _=>
     Option.bind (part (List.replicate (Int.toNat (AD (((x.length+y.length:Nat):Int)-(AD (0-0))))) (⟨(⟨false,(0:UInt64),(0:UInt64)⟩:Addr),0⟩:JAC)) 0 0) fun v9=>
     k8 v9
    else
     k8 []) K=K []:=by
  intro K
  rw[AB,e3]
  by_cases hz:x.length+y.length=0
  ·rw[if_neg (by simp only[decide_eq_true_eq];omega)]
  have p:part (List.replicate (Int.toNat ((x.length+y.length:Nat):Int)) (⟨(⟨false,(0:UInt64),(0:UInt64)⟩:Addr),0⟩:JAC)) 0 0=some []:=by
   have:=Bj (l:=List.replicate (Int.toNat ((x.length+y.length:Nat):Int)) (⟨(⟨false,(0:UInt64),(0:UInt64)⟩:Addr),0⟩:JAC)) (a:=0) (b:=0) (by omega) (by omega)
   rw[Nat.sub_self,List.take_zero] at this
   exact this
  rw[if_pos (by simp only[decide_eq_true_eq];omega),show chk _=some () from if_pos (by omega),AA,p,AA]
 rw[AB,if_neg (by simp only[decide_eq_true_eq];omega),hk]
 dsimp only
 rw[AB,JE,AQ (by decide) (by simp only[X13];omega),AA]
 dsimp only
 rw[JE,AQ (by decide) (by simp only[List.nil_append];omega),AA]
 dsimp only
 rw[Wg,List.nil_append]
theorem QP (q:JAH)(t:Int):CN q t=some (CW q.attrs t,q):=by
 have main :∀(l:List JAA) (i:Nat),∃n:Int,Ak (σ:=Int) (fun v2=>some (-1,v2)) (fun next3 (x4:JAA) i5 v2=>Option.bind (DL x4 v2) fun (v6,v7)=>if v6 then some ((i5:Int),v7) else next3 v7) l i t=some (n,t)/\decide (n ≥ 0)=CW l t:=by
  intro l
  induction l with
  | nil=>intro i;exact⟨-1,rfl,rfl⟩
  | cons x l ih=>
   intro i
   rw[JE]
   unfold DL
   rw[AA]
   dsimp only
   have hc:CW (x::l) t=((x.Type_==t) || CW l t):=by
    unfold CW
    rw[List.any_cons]
    congr 1
    exact X28.2 ⟨fun h=>by rw[beq_iff_eq] at h ⊢;exact h.symm,fun h=>by rw[beq_iff_eq] at h ⊢;exact h.symm⟩
   rw[hc]
   by_cases hx:(x.Type_==t)=true
   ·rw[if_pos hx,hx]
    exact⟨_,rfl,by simp⟩
   rw[if_neg hx,Bool.not_eq_true _ |>.mp hx]
   exact ih (i+1)
 obtain⟨n,h1,h2⟩:=main q.attrs 0
 unfold CN Ah Ai
 rw[AB]
 show Option.bind (Option.bind (Ak (σ:=Int) (fun v2=>some (-1,v2)) _ q.attrs 0 t) _) _=_
 rw[h1,AA,AA]
 dsimp only
 rw[h2]
theorem XN (x:JAA):B8 x=some (flg x):=by
 unfold B8 flg
 rw[AB]
 show (if (x.Type_==14)=true then some (cond true (bt x.Flags 192 != 128) false) else if (cond false true (x.Type_==15))=true then some (cond true (bt x.Flags 192 != 128) false) else some false)=_
 cases (x.Type_==14)<;>cases (x.Type_==15)<;>cases (bt x.Flags 192 != 128)<;>rfl
theorem W5 (l:List JAA):Ag l=some (l.any flg):=cm (f:=B8) (q:=flg) fun x _=>XN x
theorem Yv (P:Pt):DW ⟨P.l,P.next,P.old,P.gone,P.four,P.six⟩ (rdS P.l).1 (rdS P.l).2=some (WV P,⟨P.l,P.next,P.old,P.gone,P.four,P.six⟩):=by
 unfold DW WV
 rw[AB]
 by_cases he:(rdS P.l).2=0
 ·rw[if_neg (by rw[he];decide),W5,AA,QP,AA,decide_eq_false (fun h=>h he)]
  dsimp only
  rw[QP,AA]
  dsimp only
  have e1:decide ((P.four.length:Int) > 0)=decide (0<P.four.length):=by rw[decide_eq_decide];omega
  rw[e1]
  show (if (cond false true (P.l.any flg))=true then _ else _)=_
  have ez:Addr.eqd (rdS P.l).1.Next (⟨false,(0:UInt64),(0:UInt64)⟩:Addr)=Addr.eqd (rdS P.l).1.Next zAd:=rfl
  rw[ez]
  cases P.l.any flg<;>cases CW P.l 1<;>cases CW P.l 2<;>cases decide (0 < P.four.length)<;>cases Addr.eqd (rdS P.l).1.Next zAd<;>rfl
 rw[if_pos (by simpa using he),decide_eq_true (p:=(rdS P.l).2≠0) he]
 rfl
structure PtOK (b:List UInt8)(P:Pt):Prop where
 ok:okN P.old P.gone P.four P.six=true
 ne:(rdS P.l).2≠12
 l:P.l.length<=400000
 d :∀x∈P.l,x.Data.length<=400000
 h :∃w b1 a rest,G7 b=some (w,b1)/\G7 b1=some (a,rest)/\LL a []=some P.l/\Dw P.l=some (P.next,P.six)/\CH P.l=some P.gone/\Ef false w []=some P.old/\Ef false rest []=some P.four
theorem OH {b:List UInt8}(hb:b.length<=400000){P:Pt}(h:IZ b=some P):PtOK b P:=by
 unfold IZ at h
 split at h
 ·cases h
 rename_i w b1 h1
 have l1:=Fj h1
 split at h
 ·cases h
 rename_i a rest h2
 have l2:=Fj h2
 cases h3:LL a [] with
 | none=>rw[h3] at h;cases h
 | some l=>
  rw[h3,JP] at h
  obtain⟨s1,s2⟩:=Q7 (by omega) h3
  cases hR:Dw l with
  | none=>rw[DU (.inl hR)] at h;cases h
  | some q=>
   obtain⟨n,six⟩:=q
   cases hU:CH l with
   | none=>rw[DU (.inr (.inl hU))] at h;cases h
   | some gone=>
    cases hO:Ef false w [] with
    | none=>rw[DU (.inr (.inr (.inl hO)))] at h;cases h
    | some old=>
     cases hF:Ef false rest [] with
     | none=>rw[DU (.inr (.inr (.inr hF)))] at h;cases h
     | some four=>
      rw[hR,hU,hO,hF,Jl] at h
      split at h
      ·rename_i hc
       obtain rfl:=X25 h
       exact⟨hc.1,hc.2,s1,s2,w,b1,a,rest,h1,h2,h3,hR,hU,hO,hF⟩
      cases h
theorem YY {old gone four six:List JAC}(h:okN old gone four six=true):old.length+gone.length<=256/\four.length+six.length<=256/\¬ (0<four.length/\0<six.length):=by
 unfold okN at h
 simp only[X27,Bool.not_eq_true',decide_eq_true_eq,Bool.and_eq_false_iff,decide_eq_false_iff_not] at h
 omega
theorem XM {α:Type}(l:List α):((l.length:Int)==0)=true↔l=[]:=by
 rw[beq_iff_eq,Int.natCast_eq_zero,List.length_eq_zero_iff]
theorem V2 {b:List UInt8}(hb:b.length<=400000):FM b=some (bG b):=by
 unfold FM bG
 obtain⟨r,hr,hq⟩:=TF hb
 show Option.bind (B5 p00 b) _=_
 rw[hr,AA]
 cases hP:IZ b with
 | none=>
  rw[hP] at hq
  obtain⟨r1,r2⟩:=r
  have hq:r1=false:=hq
  subst hq
  rfl
 | some P=>
  rw[hP] at hq
  have hq:r=(true,⟨P.l,P.next,P.old,P.gone,P.four,P.six⟩):=hq
  subst hq
  obtain⟨p1,p2,p3,p4,_⟩:=OH hb hP
  obtain⟨n1,n2,_⟩:=YY p1
  dsimp only
  rw[if_neg (by decide),TR (by omega) (by omega),AA,show FR=some eA from rfl,AA,TR (by omega) (by omega),AA]
  by_cases h0:P.four++P.six=[]
  ·rw[if_pos ((XM _).2 h0),if_pos h0]
  rw[if_neg (fun h=>h0 ((XM _).1 h)),if_neg h0,VX ⟨by omega,fun x hx=>by have:=p4 x hx;omega⟩,AA]
  rw[Yv,AA]
  dsimp only
  by_cases hf:WV P=true
  ·rw[if_pos hf,if_pos hf,AQ (by decide) (by simp only[X11];omega),AA]
  rw[if_neg hf,if_neg hf,AB]
  by_cases h6:0<P.six.length
  ·rw[if_pos (by simp only[decide_eq_true_eq];omega),if_pos h6]
  rw[if_neg (by simp only[decide_eq_true_eq];omega),if_neg h6]
theorem Y1 {ρ:Type}(e:Int)(x1 x2 x3 x4 A B C D:Bool)(K:Bool->Option ρ):AC (τ:=Bool) (fun k61=>
   if (!x1)=true then
    k61 true
   else
    if (cond false true (e != 0))=true then
     k61 true
    else
     if (cond false true (!x2))=true then
      k61 true
     else
      if (cond false true (!x3))=true then
       k61 true
      else
       if (cond false true (!x4))=true then
        k61 true
       else
        if A=true then
         if (cond false true (cond true B false))=true then
          k61 true
         else
          if (cond false true C)=true then
           k61 true
          else
           k61 (cond false true D)
        else
         if (cond false true C)=true then
          k61 true
         else
          k61 (cond false true D)) K=K (!x1 || ((e != 0) || (!x2 || (!x3 || (!x4 || ((A&&B) || (C || D))))))):=by
 rw[AB]
 cases (e != 0)<;>cases x1<;>cases x2<;>cases x3<;>cases x4<;>cases A<;>cases B<;>cases C<;>cases D<;>rfl
def wr (x:JAA)(n:Int):Bool:=decide (n > 0)&&(bt x.Flags 192 != 128)
theorem WQ (x:JAA)(n:Int):EM x n=some (wr x n):=by
 unfold EM wr
 rw[AB]
 show (if decide (n > 0)=true then some (cond true (bt x.Flags 192 != 128) false) else some false)=_
 cases decide (n > 0)<;>rfl
theorem Y3 {ρ:Type}(e:Int)(x y:JAA)(n m o c:Int)(A B:Bool)(K:Bool->Option ρ):AC (τ:=Bool) (fun k67=>
      if (e != 0)=true then
       k67 true
      else
       Option.bind (EM x n) fun v68=>
       if (cond false true v68)=true then
        k67 true
       else
        Option.bind (EM y m) fun v69=>
        if (cond false true v69)=true then
         k67 true
        else
         if (cond false true (o==(-1)))=true then
          k67 true
         else
          if (cond false true (c==0))=true then
           k67 true
          else
           if A=true then
            k67 (cond false true (cond true B false))
           else
            k67 false) K=K ((e != 0) || (wr x n || (wr y m || ((o==-1) || ((c==0) || (A&&B)))))):=by
 rw[AB,WQ,AA,WQ,AA]
 cases (e != 0)<;>cases wr x n<;>cases wr y m<;>cases (o==-1)<;>cases (c==0)<;>cases A<;>cases B<;>rfl
theorem YE :∀(l:List JAA),l.any flg=((Ba l 14).any (fun x=>bt x.Flags 192 != 128) || (Ba l 15).any fun x=>bt x.Flags 192 != 128)
 | []=>rfl
 | x::t=>by
  rw[List.any_cons,YE t]
  unfold flg
  by_cases h14:x.Type_=14
  ·rw[Gt h14,C7 (by omega:x.Type_≠15),List.any_cons,h14]
   show ((true || _)&&_ || _)=_
   rw[Bool.true_or,Bool.true_and,Bool.or_assoc]
  by_cases h15:x.Type_=15
  ·rw[C7 h14,Gt h15,List.any_cons,h15]
   show ((false || true)&&_ || _)=_
   rw[Bool.false_or,Bool.true_and]
   generalize (Ba t 14).any _=a
   generalize (Ba t 15).any _=b
   generalize (bt x.Flags 192 != 128)=c
   cases a<;>cases b<;>cases c<;>rfl
  rw[C7 h14,C7 h15]
  have e1:(x.Type_==14)=false:=by simpa using h14
  have e2:(x.Type_==15)=false:=by simpa using h15
  rw[e1,e2];rfl
theorem Z8 {l:List JAA}{k:Int}(h:(Ba l k).length<2):wr ((Ba l k).headD zU) ((Ba l k).length:Int)=(Ba l k).any fun x=>bt x.Flags 192 != 128:=by
 unfold wr
 match Ba l k,h with
 | [],_=>rfl
 | [x],_=>
  show (decide ((1:Int) > 0)&&_)=(_ || false)
  rw[Bool.or_false];rfl
 | _::_::t,h=>exact absurd h (by simp only[X12];omega)
theorem au (l:List JAA)(k:Int):(((Ba l k).length:Int)==0)=!CW l k:=by
 have:CW l k=false↔Ba l k=[]:=by
  unfold CW Ba
  rw[List.any_eq_false,List.filter_eq_nil_iff]
  exact⟨fun h x hx q=>h x hx (by rw[beq_iff_eq] at q ⊢;exact q.symm),fun h x hx q=>h x hx (by rw[beq_iff_eq] at q ⊢;exact q.symm)⟩
 rw[X28,XM,<- this]
 cases CW l k<;>simp
theorem Xi {l:List JAA}(h:Dw l≠none):(Ba l 14).length<2:=by
 rcases Nat.lt_or_ge (Ba l 14).length 2 with q | q
 ·exact q
 exact absurd (PI q) h
theorem UX {l:List JAA}(h:CH l≠none):(Ba l 15).length<2:=by
 rcases Nat.lt_or_ge (Ba l 15).length 2 with q | q
 ·exact q
 exact absurd (L1 q) h
theorem db {P:Pt}(h1:Dw P.l≠none)(h2:CH P.l≠none) :
  (((rdS P.l).2 != 0) || (wr ((Ba P.l 14).headD zU) ((Ba P.l 14).length:Int) || (wr ((Ba P.l 15).headD zU) ((Ba P.l 15).length:Int) || (((rdS P.l).1.Origin==-1) || ((((Ba P.l 2).length:Int)==0) || (decide ((P.four.length:Int) > 0)&&Addr.eqd (rdS P.l).1.Next zAd))))))=WV P:=by
 rw[Z8 (Xi h1),Z8 (UX h2),au]
 unfold WV
 rw[YE]
 have e1:decide ((P.four.length:Int) > 0)=decide (0<P.four.length):=by rw[decide_eq_decide];omega
 rw[e1]
 by_cases he:(rdS P.l).2=0
 ·have ho:((rdS P.l).1.Origin==-1)=!CW P.l 1:=by
   rw[X28,beq_iff_eq,XP he]
   cases CW P.l 1<;>simp
  have e0:decide ((rdS P.l).2≠0)=false:=decide_eq_false (fun h=>h he)
  have e0':((rdS P.l).2 != 0)=false:=by rw[he];rfl
  rw[e0,e0',ho]
  generalize (Ba P.l 14).any _=a
  generalize (Ba P.l 15).any _=b
  generalize (decide (0<P.four.length)&&Addr.eqd (rdS P.l).1.Next zAd)=c
  cases a<;>cases b<;>rfl
 have:((rdS P.l).2 != 0)=true:=by simpa using he
 rw[this,decide_eq_true (p:=(rdS P.l).2≠0) he]
 rfl
theorem RQ {b:List UInt8}(hb:b.length<=400000):E7 b=some (bG b):=by
 unfold E7 bG IZ
 rw[Rj (by omega),AA]
 unfold H4
 cases h1:G7 b with
 | none=>
  dsimp only
  rw[show ER []=some ([],[],false) from rfl,AA]
  dsimp only
  rw[AB,if_pos (by decide)]
  dsimp only
  rw[if_pos rfl]
  rfl
 | some q=>
  obtain⟨w,b1⟩:=q
  have l1:=Fj h1
  dsimp only
  rw[Rj (by omega),AA]
  unfold H4
  cases h2:G7 b1 with
  | none=>
   dsimp only
   rw[AB,if_neg (by decide)]
   dsimp only
   rw[if_pos (by decide)]
   rfl
  | some q=>
   obtain⟨a,rest⟩:=q
   have l2:=Fj h2
   dsimp only
   rw[AB,if_neg (by decide)]
   dsimp only
   rw[if_neg (by decide),AB]
   dsimp only
   rw[OE 4 false rfl (by omega)]
   dsimp only
   rw[Sz (by omega),AA]
   obtain⟨l,e,hs,hc,s1,s2⟩ :∃l e,Oc a=(l,e)/\((e=0/\LL a []=some l)\/(e≠0/\LL a []=none))/\l.length<=400000/\∀x∈l,x.Data.length<=400000:=by
    unfold Oc
    cases h3:LL a [] with
    | none=>exact⟨_,_,rfl,.inr ⟨by decide,rfl⟩,by simp,fun x hx=>by simp at hx⟩
    | some l=>
     obtain⟨s1,s2⟩:=Q7 (by omega) h3
     exact⟨_,_,rfl,.inl ⟨rfl,rfl⟩,s1,s2⟩
   rw[hs]
   dsimp only
   rw[RE (by omega),AA]
   dsimp only
   rw[RE (by omega),AA]
   dsimp only
   obtain⟨nx,six,g,hg,hg2,g6⟩ :∃nx six g,DC ((Ba l 14).headD zU) ((Ba l 14).length:Int)=some (nx,six,g)/\((g=true/\Dw l=some (nx,six))\/(g=false/\Dw l=none))/\six.length<=400000:=by
    have:=Yr (l:=l) fun x hx=>by have:=s2 x hx;omega
    cases hR:Dw l with
    | none=>
     rw[hR] at this
     obtain⟨a,ha⟩:=this
     exact⟨_,_,_,ha,.inr ⟨rfl,rfl⟩,by simp⟩
    | some q=>
     obtain⟨nx,six⟩:=q
     rw[hR] at this
     exact⟨_,_,_,this,.inl ⟨rfl,rfl⟩,Rk s2 hR⟩
   obtain⟨gone,r,hr,hr2,r6⟩ :∃gone r,C6 ((Ba l 15).headD zU) ((Ba l 15).length:Int)=some (gone,r)/\((r=true/\CH l=some gone)\/(r=false/\CH l=none))/\gone.length<=400000:=by
    have:=WR (l:=l) fun x hx=>by have:=s2 x hx;omega
    cases hR:CH l with
    | none=>
     rw[hR] at this
     exact⟨_,_,this,.inr ⟨rfl,rfl⟩,by simp⟩
    | some q=>
     rw[hR] at this
     exact⟨_,_,this,.inl ⟨rfl,rfl⟩,Nv s2 hR⟩
   rw[hg,AA]
   dsimp only
   rw[hr,AA]
   dsimp only
   rw[OE 4 false rfl (by omega)]
   obtain⟨old,fine,ho,ho2,lo⟩ :∃old fine,Ll false w=(old,fine)/\((fine=true/\Ef false w []=some old)\/(fine=false/\Ef false w []=none))/\old.length<=400000:=by
    have hl:=Vz false w
    unfold Ll at hl ⊢
    cases hO:Ef false w [] with
    | none=>exact⟨_,_,rfl,.inr ⟨rfl,rfl⟩,by simp⟩
    | some q=>rw[hO] at hl;dsimp only at hl;exact⟨_,_,rfl,.inl ⟨rfl,rfl⟩,by omega⟩
   obtain⟨four,well,hf,hf2,lf⟩ :∃four well,Ll false rest=(four,well)/\((well=true/\Ef false rest []=some four)\/(well=false/\Ef false rest []=none))/\four.length<=400000:=by
    have hl:=Vz false rest
    unfold Ll at hl ⊢
    cases hO:Ef false rest [] with
    | none=>exact⟨_,_,rfl,.inr ⟨rfl,rfl⟩,by simp⟩
    | some q=>rw[hO] at hl;dsimp only at hl;exact⟨_,_,rfl,.inl ⟨rfl,rfl⟩,by omega⟩
   rw[ho,hf]
   dsimp only
   rw[AQ (by decide) (by omega),AA,AQ (by decide) (by omega),AA,Y1]
   have hlim:(decide ((four.length:Int) > 0)&&decide ((six.length:Int) > 0) || (decide (((old++gone).length:Int) > 256) || decide (((four++six).length:Int) > 256)))=!okN old gone four six:=by
    rw[<- Ze,X11,X11]
    have e1:((old.length+gone.length:Nat):Int)=(old.length:Int)+gone.length:=by omega
    have e2:((four.length+six.length:Nat):Int)=(four.length:Int)+six.length:=by omega
    rw[e1,e2]
   rw[hlim]
   have hbad:fine=true/\e=0/\g=true/\r=true/\well=true/\okN old gone four six=true\/(!fine || ((e != 0) || (!g || (!r || (!well || !okN old gone four six)))))=true/\Zr w rest (LL a [])=none:=by
    rcases hc with ⟨rfl,hc⟩|⟨hc,hc2⟩
    case inr=>exact .inr ⟨by rw[show (e != 0)=true by simpa using hc];simp,by rw[hc2];rfl⟩
    rw[hc,JP]
    rcases hg2 with ⟨rfl,hg2⟩|⟨rfl,hg2⟩
    case inr=>exact .inr ⟨by simp,DU (.inl hg2)⟩
    rcases hr2 with ⟨rfl,hr2⟩|⟨rfl,hr2⟩
    case inr=>exact .inr ⟨by simp,DU (.inr (.inl hr2))⟩
    rcases ho2 with ⟨rfl,ho2⟩|⟨rfl,ho2⟩
    case inr=>exact .inr ⟨by simp,DU (.inr (.inr (.inl ho2)))⟩
    rcases hf2 with ⟨rfl,hf2⟩|⟨rfl,hf2⟩
    case inr=>exact .inr ⟨by simp,DU (.inr (.inr (.inr hf2)))⟩
    cases hk:okN old gone four six with
    | true=>exact .inl ⟨rfl,rfl,rfl,rfl,rfl,rfl⟩
    | false=>exact .inr ⟨by simp,by rw[hg2,hr2,ho2,hf2,Jl,hk,if_neg (fun q=>by cases q.1)]⟩
   rcases hbad with ⟨rfl,rfl,rfl,rfl,rfl,hk⟩|⟨hz,hn⟩
   case inr=>rw[if_pos hz,hn];rfl
   have hR:Dw l=some (nx,six):=hg2.elim (fun h=>h.2) (fun h=>nomatch h.1)
   have hU:CH l=some gone:=hr2.elim (fun h=>h.2) (fun h=>nomatch h.1)
   have hO:Ef false w []=some old:=ho2.elim (fun h=>h.2) (fun h=>nomatch h.1)
   have hF:Ef false rest []=some four:=hf2.elim (fun h=>h.2) (fun h=>nomatch h.1)
   have hS:LL a []=some l:=hc.elim (fun h=>h.2) (fun h=>absurd rfl h.1)
   obtain⟨n1,n2,_⟩:=YY hk
   rw[hk,if_neg (by decide),Zk ⟨by omega,fun x hx=>by have:=s2 x hx;omega⟩,AA,hS,JP,hR,hU,hO,hF,Jl]
   by_cases h12:(rdS l).2=12
   ·rw[if_pos (by rw[h12];rfl),if_neg (fun q=>q.2 h12),h12]
    rfl
   rw[if_neg (by simpa using h12),if_pos (show okN old gone four six=true/\(rdS l).2≠12 from ⟨hk,h12⟩)]
   dsimp only
   by_cases h0:four++six=[]
   ·rw[if_pos ((XM _).2 h0),if_pos h0,h0]
    rfl
   rw[if_neg (fun h=>h0 ((XM _).1 h)),if_neg h0,RE (by omega),AA]
   dsimp only
   rw[Y3]
   have hfl:=db (P:=⟨l,nx,old,gone,four,six⟩) (by rw[hR];simp) (by rw[hU];simp)
   dsimp only at hfl
   rw[show Addr.eqd (rdS l).1.Next (⟨false,(0:UInt64),(0:UInt64)⟩:Addr)=Addr.eqd (rdS l).1.Next zAd from rfl,hfl]
   cases WV ⟨l,nx,old,gone,four,six⟩ with
   | true=>
    rw[if_pos rfl,if_pos rfl,AQ (by decide) (by simp only[X13,X11];omega),AA,AQ (by decide) (by simp only[X11];omega),AA]
    rfl
   | false=>
    rw[if_neg (by decide),if_neg (by decide),AB]
    by_cases h6:0<six.length
    ·rw[if_pos (by simp only[decide_eq_true_eq];omega),if_pos h6]
    rw[if_neg (by simp only[decide_eq_true_eq];omega),if_neg h6]
def OY (b:List UInt8)(P:Pt):Bool:=decide (P.l.length=1)&&(CW P.l 15&&(decide (P.gone.length=0)&&((decide (b.getD 0 0=0)&&decide (b.getD 1 0=0))&&decide (b.length=4+((b.getD 2 0).toNat*256+(b.getD 3 0).toNat)))))
def Zw (b:List UInt8):Option Pt->Bool×Bool
 | none=>(false,false)
 | some P=>if OY b P=true then (true,true) else (false,false)
def cG (b:List UInt8):Bool×Bool:=if b=[0,0,0,0] then (true,false) else Zw b (IZ b)
theorem Y4 (b:List UInt8)(P:Pt):Zw b (some P)=if OY b P=true then (true,true) else (false,false):=rfl
theorem aB {b:List UInt8}{P:Pt}(h:PtOK b P) :∃x y u v s,b=x::y::u::v::s/\(x=0->y=0->∃a rest,G7 (u::v::s)=some (a,rest)/\LL a []=some P.l/\Ef false rest []=some P.four/\P.old=[]):=by
 obtain⟨w,b1,a,rest,h1,h2,h3,_,_,h6,h7⟩:=h.h
 have l2:=Fj h2
 unfold G7 at h1
 split at h1
 case h_2=>cases h1
 rename_i x y t
 split at h1
 ·cases h1
 rename_i hlt
 simp only[X24,X26] at h1
 obtain⟨rfl,rfl⟩:=h1
 rw[X17] at l2
 match t,l2,hlt,h2,h6 with
 | [],l2,_,_,_=>simp at l2
 | [_],l2,_,_,_=>simp only[X12,X13] at l2;omega
 | u::v::s,l2,hlt,h2,h6=>
  refine⟨x,y,u,v,s,rfl,?_⟩
  rintro rfl rfl
  have e:(0:UInt8).toNat*256+(0:UInt8).toNat=0:=rfl
  rw[e] at h2 h6
  rw[List.drop_zero] at h2
  rw[List.take_zero,Wa] at h6
  exact⟨a,rest,h2,h3,h7,(X25 h6).symm⟩
theorem aY {l:List JAA}{t:Int}(hl:l.length=1)(h:CW l t=true) :∃x,l=[x]/\x.Type_=t:=by
 match l,hl with
 | [x],_=>
  refine⟨x,rfl,?_⟩
  unfold CW at h
  simp only[List.any_cons,List.any_nil,Bool.or_false,beq_iff_eq] at h
  exact h.symm
theorem VQ {u v:UInt8}{s a rest:List UInt8}(h:G7 (u::v::s)=some (a,rest)):rest=[]↔s.length=u.toNat*256+v.toNat:=by
 rw[show G7 (u::v::s)=(if s.length<u.toNat*256+v.toNat then none else some (s.take (u.toNat*256+v.toNat),s.drop (u.toNat*256+v.toNat))) from rfl] at h
 split at h
 ·cases h
 simp only[X24,X26] at h
 obtain⟨_,rfl⟩:=h
 rw[List.drop_eq_nil_iff]
 omega
theorem bU {x y:UInt8}:(((x.toNat*256+y.toNat:Nat):Int) != 0)=!(decide (x=0)&&decide (y=0)):=by
 have hx:x=0↔x.toNat=0:=by rw[<- UInt8.toNat_inj];rfl
 have hy:y=0↔y.toNat=0:=by rw[<- UInt8.toNat_inj];rfl
 rw[X28]
 simp only[bne_iff_ne,ne_eq,Bool.not_eq_true',Bool.and_eq_false_iff,decide_eq_false_iff_not,hx,hy]
 omega
theorem ZB {b:List UInt8}(hb:b.length<=400000):Fz b=some (cG b):=by
 unfold Fz cG
 have e4:(b==List.replicate (Int.toNat 4) (0:UInt8))=decide (b=[0,0,0,0]):=by
  rw[X28,beq_iff_eq,decide_eq_true_iff]
  exact Iff.rfl
 rw[show chk (0<=(4:Int)/\(4:Int)<=4/\(4:Int)<=1048576)=some () from if_pos (by omega),AA,Vd,AA,e4]
 by_cases h4:b=[0,0,0,0]
 ·rw[if_pos (by simpa using h4),if_pos h4]
 rw[if_neg (by simpa using h4),if_neg h4,AB]
 obtain⟨r,hr,hq⟩:=TF hb
 show Option.bind (B5 p00 b) _=_
 rw[hr,AA]
 cases hP:IZ b with
 | none=>
  rw[hP] at hq
  obtain⟨r1,r2⟩:=r
  have hq:r1=false:=hq
  subst hq
  rfl
 | some P=>
  rw[hP] at hq
  have hq:r=(true,⟨P.l,P.next,P.old,P.gone,P.four,P.six⟩):=hq
  subst hq
  have hok:=OH hb hP
  obtain⟨x,y,u,v,s,rfl,_⟩:=aB hok
  have hx:=x.toNat_lt
  have hu:=u.toNat_lt
  have hv:=v.toNat_lt
  have hp:part (x::y::u::v::s) 2 ((x::y::u::v::s).length:Int)=some (u::v::s):=D9 (l:=x::y::u::v::s) (n:=2) (by simp)
  dsimp only
  rw[if_neg (by decide),hp,AA,UB,AA,QP,AA,UB,AA,bU]
  have eL:((((x::y::u::v::s).length:Nat):Int) != AD (4+((u.toNat*256+v.toNat:Nat):Int)))=!decide ((x::y::u::v::s).length=4+(u.toNat*256+v.toNat)):=by
   rw[AP (by omega),X28]
   simp only[bne_iff_ne,ne_eq,Bool.not_eq_true',decide_eq_false_iff_not]
   omega
  have e1:((P.l.length:Int) != 1)=!decide (P.l.length=1):=by
   rw[X28]
   simp only[bne_iff_ne,ne_eq,Bool.not_eq_true',decide_eq_false_iff_not]
   omega
  have e2:decide ((P.gone.length:Int) > 0)=!decide (P.gone.length=0):=by
   rw[X28]
   simp only[decide_eq_true_eq,Bool.not_eq_true',decide_eq_false_iff_not]
   omega
  rw[eL]
  dsimp only
  rw[e1,e2]
  rw[Y4]
  have eC:OY (x::y::u::v::s) P=(decide (P.l.length=1)&&(CW P.l 15&&(decide (P.gone.length=0)&&((decide (x=0)&&decide (y=0))&&decide ((x::y::u::v::s).length=4+(u.toNat*256+v.toNat)))))):=rfl
  rw[eC]
  generalize decide ((x::y::u::v::s).length=4+(u.toNat*256+v.toNat))=c1
  generalize decide (P.l.length=1)=c2
  generalize CW P.l 15=c3
  generalize decide (P.gone.length=0)=c4
  generalize (decide (x=0)&&decide (y=0))=c5
  cases c1<;>cases c2<;>cases c3<;>cases c4<;>cases c5<;>rfl
theorem cK {b:List UInt8}{P:Pt}(hok:PtOK b P)(h:OY b P=true):P.old=[]/\P.gone=[]/\P.four=[]/\P.six=[]:=by
 obtain⟨x,y,u,v,s,rfl,hh⟩:=aB hok
 have h:(decide (P.l.length=1)&&(CW P.l 15&&(decide (P.gone.length=0)&&((decide (x=0)&&decide (y=0))&&decide ((x::y::u::v::s).length=4+(u.toNat*256+v.toNat))))))=true:=h
 simp only[X27,decide_eq_true_eq] at h
 obtain⟨h1,h2,h3,⟨h4,h5⟩,h6⟩:=h
 obtain⟨a,rest,g1,g2,g3,g4⟩:=hh h4 h5
 simp only[X12] at h6
 obtain rfl:=(VQ g1).2 (by omega)
 rw[Wa] at g3
 obtain⟨z,hz,ht⟩:=aY h1 h2
 obtain⟨_,_,_,_,_,_,_,hR,_⟩:=hok.h
 unfold Dw at hR
 rw[hz,C7 (by omega:z.Type_≠14)] at hR
 have hR:some (zAd,([]:List JAC))=some (P.next,P.six):=hR
 simp only[X24,X26] at hR
 exact⟨g4,List.eq_nil_of_length_eq_zero h3,(X25 g3).symm,hR.2.symm⟩
theorem aN {b:List UInt8}(hb:b.length<=400000):Hz b=some (cG b):=by
 unfold Hz cG
 have e4:((bs b).toList==(ByteArray.mk (List.toArray (List.cons 0 (List.cons 0 (List.cons 0 (List.cons 0 List.nil)))))).toList)=decide (b=[0,0,0,0]):=by
  rw[Oa,Y7,X28,beq_iff_eq,decide_eq_true_iff]
 rw[e4]
 by_cases h4:b=[0,0,0,0]
 ·rw[if_pos (by simpa using h4),if_pos h4]
 rw[if_neg (by simpa using h4),if_neg h4,RQ hb,AA]
 unfold bG
 cases hP:IZ b with
 | none=>
  dsimp only
  rw[AB,if_pos (by decide)]
  dsimp only
  rw[if_pos rfl]
  rfl
 | some P=>
  have hok:=OH hb hP
  have hno:=cK hok
  dsimp only
  by_cases h0:P.four++P.six=[]
  case neg=>
   have hc:OY b P=false:=by
    cases hc:OY b P with
    | false=>rfl
    | true=>exact absurd (by rw[(hno hc).2.2.1,(hno hc).2.2.2];rfl) h0
   have hE:Zw b (some P)=(false,false):=by
    show (if OY b P=true then _ else _)=_
    rw[hc];rfl
   have hlen:0<(P.four++P.six).length:=List.length_pos_iff.2 h0
   rw[if_neg h0,hE]
   by_cases hf:WV P=true
   ·rw[if_pos hf]
    dsimp only
    rw[AB,if_pos (by decide)]
    dsimp only
    rw[if_pos rfl]
   rw[if_neg hf]
   dsimp only
   rw[AB,if_neg (by decide)]
   by_cases hw:decide (((P.old++P.gone).length:Int) > 0)=true
   ·rw[if_pos (by rw[cond_false];exact hw)]
    dsimp only
    rw[if_pos rfl]
   rw[if_neg (by rw[cond_false];exact hw),if_pos (by rw[cond_false,decide_eq_true_eq];omega)]
   dsimp only
   rw[if_pos rfl]
  rw[if_pos h0]
  dsimp only
  rw[AB,if_neg (by decide)]
  by_cases hw:P.old++P.gone=[]
  case neg=>
   have hlen:0<(P.old++P.gone).length:=List.length_pos_iff.2 hw
   have hc:OY b P=false:=by
    cases hc:OY b P with
    | false=>rfl
    | true=>exact absurd (by rw[(hno hc).1,(hno hc).2.1];rfl) hw
   have hE:Zw b (some P)=(false,false):=by
    show (if OY b P=true then _ else _)=_
    rw[hc];rfl
   rw[if_pos (by rw[cond_false,decide_eq_true_eq];omega),hE]
   dsimp only
   rw[if_pos rfl]
  obtain⟨x,y,u,v,s,rfl,hh⟩:=aB hok
  have c0:((x.toNat:Int) != 0)=!decide (x=0):=J4 x 0 (by omega)
  have c1:((y.toNat:Int) != 0)=!decide (y=0):=J4 y 0 (by omega)
  rw[if_neg (by rw[cond_false,hw];decide),if_neg (by simp),if_neg (by rw[cond_false,decide_eq_true_eq];simp only[X12];omega),GH,AA,H9,AA,c0,c1]
  have eC:OY (x::y::u::v::s) P=(decide (P.l.length=1)&&(CW P.l 15&&(decide (P.gone.length=0)&&((decide (x=0)&&decide (y=0))&&decide ((x::y::u::v::s).length=4+(u.toNat*256+v.toNat)))))):=rfl
  have hE :∀c,OY (x::y::u::v::s) P=c->Zw (x::y::u::v::s) (some P)=if c=true then (true,true) else (false,false):=by
   rintro c rfl;rfl
  by_cases k0:x=0
  case neg=>rw[hE false (by rw[eC];simp[k0]),if_pos (by simp[k0])];rfl
  by_cases k1:y=0
  case neg=>
   rw[hE false (by rw[eC];simp[k1]),if_neg (by simp[k0]),decide_eq_false k1]
   rfl
  obtain⟨a,rest,g1,g2,g3,g4⟩:=hh k0 k1
  have l2:=Fj g1
  simp only[X12] at hb l2
  have hp:part (x::y::u::v::s) 2 ((x::y::u::v::s).length:Int)=some (u::v::s):=D9 (l:=x::y::u::v::s) (n:=2) (by simp)
  have htk:ER (u::v::s)=some (a,rest,true):=by
   rw[Rj (by simp only[X12];omega)]
   unfold H4
   rw[g1]
  have hsp:Eo a=some (P.l,0):=by
   rw[Sz (by omega)]
   unfold Oc
   rw[g2]
  have hgone:P.gone=[]:=by
   have:=congrArg List.length hw
   simp only[X11,X13] at this
   exact List.eq_nil_of_length_eq_zero (by omega)
  have hC:OY (x::y::u::v::s) P=(decide (P.l.length=1)&&(CW P.l 15&&decide (rest.length=0))):=by
   rw[eC,decide_eq_true k0,decide_eq_true k1,decide_eq_true (p:=P.gone.length=0) (by rw[hgone];rfl)]
   have:decide ((x::y::u::v::s).length=4+(u.toNat*256+v.toNat))=decide (rest.length=0):=by
    rw[decide_eq_decide,List.length_eq_zero_iff,VQ g1]
    simp only[X12]
    omega
   rw[this]
   simp
  rw[hE _ hC,if_neg (by simp[k0]),decide_eq_true k1]
  dsimp only
  rw[if_neg (by decide),hp,AA,htk,AA]
  dsimp only
  rw[hsp,AA]
  dsimp only
  rw[AB,if_neg (by decide)]
  by_cases hr:rest.length=0
  case neg=>
   rw[if_pos (by rw[cond_false,decide_eq_true_eq];omega)]
   dsimp only
   rw[if_pos rfl,decide_eq_false hr]
   simp
  rw[if_neg (by rw[cond_false,decide_eq_true_eq];omega),if_neg (by decide),decide_eq_true hr]
  match P.l with
  | []=>rfl
  | [z]=>
   rw[if_neg (by simp),show geti [z] 0=some z from CS (l:=[z]) (i:=0) (by simp),AA]
   have e15:(z.Type_ != 15)=!CW [z] 15:=by
    unfold CW
    rw[List.any_cons,List.any_nil,Bool.or_false,X28]
    simp only[bne_iff_ne,ne_eq,Bool.not_eq_true',beq_eq_false_iff_ne]
    exact⟨fun h q=>h q.symm,fun h q=>h q.symm⟩
   rw[e15]
   cases CW [z] 15<;>rfl
  | z1::z2::t=>
   rw[if_pos (by rw[cond_false,bne_iff_ne];simp only[X12];omega)]
   dsimp only
   rw[if_pos rfl,decide_eq_false (p:=(z1::z2::t).length=1) (by simp)]
   rfl
theorem H6 {v n:Int}(hn:1<=n/\n<=4611686018427387904):Ok (H2 v n) fun r=>0<=r/\r<n:=by
 unfold H2
 have h1:=Int.tmod_lt_of_pos v (show 0<n by omega)
 have h2:-n<Int.tmod v n:=by
  have:=Int.lt_tmod_of_pos v (show 0<n by omega)
  exact this
 refine .bind (.chk (by omega)) fun _ _=>.join (fun r=>0<=r/\r<n) (fun k hk=>.ite (fun hc=>hk _ ?_) fun hc=>hk _ ?_) fun r hr=>.ret hr
 ·simp only[decide_eq_true_eq] at hc
  rw[AP (by omega)]
  omega
 simp only[decide_eq_true_eq] at hc
 omega
theorem AI {d:JAI}{n:Int}(hd:Dk d)(hn:1<=n/\n<=4611686018427387904):Ok (AK d n) fun r=>0<=r.1/\r.1<n/\Dk r.2:=by
 obtain⟨h1,h2⟩:=hd
 unfold AK
 refine .ite (fun _=>.ret ⟨by simp,by simp;omega,h1,h2⟩) fun h=>?_
 simp only[decide_eq_true_eq] at h
 have e:AD (AD (d.At+1)-1)=d.At:=by rw[AP (x:=d.At+1) (by omega),AP (by omega)];omega
 rw[e,AP (x:=d.At+1) (by omega)]
 refine .bind (.geti (by omega)) fun v _=>.bind (H6 hn) fun r hr=>.ret ⟨hr.1,hr.2,by simp only;omega,h2⟩
theorem OM {d:JAI}{n:Int}(hd:Dk d)(hn:0<=n/\n<=1000):Ok (EW d n) fun r=>(r.1.length:Int)<=n/\Dk r.2:=by
 unfold EW
 rw[AP (by omega)]
 refine .bind (AI hd (by omega)) ?_
 rintro⟨v,d⟩ ⟨v1,v2,hd⟩
 dsimp only at v1 v2 hd ⊢
 refine .join (fun p:JAI×List UInt8=>Dk p.1/\(p.2.length:Int)<=n) (fun k hk=>?_) fun p hp=>.ret ⟨hp.2,hp.1⟩
 refine .whileI (fun s:Int×JAI×List UInt8=>0<=s.1/\s.1+s.2.2.length<=n/\Dk s.2.1) (fun s=>s.1.toNat) ⟨v1,by simp only[X13];omega,hd⟩ (BS (by simp only;omega)) ?_
 rintro next ⟨c,d,l⟩ ⟨h1,h2,h3⟩ hnx
 dsimp only at h1 h2 h3 ⊢
 refine .ite (fun h=>?_) fun h=>hk (d,l) ⟨h3,by dsimp only;omega⟩
 simp only[decide_eq_true_eq] at h
 refine .bind (AI h3 (by omega)) ?_
 rintro⟨w,d⟩ ⟨w1,w2,hd⟩
 dsimp only at w1 w2 hd ⊢
 refine .bind (Ok.apnd (by decide) (by simp;omega)) fun l2 hl2=>?_
 rw[AP (by omega)]
 exact hnx _ ⟨by dsimp only;omega,by rw[hl2];simp only[X11,X22];omega,hd⟩ (by dsimp only;omega)
theorem Q3 {d:JAI}(hd:Dk d):Ok (FO d) fun r=>Dk r.2:=by
 unfold FO
 refine .bind (AI hd (by omega)) ?_
 rintro⟨v,d⟩ ⟨v1,v2,hd⟩
 refine .bind (AI hd (by omega)) ?_
 rintro⟨w,d⟩ ⟨w1,w2,hd⟩
 refine .bind (AI hd (by omega)) ?_
 rintro⟨u,d⟩ ⟨u1,u2,hd⟩
 exact .bind (.geti (by simp only[X12,X13];omega)) fun x _=>.ret hd
theorem QA {d:JAI}(hd:Dk d):Ok (E3 d) fun r=>(r.1.length<=3/\tot r.1<=12/\GO r.1=true)/\Dk r.2:=by
 unfold E3
 refine .bind (AI hd (by omega)) ?_
 rintro⟨v,d⟩ ⟨v1,v2,hd⟩
 dsimp only at v1 v2 hd ⊢
 refine .join (fun p:JAI×List JAD=>(p.2.length<=3/\tot p.2<=12/\GO p.2=true)/\Dk p.1) (fun k hk=>?_) fun p hp=>.ret hp
 refine .whileI (fun s:Int×JAI×List JAD=>(0<=s.1/\s.1+s.2.2.length<=3/\4*s.1+tot s.2.2<=12/\GO s.2.2=true)/\Dk s.2.1) (fun s=>s.1.toNat) ⟨⟨v1,by simp only[X13];omega,by simp only[tot,List.foldl_nil];omega,rfl⟩,hd⟩ (BS (by simp only;omega)) ?_
 rintro next ⟨c,d,p⟩ ⟨⟨h1,h2,h3,h4⟩,hd⟩ hnx
 dsimp only at h1 h2 h3 h4 hd ⊢
 refine .ite (fun h=>?_) fun h=>hk (d,p) ⟨⟨by dsimp only;omega,by dsimp only;omega,h4⟩,hd⟩
 simp only[decide_eq_true_eq] at h
 refine .join (fun q:JAI×List JAD=>(q.2.length<=p.length+1/\tot q.2<=tot p+4/\GO q.2=true)/\Dk q.1) (fun k8 hk8=>?_) ?_
 rotate_left
 ·rintro⟨d,q⟩ ⟨⟨q1,q2,q3⟩,hd⟩
  dsimp only at q1 q2 q3 hd ⊢
  rw[AP (by omega)]
  exact hnx _ ⟨⟨by dsimp only;omega,by dsimp only;omega,by dsimp only;omega,q3⟩,hd⟩ (by dsimp only;omega)
 refine .join (fun q:Bool×JAI=>Dk q.2) (fun k9 hk9=>?_) ?_
 ·refine .ite (fun hl=>?_) fun _=>.bind (AI hd (by omega)) fun r hr=>hk9 _ hr.2.2
  simp only[decide_eq_true_eq] at hl
  rw[AP (by omega)]
  exact .bind (.geti (by omega)) fun s _=>.ite (fun _=>hk9 _ hd) fun _=>.bind (AI hd (by omega)) fun r hr=>hk9 _ hr.2.2
 rintro⟨set,d⟩ hd
 dsimp only at hd ⊢
 refine .bind (AI hd (by omega)) ?_
 rintro⟨n,d⟩ ⟨n1,n2,hd⟩
 dsimp only at n1 n2 hd ⊢
 rw[AP (x:=1+n) (by omega)]
 refine .join (fun q:JAI×List Int=>q.2.length<=4/\Dk q.1) (fun k19 hk19=>?_) ?_
 ·refine .whileI (fun s:Int×JAI×List Int=>(0<=s.1/\s.1+s.2.2.length<=4)/\Dk s.2.1) (fun s=>s.1.toNat) ⟨⟨by dsimp only;omega,by simp only[X13];omega⟩,hd⟩ (BS (by simp only;omega)) ?_
  rintro next ⟨m,d,l⟩ ⟨⟨m1,m2⟩,hd⟩ hnx
  dsimp only at m1 m2 hd ⊢
  refine .ite (fun hm=>?_) fun _=>hk19 (d,l) ⟨by dsimp only;omega,hd⟩
  simp only[decide_eq_true_eq] at hm
  refine .join (fun q:JAI×List Int=>q.2.length<=l.length+1/\Dk q.1) (fun k24 hk24=>?_) ?_
  ·refine .bind (Q3 hd) ?_
   rintro⟨x,d⟩ hd
   dsimp only at hd ⊢
   refine .ite (fun _=>.bind (Ok.apnd (by decide) (by simp;omega)) fun r hr=>hk24 (d,r) ⟨by rw[hr];simp,hd⟩) fun _=>?_
   refine Ok.pos (n:=l.length) (by omega) (fun k' w w1 w2 hk'=>.ite (fun hw=>?_) fun _=>hk' _ (by simp)) fun w w1 w2=>?_
   ·simp only[decide_eq_true_eq] at hw
    exact .bind (.geti (by omega)) fun y _=>hk' _ fun _=>hw
   refine .join (fun _=>True) (fun k35 hk35=>.ite (fun _=>hk35 _ trivial) fun hw=>.bind (.geti ?_) fun y _=>hk35 _ trivial) fun b _=>?_
   ·simp only[beq_iff_eq] at hw
    omega
   refine .join (fun q:List Int=>q.length<=l.length+1) (fun k38 hk38=>.ite (fun _=>?_) fun _=>hk38 _ (by omega)) fun q hq=>hk24 (d,q) ⟨hq,hd⟩
   refine .bind (Ok.chk (by omega)) fun _ _=>.bind (Ok.apnd (by decide) (by simp;omega)) fun _ _=>.bind (Ok.apnd (by decide) (by simp;omega)) fun a ha=>.bind (Ok.chk (by omega)) fun _ _=>.bind (Ok.apnd (by decide) (by rw[ha];simp;omega)) fun b hb=>hk38 _ ?_
   rw[hb,ha]
   simp only[X11,X18,X17,X22]
   omega
  rintro⟨d,q⟩ ⟨q1,hd⟩
  dsimp only at q1 hd ⊢
  rw[AP (by omega)]
  exact hnx _ ⟨⟨by dsimp only;omega,by dsimp only;omega⟩,hd⟩ (by dsimp only;omega)
 rintro⟨d,l⟩ ⟨l1,hd⟩
 dsimp only at l1 hd ⊢
 refine .bind (Ok.apnd (by decide) (by simp;omega)) fun p2 hp2=>?_
 have ht:tot p2=tot p+l.length:=by rw[hp2,NM,EV];simp[tot]
 have hl2:p2.length=p.length+1:=by rw[hp2];simp
 rw[F9 (by omega) (by omega),AA]
 refine .join (fun q:List JAD=>q.length<=p.length+1/\tot q<=tot p+4/\GO q=true) (fun k48 hk48=>.ite (fun _=>?_) fun hv=>hk48 p2 ⟨by omega,by omega,by simpa using hv⟩) fun q hq=>hk8 (d,q) ⟨hq,hd⟩
 rw[AP (by omega)]
 refine .bind (Ok.part (by omega)) fun q hq=>hk48 q ?_
 have e:q=p:=by
  rw[hq.1,hp2]
  have:(((p++[(⟨set,l⟩:JAD)]).length:Int)-1).toNat=p.length:=by simp
  rw[this]
  simp
 rw[e]
 exact⟨by omega,by omega,h4⟩
theorem Wy {l:List JAB}{c:JAB}(hv:Eh l=true)(hc:okC c=true)(hl:l.length<64):Eh (if l.any (fun y=>JAB.eqd y c)=true then l else H3 JU l c)=true/\(if l.any (fun y=>JAB.eqd y c)=true then l else H3 JU l c).length<=l.length+1:=by
 split
 ·exact⟨hv,by omega⟩
 rename_i h
 obtain⟨h1,h2,h3⟩:=Gm.1 hv
 have hx:c∉l:=fun q=>h (List.any_eq_true.2 ⟨c,q,(Zn _ _).2 rfl⟩)
 rw[Gm,Is]
 refine⟨⟨fun y hy=>?_,IG NK M3 h2 hx,by omega⟩,by omega⟩
 rcases It.1 hy with hy | rfl
 ·exact h1 y hy
 exact hc
theorem XB {l:List JAF}{c:JAF}(hv:Ei l=true)(hc:okL c=true)(hl:l.length<64):Ei (if l.any (fun y=>JAF.eqd y c)=true then l else H3 JX l c)=true/\(if l.any (fun y=>JAF.eqd y c)=true then l else H3 JX l c).length<=l.length+1:=by
 split
 ·exact⟨hv,by omega⟩
 rename_i h
 obtain⟨h1,h2,h3⟩:=Gk.1 hv
 have hx:c∉l:=fun q=>h (List.any_eq_true.2 ⟨c,q,(Zs _ _).2 rfl⟩)
 rw[Gk,Is]
 refine⟨⟨fun y hy=>?_,IG Ns NT h2 hx,by omega⟩,by omega⟩
 rcases It.1 hy with hy | rfl
 ·exact h1 y hy
 exact hc
theorem JW {d:JAI}(hd:Dk d):Ok (C0 d) fun r=>(Eh r.1=true/\r.1.length<=4)/\(Ei r.2.1=true/\r.2.1.length<=3)/\Dk r.2.2:=by
 unfold C0
 refine .bind (AI hd (by omega)) ?_
 rintro⟨v,d⟩ ⟨v1,v2,hd⟩
 dsimp only at v1 v2 hd ⊢
 refine .join (fun p:List JAB×JAI=>(Eh p.1=true/\p.1.length<=4)/\Dk p.2) (fun k hk=>?_) ?_
 ·refine .whileI (fun s:List JAB×Int×JAI=>(Eh s.1=true/\0<=s.2.1/\s.2.1+s.1.length<=4)/\Dk s.2.2) (fun s=>s.2.1.toNat) ⟨⟨rfl,v1,by simp only[X13];omega⟩,hd⟩ (BS (by simp only;omega)) ?_
  rintro next ⟨l,c,d⟩ ⟨⟨h1,h2,h3⟩,hd⟩ hnx
  dsimp only at h1 h2 h3 hd ⊢
  refine .ite (fun h=>?_) fun _=>hk (l,d) ⟨⟨h1,by dsimp only;omega⟩,hd⟩
  simp only[decide_eq_true_eq] at h
  refine .bind (AI hd (by omega)) ?_
  rintro⟨a,d⟩ ⟨a1,a2,hd⟩
  dsimp only at a1 a2 hd ⊢
  refine .bind (.geti (by simp only[X12,X13];omega)) fun x hx=>.bind (AI hd (by omega)) ?_
  rintro⟨b,d⟩ ⟨b1,b2,hd⟩
  dsimp only at b1 b2 hd ⊢
  refine .bind (AI hd (by omega)) ?_
  rintro⟨e,d⟩ ⟨e1,e2,hd⟩
  dsimp only at e1 e2 hd ⊢
  refine .bind (.geti (by simp only[X12,X13];omega)) fun y hy=>?_
  have hok:okC ⟨x,y⟩=true:=by
   have g1:=hx.1
   have g2:=hy.1
   rw[AP (by omega)] at g2
   simp only[List.mem_cons,List.not_mem_nil,or_false] at g1 g2
   simp only[okC,inR,X27,decide_eq_true_eq]
   omega
  have hadd:=Wy h1 hok (by omega)
  rw[M6 h1 hok (by omega),AA,AP (by omega)]
  dsimp only
  exact hnx _ ⟨⟨hadd.1,by dsimp only;omega,by have:=hadd.2;dsimp only;omega⟩,hd⟩ (by dsimp only;omega)
 rintro⟨l,d⟩ ⟨hl,hd⟩
 dsimp only at hl hd ⊢
 refine .bind (AI hd (by omega)) ?_
 rintro⟨v,d⟩ ⟨v1,v2,hd⟩
 dsimp only at v1 v2 hd ⊢
 refine .join (fun p:List JAF×JAI=>(Ei p.1=true/\p.1.length<=3)/\Dk p.2) (fun k hk=>?_) ?_
 ·refine .whileI (fun s:List JAF×Int×JAI=>(Ei s.1=true/\0<=s.2.1/\s.2.1+s.1.length<=3)/\Dk s.2.2) (fun s=>s.2.1.toNat) ⟨⟨rfl,v1,by simp only[X13];omega⟩,hd⟩ (BS (by simp only;omega)) ?_
  rintro next ⟨l,c,d⟩ ⟨⟨h1,h2,h3⟩,hd⟩ hnx
  dsimp only at h1 h2 h3 hd ⊢
  refine .ite (fun h=>?_) fun _=>hk (l,d) ⟨⟨h1,by dsimp only;omega⟩,hd⟩
  simp only[decide_eq_true_eq] at h
  refine .bind (AI hd (by omega)) ?_
  rintro⟨a,d⟩ ⟨a1,a2,hd⟩
  dsimp only at a1 a2 hd ⊢
  refine .bind (.geti (by simp only[X12,X13];omega)) fun x hx=>.bind (AI hd (by omega)) ?_
  rintro⟨b,d⟩ ⟨b1,b2,hd⟩
  dsimp only at b1 b2 hd ⊢
  refine .bind (AI hd (by omega)) ?_
  rintro⟨e,d⟩ ⟨e1,e2,hd⟩
  dsimp only at e1 e2 hd ⊢
  have hok:okL ⟨x,b,e⟩=true:=by
   have g1:=hx.1
   simp only[List.mem_cons,List.not_mem_nil,or_false] at g1
   simp only[okL,inR,X27,decide_eq_true_eq]
   omega
  have hadd:=XB h1 hok (by omega)
  rw[IH h1 hok (by omega),AA,AP (by omega)]
  dsimp only
  exact hnx _ ⟨⟨hadd.1,by dsimp only;omega,by have:=hadd.2;dsimp only;omega⟩,hd⟩ (by dsimp only;omega)
 rintro⟨m,d⟩ ⟨hm,hd⟩
 exact .ret ⟨hl,hm,hd⟩
def okO (x:JAA):Bool:=decide (1<=x.Type_/\x.Type_<=255)&&(unk x.Type_&&(decide (x.Flags=224)&&decide (x.Data.length<=255)))
def ltT (a b:JAA):Bool:=decide (a.Type_<b.Type_)
def FI (l:List JAA):Bool:=l.all okO&&chainB ltT l
def KZ (a:JAE):Bool:=FI a.Other&&(decide (-1<=a.Origin/\a.Origin<=2)&&(GO a.Path&&(a.Next.ok&&(decide (-1<=a.MED/\a.MED<=4294967295)&&(decide (-1<=a.Pref/\a.Pref<=4294967295)&&((decide (a.OTC=-1) || N3 a.OTC)&&(Eh a.Communities&&(Ei a.JAF&&decide (a.Other.length<=8)))))))))
theorem Zf (a b c:JAA)(h1:ltT a b=true)(h2:ltT b c=true):ltT a c=true:=by simp only[ltT,decide_eq_true_eq] at *;omega
structure SmT (a:JAE):Prop where
 p:a.Path.length<=1000000
 t:tot a.Path<=1000000
 c:a.Communities.length<=1000000
 l:a.JAF.length<=1000000
 o:a.Other.length<=1000000
 d :∀u∈a.Other,u.Data.length<=1000000
theorem I5 {d:JAI}(hd:Dk d):Ok (Dx d) fun r=>(KZ r.1=true/\r.1.Path.length<=3/\tot r.1.Path<=12/\r.1.Communities.length<=4/\r.1.JAF.length<=3/\r.1.Other.length<=6/\∀u∈r.1.Other,u.Data.length<=9)/\Dk r.2:=by
 unfold Dx
 rw[AB]
 refine .bind (AI hd (by omega)) ?_
 rintro⟨o,d⟩ ⟨o1,o2,hd⟩
 dsimp only at o1 o2 hd ⊢
 refine .bind (QA hd) ?_
 rintro⟨p,d⟩ ⟨hp,hd⟩
 dsimp only at hp hd ⊢
 have e4:JC 3=some ⟨false,(0:UInt64),(Ad (3221225984+((Ad (AD (1+3))).toNat:Int)))⟩:=rfl
 have e6:KJ 4=some ⟨true,(2306139568115548160:UInt64),(Ad (AD (1+4)))⟩:=rfl
 rw[e4,AA,e6,AA]
 refine .bind (AI hd (by omega)) ?_
 rintro⟨x,d⟩ ⟨x1,x2,hd⟩
 dsimp only at x1 x2 hd ⊢
 refine .bind (.geti (by simp only[X12,X13];omega)) fun nx hnx=>?_
 have hnx:nx.ok=true:=by
  have:=hnx.1
  simp only[List.mem_cons,List.not_mem_nil,or_false] at this
  rcases this with rfl | rfl | rfl<;>decide
 refine .bind (AI hd (by omega)) ?_
 rintro⟨y,d⟩ ⟨y1,y2,hd⟩
 dsimp only at y1 y2 hd ⊢
 refine .bind (.geti (by simp only[X12,X13];omega)) fun med hmed=>?_
 refine .bind (AI hd (by omega)) ?_
 rintro⟨z,d⟩ ⟨z1,z2,hd⟩
 dsimp only at z1 z2 hd ⊢
 refine .bind (.geti (by simp only[X12,X13];omega)) fun pref hpref=>?_
 refine .bind (AI hd (by omega)) ?_
 rintro⟨w,d⟩ ⟨w1,w2,hd⟩
 dsimp only at w1 w2 hd ⊢
 refine .bind (.geti (by simp only[X12,X13];omega)) fun otc hotc=>?_
 refine .bind (JW hd) ?_
 rintro⟨cs,ls,d⟩ ⟨hcs,hls,hd⟩
 dsimp only at hcs hls hd ⊢
 refine .join (fun q:JAI×List JAA=>((∀u∈q.2,okO u=true/\u.Data.length<=9)/\q.2.Pairwise (fun a b=>ltT a b=true)/\q.2.length<=6)/\Dk q.1) (fun k23 hk23=>?_) ?_
 ·refine .forX (fun i s=>((∀u∈s.2,okO u=true/\u.Data.length<=9/\∃j,j<i/\([6,7,16,34,200,255]:List Int)[j]?=some u.Type_)/\s.2.Pairwise (fun a b=>ltT a b=true)/\s.2.length<=i)/\Dk s.1) ⟨⟨by simp,.nil,by simp⟩,hd⟩ (fun s hs=>hk23 s ⟨⟨fun u hu=>⟨(hs.1.1 u hu).1,(hs.1.1 u hu).2.1⟩,hs.1.2.1,hs.1.2.2⟩,hs.2⟩) ?_
  rintro next kind i ⟨d,l⟩ hkind ⟨⟨g1,g2,g3⟩,hd⟩ hn
  dsimp only at g1 g2 g3 hd ⊢
  refine .bind (AI hd (by omega)) ?_
  rintro⟨c,d⟩ ⟨c1,c2,hd⟩
  dsimp only at c1 c2 hd ⊢
  have hi:i<6:=(X16.1 hkind).1
  refine .join (fun q:JAI×List JAA=>((∀u∈q.2,okO u=true/\u.Data.length<=9/\∃j,j<i+1/\([6,7,16,34,200,255]:List Int)[j]?=some u.Type_)/\q.2.Pairwise (fun a b=>ltT a b=true)/\q.2.length<=i+1)/\Dk q.1) (fun k31 hk31=>.ite (fun _=>?_) fun _=>hk31 (d,l) ⟨⟨fun u hu=>?_,g2,by dsimp only;omega⟩,hd⟩) fun q hq=>hn q hq
  ·refine .bind (OM hd (by omega)) ?_
   rintro⟨b,d⟩ ⟨hb,hd⟩
   dsimp only at hb hd ⊢
   refine .bind (Ok.apnd (by decide) (by simp;omega)) fun l2 hl2=>hk31 (d,l2) ⟨?_,hd⟩
   dsimp only
   rw[hl2]
   have hlt :∀j,j<i->∀t,([6,7,16,34,200,255]:List Int)[j]?=some t->t<kind:=by
    intro j hj t ht
    match i,j,hi,hj with
    | 1,0,_,_ | 2,0,_,_ | 2,1,_,_ | 3,0,_,_ | 3,1,_,_ | 3,2,_,_ | 4,0,_,_ | 4,1,_,_ | 4,2,_,_ | 4,3,_,_ | 5,0,_,_ | 5,1,_,_ | 5,2,_,_ | 5,3,_,_ | 5,4,_,_=>simp at ht hkind;omega
   have hkk:decide (1<=kind/\kind<=255)=true/\unk kind=true:=by
    have:=List.mem_of_getElem? hkind
    simp only[List.mem_cons,List.not_mem_nil,or_false] at this
    rcases this with rfl | rfl | rfl | rfl | rfl | rfl<;>decide
   refine⟨fun u hu=>?_,List.pairwise_append.2 ⟨g2,List.pairwise_singleton _ _,fun u hu v hv=>?_⟩,by simp only[X11,X22];omega⟩
   ·rcases X23.1 hu with hu | hu
    ·obtain⟨q1,q2,j,q3,q4⟩:=g1 u hu
     exact⟨q1,q2,j,by omega,q4⟩
    rw[X14] at hu
    subst hu
    refine⟨?_,by dsimp only;omega,i,by omega,hkind⟩
    unfold okO
    rw[hkk.1,hkk.2]
    simp only[Bool.true_and,X27,decide_eq_true_eq]
    exact⟨trivial,by omega⟩
   rw[X14] at hv
   subst hv
   obtain⟨_,_,j,q3,q4⟩:=g1 u hu
   have:=hlt j q3 _ q4
   simpa[ltT] using this
  obtain⟨q1,q2,j,q3,q4⟩:=g1 u hu
  exact⟨q1,q2,j,by omega,q4⟩
 rintro⟨d,l⟩ ⟨⟨g1,g2,g3⟩,hd⟩
 dsimp only at g1 g2 g3 hd ⊢
 refine .ret ⟨⟨?_,hp.1,hp.2.1,hcs.2,hls.2,g3,fun u hu=>(g1 u hu).2⟩,hd⟩
 have hmed:=hmed.1
 have hpref:=hpref.1
 have hotc:=hotc.1
 simp only[List.mem_cons,List.not_mem_nil,or_false] at hmed hpref hotc
 rw[AP (by omega)]
 have hO:FI l=true:=by
  unfold FI
  rw[X27,I0 Zf,List.all_eq_true]
  exact⟨fun u hu=>(g1 u hu).1,g2⟩
 unfold KZ
 simp only[hO,hp.2.2,hnx,hcs.1,hls.1,Bool.true_and,X27,decide_eq_true_eq,Bool.or_eq_true,N3]
 omega
theorem S9 {α ρ:Type}{K:Unit->Option ρ}{l:List α}{body:(Unit->Option ρ)->α->Nat->Unit->Option ρ}(h :∀next x (i:Nat),geti l (i:Int)=some x->body next x i ()=next ()):Ak K body l 0 ()=K ():=by
 have key :∀(t p:List α),l=p++t->Ak K body t p.length ()=K ():=by
  intro t
  induction t with
  | nil=>intro p _;rfl
  | cons x t ih=>
   intro p e
   show body (fun s=>Ak K body t (p.length+1) s) x p.length ()=_
   rw[h _ x p.length (by rw[e];exact LQ p x t)]
   have:=ih (p++[x]) (by rw[e];simp)
   simpa using this
 exact key l [] rfl
theorem R9 (l:List JAA):Dp l l=some true:=by
 unfold Dp
 rw[if_neg (by simp),AB]
 refine S9 fun next x i hg=>?_
 rw[AB]
 simp only[hg,AA,bne_self_eq_false,cond_false,beq_self_eq_true,Bool.not_true]
 rfl
theorem XW (l:List JAB):Fa l l=some true:=by
 unfold Fa
 rw[if_neg (by simp),AB]
 refine S9 fun next x i hg=>?_
 rw[hg,AA,(Zn x x).2 rfl]
 rfl
theorem Xf (l:List JAF):DT l l=some true:=by
 unfold DT
 rw[if_neg (by simp),AB]
 refine S9 fun next x i hg=>?_
 rw[hg,AA,(Zs x x).2 rfl]
 rfl
theorem XT (l:List JAD):FY l l=some true:=by
 unfold FY
 rw[if_neg (by simp),AB]
 refine S9 fun next x i hg=>?_
 rw[AB,AB,hg,AA,beq_self_eq_true,if_neg (by decide),AA]
 show (if (cond false true ((x.ASNs.length:Int) != (x.ASNs.length:Int)))=true then _ else _)=_
 rw[bne_self_eq_false,if_neg (by decide),AB]
 refine S9 fun next x2 i2 hg2=>?_
 rw[AA,hg2,AA,bne_self_eq_false]
 rfl
theorem gI (a b:Addr):Addr.eqd a b=true↔a=b:=by
 unfold Addr.eqd
 simp only[X27,beq_iff_eq,Bool.and_true,Int.natCast_inj,UInt64.toNat_inj]
 constructor
 ·rintro⟨h1,h2,h3⟩;cases a;cases b;simp_all
 rintro rfl;exact⟨rfl,rfl,rfl⟩
theorem Yj (a:JAE):Dm a a=some true:=by
 unfold Dm
 rw[AB,if_pos (by simp),XT,AA,(gI _ _).2 rfl,XW,AA,Xf,AA,R9,AA,beq_self_eq_true,beq_self_eq_true,beq_self_eq_true]
 rfl
theorem eZ (a b:JAA):ltK I2 a b=ltT a b:=by
 unfold ltK I2 ltT
 rw[TE,ac,X28,decide_eq_true_eq,decide_eq_true_eq]
 split
 ·simp[*]
 split<;>omega
theorem fm {l:List JAA}(hl:l.length<=1000000){K:Unit->Option Bool} :
  Ak (σ:=Unit) K (fun next2 x3 i4 _=>
   AC (τ:=Bool) (fun k5=>
    if (decide (x3.Type_<1))=true then
     k5 true
    else
     if (cond false true (decide (x3.Type_ > 255)))=true then
      k5 true
     else
      Option.bind (BY x3.Type_) fun v6=>
      if (cond false true (!v6))=true then
       k5 true
      else
       if (cond false true (x3.Flags != 224))=true then
        k5 true
       else
        if (cond false true (decide ((x3.Data.length:Int) > 255)))=true then
         k5 true
        else
         if (decide ((i4:Int) > 0))=true then
          Option.bind (geti l (AD ((i4:Int)-1))) fun v7=>
          k5 (cond false true (cond true (decide (v7.Type_ ≥ x3.Type_)) false))
         else
          k5 false
   ) fun v8=>
   if v8=true then
    some false
   else
    next2 ()) l 0 ()=if FI l=true then K () else some false:=by
 have hok :∀x:JAA,okO x=!(decide (x.Type_<1) || (decide (x.Type_ > 255) || ((!unk x.Type_) || ((x.Flags != 224) || decide ((x.Data.length:Int) > 255))))):=by
  intro x
  unfold okO
  have e1:decide (1<=x.Type_/\x.Type_<=255)=(!decide (x.Type_<1)&&!decide (x.Type_ > 255)):=by rw[X28];simp
  have e2:decide (x.Flags=224)=!(x.Flags != 224):=by rw[X28];simp
  have e3:decide (x.Data.length<=255)=!decide ((x.Data.length:Int) > 255):=by rw[X28];simp;omega
  rw[e1,e2,e3]
  cases decide (x.Type_ < 1)<;>cases decide (x.Type_ > 255)<;>cases unk x.Type_<;>cases (x.Flags != 224)<;>cases decide ((x.Data.length:Int) > 255)<;>rfl
 refine dQ (ok:=okO) (lt:=ltT) (by omega) (fun next x _=>?_) fun next x y i _ _ hg=>?_
 ·rw[AB,FC,AA,hok]
  cases decide (x.Type_ < 1)<;>cases decide (x.Type_ > 255)<;>cases unk x.Type_<;>cases (x.Flags != 224)<;>cases decide ((x.Data.length:Int) > 255)<;>rfl
 have e:decide (((i+1:Nat):Int) > 0)=true:=by simp
 have e2:decide (y.Type_ ≥ x.Type_)=!ltT y x:=by unfold ltT;rw[X28];simp
 rw[AB,FC,AA,hok,hg,AA,e,e2]
 cases decide (x.Type_ < 1)<;>cases decide (x.Type_ > 255)<;>cases unk x.Type_<;>cases (x.Flags != 224)<;>cases decide ((x.Data.length:Int) > 255)<;>cases ltT y x<;>rfl
theorem Tq {a:JAE}(h:SmT a):Fq a=some (KZ a):=by
 unfold Fq
 rw[AB]
 refine (fm h.o).trans ?_
 unfold KZ
 by_cases hO:FI a.Other=true
 rotate_left
 ·have hO:FI a.Other=false:=by simpa using hO
  rw[hO];rfl
 rw[hO,if_pos rfl,AB,F9 (by have:=h.p;omega) (by have:=h.t;omega),AA,Ej,AA,Kv (by have:=h.c;omega),HV (by have:=h.l;omega)]
 simp only[AA]
 have d1:decide (-1<=a.Origin/\a.Origin<=2)=(decide (a.Origin ≥ -1)&&decide (a.Origin<=2)):=by rw[X28];simp
 have d2:decide (-1<=a.MED/\a.MED<=4294967295)=(decide (a.MED ≥ -1)&&decide (a.MED<=4294967295)):=by rw[X28];simp
 have d3:decide (-1<=a.Pref/\a.Pref<=4294967295)=(decide (a.Pref ≥ -1)&&decide (a.Pref<=4294967295)):=by rw[X28];simp
 have d4:N3 a.OTC=(decide (a.OTC ≥ 1)&&decide (a.OTC<=4294967295)):=rfl
 have d5:decide (a.OTC=-1)=(a.OTC==-1):=rfl
 have d6:decide (a.Other.length<=8)=decide ((a.Other.length:Int)<=8):=by rw[X28];simp;omega
 rw[d1,d2,d3,d4,d5,d6]
 generalize decide (a.Origin ≥ -1)=b1
 generalize decide (a.Origin<=2)=b2
 generalize GO a.Path=b3
 generalize a.Next.ok=b4
 generalize decide (a.MED ≥ -1)=b5
 generalize decide (a.MED<=4294967295)=b6
 generalize decide (a.Pref ≥ -1)=b7
 generalize decide (a.Pref<=4294967295)=b8
 generalize (a.OTC==-1)=b9
 generalize decide (a.OTC ≥ 1)=b10
 generalize decide (a.OTC<=4294967295)=b11
 generalize Eh a.Communities=b12
 generalize Ei a.JAF=b13
 generalize decide ((a.Other.length:Int)<=8)=b14
 cases b1
 ·rfl
 cases b2
 ·rfl
 cases b3
 ·rfl
 cases b4
 ·rfl
 cases b5
 ·rfl
 cases b6
 ·rfl
 cases b7
 ·rfl
 cases b8
 ·rfl
 cases b9<;>cases b10<;>cases b11<;>cases b12<;>cases b13<;>cases b14<;>rfl
def w4 (n:Int):List UInt8:=[(Am (Int.fdiv n (2^(min (Int.toNat 24) 64)))),(Am (Int.fdiv n (2^(min (Int.toNat 16) 64)))),(Am (Int.fdiv n (2^(min (Int.toNat 8) 64)))),(Am n)]
def w2 (n:Int):List UInt8:=[(Am (Int.fdiv n (2^(min (Int.toNat 8) 64)))),(Am n)]
theorem Vm (k n:Nat)(hk:k<64)(hn:n=8*k)(h8:k<9):min (Int.toNat ((Ad (8*((Ad (k:Int)).toNat:Int))).toNat:Int)) 64=min (Int.toNat (n:Int)) 64:=by
 have h1:(Ad (k:Int)).toNat=k:=by
  unfold Ad
  simp only[UInt64.toNat_ofNat']
  omega
 rw[h1]
 have h2:(Ad (8*(k:Int))).toNat=n:=by
  unfold Ad
  simp only[UInt64.toNat_ofNat']
  omega
 rw[h2]
theorem fdiv_one (n:Int):Int.fdiv n (2^(min (Int.toNat ((0:Nat):Int)) 64))=n:=by
 have:((2:Int)^(min (Int.toNat ((0:Nat):Int)) 64))=1:=rfl
 rw[this,Int.fdiv_one]
theorem X3 (v:Int){n:Int}(hn:n=4\/n=2):AU v n=some (if n=4 then w4 v else w2 v):=by
 unfold AU
 rw[AB]
 have s3:=Vm 3 24 (by omega) rfl (by omega)
 have s2:=Vm 2 16 (by omega) rfl (by omega)
 have s1:=Vm 1 8 (by omega) rfl (by omega)
 have s0:=Vm 0 0 (by omega) rfl (by omega)
 have s3:min (Int.toNat ((Ad (8*((Ad (3:Int)).toNat:Int))).toNat:Int)) 64=min (Int.toNat 24) 64:=s3
 have s2:min (Int.toNat ((Ad (8*((Ad (2:Int)).toNat:Int))).toNat:Int)) 64=min (Int.toNat 16) 64:=s2
 have s1:min (Int.toNat ((Ad (8*((Ad (1:Int)).toNat:Int))).toNat:Int)) 64=min (Int.toNat 8) 64:=s1
 have s0:min (Int.toNat ((Ad (8*((Ad (0:Int)).toNat:Int))).toNat:Int)) 64=min (Int.toNat ((0:Nat):Int)) 64:=s0
 refine (B9 (fun s:Int×List UInt8=>(s.1=3\/s.1=2\/s.1=1\/s.1=0\/s.1=-1)/\s.2.length+(s.1+1).toNat<=4) (fun s=>(s.1+1).toNat) (fun s=>some (s.2++(w4 v).drop (3-s.1).toNat)) ?_ fuel (AD (n-1),[]) ?_ ?_).trans ?_
 ·rintro next ⟨i,l⟩ ⟨hi,hl⟩ hk
  dsimp only at hi hl ⊢
  rcases hi with rfl | rfl | rfl | rfl | rfl
  ·rw[if_pos (by decide),s3,AQ (by decide) (by simp only[X22];omega),AA,AP (by omega),hk _ ⟨by simp,by simp only[X11,X22];omega⟩ (by simp only;omega)]
   simp[w4]
  ·rw[if_pos (by decide),s2,AQ (by decide) (by simp only[X22];omega),AA,AP (by omega),hk _ ⟨by simp,by simp only[X11,X22];omega⟩ (by simp only;omega)]
   simp[w4]
  ·rw[if_pos (by decide),s1,AQ (by decide) (by simp only[X22];omega),AA,AP (by omega),hk _ ⟨by simp,by simp only[X11,X22];omega⟩ (by simp only;omega)]
   simp[w4]
  ·rw[if_pos (by decide),s0,fdiv_one,AQ (by decide) (by simp only[X22];omega),AA,AP (by omega),hk _ ⟨by simp,by simp only[X11,X22];omega⟩ (by simp only;omega)]
   simp[w4]
  rw[if_neg (by decide)]
  simp[w4]
 ·dsimp only
  rw[AP (by omega)]
  rcases hn with rfl | rfl
  ·exact⟨.inl rfl,by decide⟩
  exact⟨.inr (.inr (.inl rfl)),by decide⟩
 ·dsimp only
  rw[AP (by omega)]
  exact BS (by omega)
 dsimp only
 rw[AP (by omega)]
 rcases hn with rfl | rfl<;>rfl
theorem RV (v:Int):AU v 4=some (w4 v):=X3 v (.inl rfl)
theorem cj (v:Int):AU v 2=some (w2 v):=X3 v (.inr rfl)
theorem Ut (n:Int):(w4 n).length=4:=rfl
theorem Sj (l:List Int):(l.flatMap w4).length=4*l.length:=by
 induction l with
 | nil=>rfl
 | cons x t ih=>rw[List.flatMap_cons,X11,ih,Ut,X12];omega
def bJ (s:JAD):List UInt8:=[(if s.Set=true then (1:UInt8) else 2),Am (s.ASNs.length:Int)]++s.ASNs.flatMap w4
def TM (p:List JAD):List UInt8:=p.flatMap bJ
theorem VE (s:JAD):(bJ s).length=2+4*s.ASNs.length:=by
 unfold bJ
 rw[X11,Sj];rfl
theorem TO (p:List JAD):(TM p).length=2*p.length+4*tot p:=by
 unfold TM
 induction p with
 | nil=>rfl
 | cons s t ih=>rw[List.flatMap_cons,X11,ih,VE,X12,EV];omega
theorem Zt {p:List JAD}(h:2*p.length+4*tot p<=100000000){ρ:Type}{K:List UInt8->Option ρ}:AC (τ:=(List UInt8)) (fun k7=>
     Ak (σ:=(List UInt8)) (fun v8=>
      k7 v8
     ) (fun next9 (x10:JAD) i11 v8=>
      AC (τ:=(List UInt8)) (fun k12=>
       AC (τ:=UInt8) (fun k13=>
        if x10.Set=true then
         k13 (1:UInt8)
        else
         k13 (2:UInt8)
       ) fun v14=>
       Option.bind (apnd (α:=UInt8) 1 v8 ([v14,(Am (x10.ASNs.length:Int))]:List UInt8)) fun v15=>
       AC (τ:=(List UInt8)) (fun k16=>
        Ak (σ:=(List UInt8)) (fun v17=>
         k16 v17
        ) (fun next18 (x19:Int) i20 v17=>
         Option.bind (AU x19 4) fun v21=>
         Option.bind (apnd (α:=UInt8) 1 v17 v21) fun v22=>
         next18 v22
        ) x10.ASNs 0 v15
       ) fun v23=>
       k12 v23
      ) fun v24=>
      next9 v24
     ) p 0 ([]:List UInt8)
    ) K=K (TM p):=by
 rw[AB]
 have hl:=TO p
 unfold TM at hl ⊢
 refine (W3 (g:=bJ) (N:=100000000) (by rw[hl];simp only[X13];omega) fun next s i v _ hv=>?_).trans rfl
 rw[VE] at hv
 rw[AB,LR,AQ (by decide) (by simp;omega),AA,AB]
 refine (W3 (g:=w4) (N:=1000000000) (by rw[Sj];simp;omega) fun next x i v _ hv=>?_).trans ?_
 ·rw[RV,AA,AQ (by decide) hv,AA]
 rw[List.append_assoc]
 rfl
def Vg (c:JAB):List UInt8:=w2 c.A++w2 c.B
def Ru (c:JAF):List UInt8:=w4 c.A++(w4 c.B++w4 c.C)
theorem Tu (c:JAB):(Vg c).length=4:=rfl
theorem Qp (c:JAF):(Ru c).length=12:=rfl
theorem TX (l:List JAB):(l.flatMap Vg).length=4*l.length:=by
 induction l with
 | nil=>rfl
 | cons x t ih=>rw[List.flatMap_cons,X11,ih,Tu,X12];omega
theorem SV (l:List JAF):(l.flatMap Ru).length=12*l.length:=by
 induction l with
 | nil=>rfl
 | cons x t ih=>rw[List.flatMap_cons,X11,ih,Qp,X12];omega
theorem fd (n k:Nat):Int.fdiv (n:Int) (2^(min (Int.toNat (k:Int)) 64))=((n/2^(min k 64):Nat):Int):=by
 rw[Int.toNat_natCast]
 have:((2:Int)^(min k 64))=((2^(min k 64):Nat):Int):=by simp
 rw[this,Int.fdiv_eq_ediv_of_nonneg _ (Int.natCast_nonneg _),Int.natCast_ediv]
def b4 (n:Nat):List UInt8:=[UInt8.ofNat (n/16777216),UInt8.ofNat (n/65536),UInt8.ofNat (n/256),UInt8.ofNat n]
theorem QJ {x:UInt64}{k n:Nat}(hn:n=8*k)(hk:k<8)(hx:x.toNat<4294967296):Am ((Ad (Int.fdiv (x.toNat:Int) (2^(min (Int.toNat (n:Int)) 64)))).toNat:Int)=UInt8.ofNat (x.toNat/2^n):=by
 rw[fd,Nat.min_eq_left (by omega),DO,Iu]
 congr 1
 rw[UInt64.toNat_ofNat',Nat.mod_eq_of_lt]
 exact Nat.lt_of_le_of_lt (Nat.div_le_self _ _) (by omega)
theorem Addr.four {a:Addr}(h:a.ok=true)(h6:a.V6=false):a.Hi.toNat=0/\a.Lo.toNat<4294967296:=by
 unfold Addr.ok at h
 rw[h6,cond_false] at h
 cases h1:((a.Hi.toNat:Int)==0)
 ·rw[h1] at h;simp at h
 rw[h1,cond_true,decide_eq_true_eq] at h
 simp only[beq_iff_eq] at h1
 omega
theorem Ys {a:Addr}(h:a.ok=true)(h6:a.V6=false):Bn a=some (b4 a.Lo.toNat):=by
 obtain⟨_,hlo⟩:=Addr.four h h6
 unfold Bn
 rw[Ej,AA,h,if_neg (by decide),AB,h6,if_neg (by decide)]
 show AC _ _=_
 rw[AB]
 have s3:=Vm 3 24 (by omega) rfl (by omega)
 have s2:=Vm 2 16 (by omega) rfl (by omega)
 have s1:=Vm 1 8 (by omega) rfl (by omega)
 have s0:=Vm 0 0 (by omega) rfl (by omega)
 have s3:min (Int.toNat ((Ad (8*((Ad (Int.tmod 3 8)).toNat:Int))).toNat:Int)) 64=min (Int.toNat ((24:Nat):Int)) 64:=s3
 have s2:min (Int.toNat ((Ad (8*((Ad (Int.tmod 2 8)).toNat:Int))).toNat:Int)) 64=min (Int.toNat ((16:Nat):Int)) 64:=s2
 have s1:min (Int.toNat ((Ad (8*((Ad (Int.tmod 1 8)).toNat:Int))).toNat:Int)) 64=min (Int.toNat ((8:Nat):Int)) 64:=s1
 have s0:min (Int.toNat ((Ad (8*((Ad (Int.tmod 0 8)).toNat:Int))).toNat:Int)) 64=min (Int.toNat ((0:Nat):Int)) 64:=s0
 refine (B9 (fun s:Int×List UInt8=>(s.1=3\/s.1=2\/s.1=1\/s.1=0\/s.1=-1)/\s.2.length+(s.1+1).toNat<=4) (fun s=>(s.1+1).toNat) (fun s=>some (s.2++(b4 a.Lo.toNat).drop (3-s.1).toNat)) ?_ fuel (AD (4-1),[]) ?_ ?_).trans ?_
 ·rintro next ⟨i,l⟩ ⟨hi,hl⟩ hk
  dsimp only at hi hl ⊢
  rcases hi with rfl | rfl | rfl | rfl | rfl
  ·rw[if_pos (by decide),AB,if_neg (by decide),s3]
   show Option.bind _ _=_
   rw[QJ (n:=24) (k:=3) rfl (by omega) hlo,AQ (by decide) (by simp only[X22];omega),AA,AP (by omega),hk _ ⟨by simp,by simp only[X11,X22];omega⟩ (by simp only;omega)]
   simp[b4]
  ·rw[if_pos (by decide),AB,if_neg (by decide),s2]
   show Option.bind _ _=_
   rw[QJ (n:=16) (k:=2) rfl (by omega) hlo,AQ (by decide) (by simp only[X22];omega),AA,AP (by omega),hk _ ⟨by simp,by simp only[X11,X22];omega⟩ (by simp only;omega)]
   simp[b4]
  ·rw[if_pos (by decide),AB,if_neg (by decide),s1]
   show Option.bind _ _=_
   rw[QJ (n:=8) (k:=1) rfl (by omega) hlo,AQ (by decide) (by simp only[X22];omega),AA,AP (by omega),hk _ ⟨by simp,by simp only[X11,X22];omega⟩ (by simp only;omega)]
   simp[b4]
  ·rw[if_pos (by decide),AB,if_neg (by decide),s0]
   show Option.bind _ _=_
   rw[QJ (n:=0) (k:=0) rfl (by omega) hlo,AQ (by decide) (by simp only[X22];omega),AA,AP (by omega),hk _ ⟨by simp,by simp only[X11,X22];omega⟩ (by simp only;omega)]
   simp[b4]
  rw[if_neg (by decide)]
  simp[b4]
 ·dsimp only
  rw[AP (by omega)]
  exact⟨.inl rfl,by decide⟩
 ·dsimp only
  rw[AP (by omega)]
  exact BS (by omega)
 dsimp only
 rw[AP (by omega)]
 rfl
def LY (a:JAE):Bool:=!a.Next.V6&&!(Addr.eqd a.Next ⟨false,0,0⟩)
def G (a:JAE)(k:Int):Option (List UInt8):=
 if k=1 then (if a.Origin≠-1 then some [Am a.Origin] else none) else
 if k=2 then (if a.Origin≠-1\/a.Path≠[] then some (TM a.Path) else none) else
 if k=3 then (if LY a=true then some (b4 a.Next.Lo.toNat) else none) else
 if k=4 then (if a.MED≠-1 then some (w4 a.MED) else none) else
 if k=5 then (if a.Pref≠-1 then some (w4 a.Pref) else none) else
 if k=8 then (if a.Communities≠[] then some (a.Communities.flatMap Vg) else none) else
 if k=32 then (if a.JAF≠[] then some (a.JAF.flatMap Ru) else none) else
 if k=35 then (if a.OTC≠-1 then some (w4 a.OTC) else none) else none
def ent (a:JAE)(k:Int):List JAA:=match G a k with
 | some b=>[⟨fl k,k,b⟩]
 | none=>[]
def ofK (l:List JAA)(k:Int):List JAA:=l.flatMap fun x=>if (x.Type_==k)=true then [x] else []
def wrS (a:JAE):List JAA:=(List.range' 0 256).flatMap fun (k:Nat)=>ent a k++ofK a.Other k
theorem UQ {a:JAE}{k:Int}(h:fl k=0):G a k=none:=by
 rcases GK k with ⟨_,e⟩|⟨_,e⟩|⟨_,e⟩|⟨_,e⟩|⟨_,e⟩|⟨_,e⟩|⟨_,e⟩|⟨_,e⟩|⟨e1,e2,e3,e4,e5,e6,e7,e8,_⟩
 iterate 8 (rw[e] at h;exact absurd h (by decide))
 unfold G
 rw[if_neg e1,if_neg e2,if_neg e3,if_neg e4,if_neg e5,if_neg e6,if_neg e7,if_neg e8]
theorem QM {l:List JAA}{k:Int}{y:JAA}:y∈ofK l k↔y∈l/\y.Type_=k:=by
 unfold ofK
 rw[List.mem_flatMap]
 constructor
 ·rintro⟨x,hx,h⟩
  split at h
  ·rename_i hc
   rw[X14] at h
   subst h
   exact⟨hx,by simpa using hc⟩
  simp at h
 rintro⟨hy,e⟩
 exact⟨y,hy,by rw[if_pos (by simpa using e)];simp⟩
theorem LP {a:JAE}{k:Int}{y:JAA}:y∈ent a k ↔∃b,G a k=some b/\y=⟨fl k,k,b⟩:=by
 unfold ent
 cases G a k with
 | none=>simp
 | some b=>simp
theorem M9 {a:JAE}{k:Int}{y:JAA}(h:y∈ent a k):y.Type_=k:=by
 obtain⟨b,_,rfl⟩:=LP.1 h
 rfl
theorem aU {a:JAE}(hO:FI a.Other=true){y:JAA}:y∈wrS a↔(∃k,y∈ent a k)\/y∈a.Other:=by
 unfold wrS
 simp only[List.mem_flatMap,List.mem_range'_1,X23]
 constructor
 ·rintro⟨k,hk,h | h⟩
  ·exact .inl ⟨_,h⟩
  exact .inr (QM.1 h).1
 rintro (⟨k,h⟩|h)
 ·obtain⟨b,hb,_⟩:=LP.1 h
  have hk:0<=k/\k<256:=by
   rcases GK k with ⟨e,_⟩|⟨e,_⟩|⟨e,_⟩|⟨e,_⟩|⟨e,_⟩|⟨e,_⟩|⟨e,_⟩|⟨e,_⟩|e
   iterate 8 omega
   rw[UQ e.2.2.2.2.2.2.2.2] at hb;cases hb
  refine⟨k.toNat,by omega,.inl ?_⟩
  rw[show ((k.toNat:Nat):Int)=k by omega]
  exact h
 unfold FI at hO
 rw[X27,List.all_eq_true] at hO
 have:=hO.1 y h
 simp only[okO,X27,decide_eq_true_eq] at this
 exact⟨y.Type_.toNat,by omega,.inr (QM.2 ⟨h,by omega⟩)⟩
theorem Ix {l:List JAA}(hO:FI l=true){x:JAA}(h:x∈l):unk x.Type_=true/\1<=x.Type_/\x.Type_<=255/\x.Flags=224/\x.Data.length<=255:=by
 unfold FI at hO
 rw[X27,List.all_eq_true] at hO
 have:=hO.1 x h
 simp only[okO,X27,decide_eq_true_eq] at this
 exact⟨this.2.1,this.1.1,this.1.2,this.2.2.1,this.2.2.2⟩
theorem Zp {t:Int}(h:unk t=true):fl t=0:=by
 simp only[unk,X27,decide_eq_true_eq] at h
 exact h.1
theorem Ny {l:List JAA}(hO:FI l=true):l.Pairwise fun a b=>ltT a b=true:=by
 unfold FI at hO
 rw[X27] at hO
 exact (I0 Zf).1 hO.2
theorem ZT {a:JAE}(hO:FI a.Other=true):(wrS a).Pairwise fun a b=>ltK I2 a b=true:=by
 unfold wrS
 rw[List.pairwise_flatMap]
 have ht :∀(k:Nat) y,y∈ent a k++ofK a.Other k->y.Type_=k:=by
  intro k y hy
  rcases X23.1 hy with h | h
  ·exact M9 h
  exact (QM.1 h).2
 constructor
 ·intro k _
  rw[List.pairwise_append]
  refine⟨?_,?_,?_⟩
  ·unfold ent
   split
   ·exact List.pairwise_singleton _ _
   exact .nil
  ·unfold ofK
   rw[List.pairwise_flatMap]
   refine⟨fun x _=>OS,(Ny hO).imp fun {p q} hpq x hx y hy=>?_⟩
   have e1:p.Type_=k:=by
    split at hx
    ·simpa using ‹(p.Type_==(k:Int))=true›
    simp at hx
   have e2:q.Type_=k:=by
    split at hy
    ·simpa using ‹(q.Type_==(k:Int))=true›
    simp at hy
   simp only[ltT,decide_eq_true_eq] at hpq
   omega
  intro x hx y hy
  obtain⟨b,hb,_⟩:=LP.1 hx
  obtain⟨hy1,hy2⟩:=QM.1 hy
  have:=Zp (Ix hO hy1).1
  rw[hy2] at this
  rw[UQ this] at hb;cases hb
 refine (List.pairwise_lt_range' (s:=0) (n:=256)).imp fun {p q} hpq x hx y hy=>?_
 have e1:=ht p x hx
 have e2:=ht q y hy
 rw[eZ]
 simp only[ltT,decide_eq_true_eq]
 omega
end Go.AX.Q19
end
