/-
  Texts of one proof, packed.
-/
import Derived.Test.YtbohbnpaadcfmaaGreatDoorKB5
import Derived.KernelRfl
set_option linter.all false
set_option maxRecDepth 100000
set_option maxHeartbeats 4000000
open List renaming length_append→X11,length_cons→X12,length_nil→X13,mem_singleton→X14,getElem?_eq_getElem→X15,getElem?_eq_some_iff→X16,length_drop→X17,length_take→X18,mem_cons_of_mem→X19,length_replicate→X20,length_singleton→X22,mem_append→X23
open Option.some renaming injEq→X24,inj→X25
open Prod.mk renaming injEq→X26
open Bool renaming and_eq_true→X27,eq_iff_iff→X28
open Nat renaming add_mul→X32
section
namespace Go.AX.Q19
open Go Go.AX
def fl (t:Int):Int:=if t=1 then 64 else if t=2 then 64 else if t=3 then 64 else if t=4 then 128 else if t=5 then 64 else if t=8 then 192 else if t=32 then 192 else if t=35 then 192 else 0
def unk (t:Int):Bool:=decide (fl t=0)&&(decide (t≠14)&&decide (t≠15))
theorem LJ (t:Int):(BC Bz t).getD 0=fl t:=by
 unfold Bz fl
 simp only[BC,beq_iff_eq]
 repeat' (split;· rfl)
 rfl
theorem Ep (t:Int):(t=1/\fl t=64)\/(t=2/\fl t=64)\/(t=3/\fl t=64)\/(t=4/\fl t=128)\/(t=5/\fl t=64)\/(t=8/\fl t=192)\/(t=32/\fl t=192)\/(t=35/\fl t=192) \/
  (t≠1/\t≠2/\t≠3/\t≠4/\t≠5/\t≠8/\t≠32/\t≠35/\fl t=0):=by
 unfold fl
 by_cases h1:t=1<;>by_cases h2:t=2<;>by_cases h3:t=3<;>by_cases h4:t=4<;>by_cases h5:t=5<;>by_cases h6:t=8<;>by_cases h7:t=32<;>by_cases h8:t=35<;>first | (exfalso;omega)|simp[h1,h2,h3,h4,h5,h6,h7,h8]
theorem Jy (t:Int):Bf t=some (fl t):=by
 unfold Bf
 simp only[AB,beq_iff_eq]
 rcases Ep t with ⟨h,e⟩|⟨h,e⟩|⟨h,e⟩|⟨h,e⟩|⟨h,e⟩|⟨h,e⟩|⟨h,e⟩|⟨h,e⟩|⟨h1,h2,h3,h4,h5,h6,h7,h8,e⟩<;>rw[e]
 iterate 8 (subst h;rfl)
 simp[h1,h2,h3,h4,h5,h6,h7,h8]
theorem aQ (t:Int)(k:Bool->Option Bool):(if (fl t==0)=true then if (cond true (t != 14) false)=true then k (cond true (t != 15) false) else k false else k false)=k (unk t):=by
 have e1:(t != 14)=!decide (t=14):=rfl
 have e2:(t != 15)=!decide (t=15):=rfl
 unfold unk
 rw[e1,e2]
 by_cases h1:fl t=0<;>by_cases h2:t=14<;>by_cases h3:t=15<;>simp[h1,h2,h3]
theorem D7 (t:Int):Ba t=some (unk t):=by
 unfold Ba
 rw[AB,LJ,AA]
 exact aQ t some
theorem Ij (t:Int):DY t=some (unk t):=by
 unfold DY
 rw[AB,Jy,AA]
 exact aQ t some
theorem GE (a b c:Int):A9 a b c=some (decide (b<=a)&&decide (a<=c)):=by
 unfold A9
 rw[AB]
 by_cases h:b<=a
 ·rw[if_pos (by simpa using h),decide_eq_true h];rfl
 rw[if_neg (by simpa using h),decide_eq_false h];rfl
theorem number_eq (a:Int):EB a=some (decide (1<=a)&&decide (a<=4294967295)):=by
 unfold EB
 rw[AB]
 by_cases h:1<=a
 ·rw[if_pos (by simpa using h),decide_eq_true h];rfl
 rw[if_neg (by simpa using h),decide_eq_false h];rfl
def bt (x m:Int):Int:=AI ((BitVec.ofInt 64 x &&& BitVec.ofInt 64 m).toNat:Int)
theorem W1 {n m:Int}(h:n%(2^64:Int)=m%(2^64:Int)):AI n=AI m:=
 congrArg (fun q:Int=>if (IntKind.i64.signed&&decide (q ≥ (2^(IntKind.i64.bits-1):Int)))=true then q-(2^IntKind.i64.bits:Int) else q) h
theorem T8 (b:BitVec 64):AI (b.toNat:Int)=b.toInt:=by
 have h:=b.isLt
 have h1:=BitVec.toInt_eq_toNat_cond b
 have p1:(2:Int)^64=18446744073709551616:=by decide
 have p2:((2^64:Nat):Int)=18446744073709551616:=by decide
 have p3:(2:Nat)^64=18446744073709551616:=by decide
 rw[p2] at h1
 rw[p3] at h h1
 have h2:-9223372036854775808<=b.toInt/\b.toInt<=9223372036854775807:=by
  rw[h1];split<;>omega
 rw[W1 (m:=b.toInt) (by rw[p1,h1];split<;>omega),AP h2]
theorem Rn (b:BitVec 64):BitVec.ofInt 64 (AI (b.toNat:Int))=b:=by
 rw[T8,BitVec.ofInt_toInt]
theorem XW {f m:Int}(hf:f=64\/f=128\/f=192):(AI ((BitVec.ofInt 64 (AI ((BitVec.ofInt 64 m ^^^ BitVec.ofInt 64 f).toNat:Int)) &&& BitVec.ofInt 64 192).toNat:Int)==0)=(bt m 192==f):=by
 unfold bt
 rw[Rn,T8,T8,X28,beq_iff_eq,beq_iff_eq]
 have h0:(0:Int)=(0#64).toInt:=by decide
 have h1:f=(BitVec.ofInt 64 f &&& BitVec.ofInt 64 192).toInt:=by rcases hf with rfl | rfl | rfl<;>decide
 have hx:(BitVec.ofInt 64 m ^^^ BitVec.ofInt 64 f) &&& BitVec.ofInt 64 192=(BitVec.ofInt 64 m &&& BitVec.ofInt 64 192) ^^^ (BitVec.ofInt 64 f &&& BitVec.ofInt 64 192):=by
  apply BitVec.eq_of_getLsbD_eq
  intro i _
  simp only[BitVec.getLsbD_and,BitVec.getLsbD_xor]
  generalize (BitVec.ofInt 64 m).getLsbD i=x
  generalize (BitVec.ofInt 64 f).getLsbD i=y
  generalize (BitVec.ofInt 64 192).getLsbD i=z
  cases x<;>cases y<;>cases z<;>rfl
 rw[hx]
 conv=>rhs;rhs;rw[h1]
 rw[h0,BitVec.toInt_inj,BitVec.toInt_inj,BitVec.xor_eq_zero_iff]
def FG (x:JAA):Bool:=bt x.Flags 192==fl x.Type_&&(fl x.Type_==192 || bt x.Flags 32==0)
theorem Bi (x:JAA)(h:fl x.Type_≠0):BH x=some (FG x):=by
 have hf:fl x.Type_=64\/fl x.Type_=128\/fl x.Type_=192:=by
  rcases Ep x.Type_ with ⟨_,e⟩|⟨_,e⟩|⟨_,e⟩|⟨_,e⟩|⟨_,e⟩|⟨_,e⟩|⟨_,e⟩|⟨_,e⟩|h'<;>first | (rw[e];simp;done)|exact absurd h'.2.2.2.2.2.2.2.2 h
 unfold BH FG
 rw[AB,LJ]
 simp only[AA,XW hf]
 show (if (bt x.Flags 192==fl x.Type_)=true then if (fl x.Type_==192)=true then some true else some (cond true (cond false true (bt x.Flags 32==0)) false) else some false)=_
 cases (bt x.Flags 192==fl x.Type_)<;>cases (fl x.Type_==192)<;>rfl
def Ea (b:List UInt8):Int:=b.foldl (fun n x=>AI ((BitVec.ofInt 64 (AI (n*(2^(min (Int.toNat 8) 64)))) ||| BitVec.ofInt 64 (x.toNat:Int)).toNat:Int)) 0
theorem Xn {α σ ρ:Type}{K:σ->Option ρ}{g:σ->α->σ} :∀(l:List α) (i:Nat) (s:σ),An K (fun next x _ s=>next (g s x)) l i s=K (l.foldl g s)
 | [],_,_=>rfl
 | x::t,i,s=>Xn t (i+1) (g s x)
theorem Cm (b:List UInt8):B9 b=some (Ea b):=by
 unfold B9
 rw[AB]
 exact Xn (K:=some) b 0 0
def val (l:List UInt8):Nat:=l.foldl (fun m x=>m*256+x.toNat) 0
theorem Na (l:List UInt8)(x:UInt8):val (l++[x])=val l*256+x.toNat:=by simp[val]
theorem Lr :∀l:List UInt8,val l<256^l.length:=by
 intro l
 rw[<- List.reverse_reverse l]
 generalize l.reverse=m
 induction m with
 | nil=>decide
 | cons x t ih=>
  rw[List.reverse_cons,Na,X11,X22,Nat.pow_succ]
  have:=x.toNat_lt
  omega
theorem WO {u v:Nat}(hu:u<36028797018963968)(hv:v<256):AI ((BitVec.ofInt 64 (AI ((u:Int)*(2^(min (Int.toNat 8) 64)))) ||| BitVec.ofInt 64 (v:Int)).toNat:Int)=((u*256+v:Nat):Int):=by
 have h1:((u:Int)*(2^(min (Int.toNat 8) 64)))=((u*256:Nat):Int):=by
  have:min (Int.toNat 8) 64=8:=rfl
  rw[this];omega
 rw[h1,AP (x:=((u*256:Nat):Int)) (by omega),BitVec.ofInt_natCast,BitVec.ofInt_natCast,BitVec.toNat_or,BitVec.toNat_ofNat,BitVec.toNat_ofNat,Nat.mod_eq_of_lt (show u*256<2^64 by omega),Nat.mod_eq_of_lt (show v<2^64 by omega),
  show u*256=2^8*u by omega,<- Nat.two_pow_add_eq_or_of_lt (show v<2^8 by omega)]
 rw[AP (by omega)]
theorem GN :∀{l:List UInt8},l.length<=7->Ea l=(val l:Int):=by
 intro l
 rw[<- List.reverse_reverse l]
 generalize l.reverse=m
 induction m with
 | nil=>intro _;rfl
 | cons x t ih=>
  intro h
  rw[List.reverse_cons] at h ⊢
  simp only[X11,List.length_reverse,X22] at h
  unfold Ea at ih ⊢
  rw[List.foldl_append,ih (by simp;omega)]
  have h1:=Lr t.reverse
  have h2:256^t.reverse.length<=256^6:=Nat.pow_le_pow_right (by omega) (by simp;omega)
  show AI _=_
  rw[WO (by omega) x.toNat_lt,Na]
def nums:List UInt8->List Int
 | a::b::c::d::t=>Ea [a,b,c,d]::nums t
 | _=>[]
theorem LE (a b c d:UInt8)(t:List UInt8):nums (a::b::c::d::t)=Ea [a,b,c,d]::nums t:=rfl
theorem WY :∀{l:List UInt8},l.length<4->nums l=[]
 | [],_=>rfl
 | [_],_=>rfl
 | [_,_],_=>rfl
 | [_,_,_],_=>rfl
 | _::_::_::_::_,h=>by simp at h;omega
theorem cG :∀{l:List UInt8},4<=l.length->∃a b c d t,l=a::b::c::d::t
 | [],h=>by simp at h
 | [_],h=>by simp at h
 | [_,_],h=>by simp at h
 | [_,_,_],h=>by simp at h
 | a::b::c::d::t,_=>⟨a,b,c,d,t,rfl⟩
theorem HF :∀l:List UInt8,(nums l).length=l.length/4
 | a::b::c::d::t=>by
  rw[LE,X12,HF t]
  simp only[X12]
  omega
 | []=>rfl
 | [_]=>by simp[nums]
 | [_,_]=>by simp[nums]
 | [_,_,_]=>by simp[nums]
theorem P5 :∀(l:List UInt8),∀n∈nums l,0<=n/\n<=4294967295
 | a::b::c::d::t=>by
  rw[LE]
  intro n hn
  rcases List.mem_cons.1 hn with h | h
  ·have h1:=Lr [a,b,c,d]
   rw[h,GN (by simp)]
   simp only[X12,X13] at h1
   omega
  exact P5 t n h
 | []=>by intro n h;simp[nums] at h
 | [_]=>by intro n h;simp[nums] at h
 | [_,_]=>by intro n h;simp[nums] at h
 | [_,_,_]=>by intro n h;simp[nums] at h
theorem FA {b:List UInt8}(hb:b.length<=1000000000):CQ b=some (nums b):=by
 unfold CQ
 rw[AB,Da (fun s:List UInt8×List Int=>s.1.length+4*s.2.length<=1000000000) (fun s=>s.1.length) (fun s=>some (s.2++nums s.1)) ?_ fuel (b,[]) (by simpa using hb) (CE (by simp only;omega))]
 ·rfl
 rintro next ⟨v,o⟩ h hn
 dsimp only at h ⊢
 by_cases h4:4<=v.length
 ·obtain⟨x,y,z,w,t,rfl⟩:=cG h4
  simp only[X12] at h
  rw[if_pos (by simp only[X12,decide_eq_true_eq];omega)]
  have e1:part (x::y::z::w::t) 0 4=some [x,y,z,w]:=by
   rw[show (0:Int)=((0:Nat):Int) by rfl,show (4:Int)=((4:Nat):Int) by rfl,EX (by omega) (by simp)]
   rfl
  have e2:part (x::y::z::w::t) 4 ((x::y::z::w::t).length:Int)=some t:=by
   rw[show (4:Int)=((4:Nat):Int) by rfl,EX (by simp) (by simp)]
   simp
  rw[e1,AA,Cm,AA,AO (by decide) (by simp only[X22];omega),AA,e2,AA,hn _ (by simp only[X11,X22];omega) (by simp only[X12];omega)]
  simp[LE]
 rw[if_neg (by simp only[decide_eq_true_eq];omega),WY (by omega)]
 simp
def ltI (a b:Int):Bool:=decide (a<b)
theorem Px (a:Int):ltI a a=false:=by simp[ltI]
theorem QD (a b c:Int)(h1:ltI a b=true)(h2:ltI b c=true):ltI a c=true:=by simp only[ltI,decide_eq_true_eq] at *;omega
theorem YA (a b:Int)(h:ltI a b=false):a=b\/ltI b a=true:=by simp only[ltI,decide_eq_true_eq,decide_eq_false_iff_not] at *;omega
def Asc (l r:List Int):Prop:=r.Pairwise (fun a b=>ltI a b=true)/\∀x,x∈r↔x∈l
theorem Asc.uniq {l r s:List Int}(h:Asc l r)(k:Asc l s):r=s:=
 I8 (lt:=fun a b=>ltI a b=true) (fun a=>by simp[Px]) QD h.1 k.1 fun x=>(h.2 x).trans (k.2 x).symm
theorem Oo {l:List Int}(hl:l.length<=1000000):Ok (JH l) (Asc l):=by
 unfold JH
 refine .join (Asc l) (fun k hk=>?_) fun r hr=>.ret hr
 refine .forX (fun i v=>v.Pairwise (fun a b=>ltI a b=true)/\(∀x,x∈v↔x∈l.take i)/\v.length<=i) ⟨.nil,by simp,by simp⟩ (fun v hv=>hk v ⟨hv.1,by simpa using hv.2.1⟩) fun next x i v hx hI hn=>?_
 obtain⟨i1,i2,i3⟩:=hI
 have hil:=(X16.1 hx).1
 have hmt :∀y,y∈l.take (i+1)↔y∈l.take i\/y=x:=by
  intro y
  rw[List.take_add_one,hx]
  simp
 refine .join (fun v'=>v'.Pairwise (fun a b=>ltI a b=true)/\(∀x,x∈v'↔x∈l.take (i+1))/\v'.length<=i+1) (fun k6 hk6=>?_) fun v' h=>hn _ h
 have hpos:=GY (ltI · x) v
 rw[cY (p:=(ltI · x)) (fun y k4=>k4 (cond true (decide (y<x)) false)) (by omega) (fun y _ k=>rfl)]
 have hh:=ZR QD Px (x:=x) i1
 obtain⟨t1,t2⟩:=takeWhile_take (ltI · x) v
 refine .join (fun c=>c=true↔x∈v) (fun k15 hk15=>?_) fun c hc=>.ite (fun h=>?_) fun h=>?_
 ·by_cases hk:(v.takeWhile (ltI · x)).length<v.length
  ·rw[if_pos (by simpa using hk),B8 hk,AA]
   refine hk15 _ ?_
   rw[hh,X15 hk]
   simp only[cond_true,beq_iff_eq,X24]
  rw[if_neg (by simpa using hk)]
  refine hk15 _ ?_
  rw[hh,List.getElem?_eq_none (by omega)]
  simp
 ·refine hk6 _ ⟨i1,fun y=>?_,by omega⟩
  rw[hmt,i2 y]
  refine⟨.inl,fun q=>q.elim id fun e=>?_⟩
  rw[e];exact (i2 x).1 (hc.1 h)
 have hnx:x∉v:=fun q=>h (hc.2 q)
 simp only[Int.toNat_natCast,Int.toNat_zero,List.drop_zero,Nat.sub_zero]
 refine .bind (Ok.chk (by omega)) fun _ _=>.bind (Ok.apnd (by decide) (by simp;omega)) fun _ _=>.bind (Ok.apnd (by decide) (by simp;omega)) fun a ha=>.bind (Ok.chk (by omega)) fun _ _=>.bind (Ok.apnd (by decide) (by rw[ha];simp;omega)) fun b hb=>hk6 _ ?_
 have e:b=FB ltI v x:=by
  have e2:(List.drop (v.takeWhile (ltI · x)).length v).take (v.length-(v.takeWhile (ltI · x)).length)=v.dropWhile (ltI · x):=by
   rw[List.take_of_length_le (by simp),t2]
  rw[hb,ha,e2,t1]
  unfold FB
  simp
 rw[e]
 refine⟨IQ QD YA i1 hnx,fun y=>?_,by rw[HA];omega⟩
 rw[D8,hmt,i2]
def srt (l:List Int):List Int:=(JH l).getD []
theorem Tq {l:List Int}(hl:l.length<=1000000):Asc l (srt l):=by
 obtain⟨r,h,k⟩:=Oo hl
 unfold srt;rw[h];exact k
theorem VQ (l:List Int):Bo l=Jx (fun a b=>a==b) 0 l:=rfl
theorem Rx {l:List Int}{ρ:Type}{K:List Int->Option ρ}(hl:l.length<=1000000):(Option.bind (Lh l) fun v=>Option.bind (Bo v) K)=K (srt l):=by
 obtain⟨r,h,h1,h2⟩:=Yh (l:=l) (by omega)
 rw[h,AA,VQ]
 obtain⟨c,g,g1,g2⟩:=Kw (lt:=ltI) (e:=fun a b:Int=>a==b) (zz:=0) Px QD YA (fun a b=>beq_iff_eq) (l:=r) h2 (by rw[h1.length_eq];omega)
 rw[g,AA,Asc.uniq (l:=l) ⟨g1,fun x=>(g2 x).trans h1.mem_iff⟩ (Tq hl)]
def GZ (p:List JAE)(set:Bool)(l:List Int):List JAE:=
 if set then p++[⟨true,srt l⟩] else match p.getLast? with
  | some s=>if s.Set then p++[⟨false,l⟩] else p.dropLast++[⟨false,s.ASNs++l⟩]
  | none=>[⟨false,l⟩]
def J0:Nat->List UInt8->List JAE->Option (List JAE)
 | _,[],p=>some p
 | n+1,k::c::t,p=>if (k.toNat≠1/\k.toNat≠2)\/c.toNat=0\/t.length<4*c.toNat then none else J0 n (t.drop (4*c.toNat)) (GZ p (k.toNat==1) (nums (t.take (4*c.toNat))))
 | _,_,_=>none
theorem OG (n:Nat)(p:List JAE):J0 n [] p=some p:=by cases n<;>rfl
theorem Rj :∀(n m:Nat) (b:List UInt8) (p:List JAE),b.length<=n->b.length<=m->J0 n b p=J0 m b p
 | n,m,[],p,_,_=>by rw[OG,OG]
 | n+1,m+1,[x],p,_,_=>rfl
 | n+1,m+1,k::c::t,p,h1,h2=>by
  simp only[X12] at h1 h2
  simp only[J0]
  split
  ·rfl
  exact Rj n m _ _ (by simp only[X17];omega) (by simp only[X17];omega)
 | 0,_,_::_,_,h,_=>by simp at h
 | _,0,_::_,_,_,h=>by simp at h
def rdL (b:List UInt8)(p:List JAE):Option (List JAE):=J0 b.length b p
def KI (k c:UInt8)(t:List UInt8):Bool:=decide ((k.toNat≠1/\k.toNat≠2)\/c.toNat=0\/t.length<4*c.toNat)
theorem X0 (p:List JAE):rdL [] p=some p:=rfl
theorem U3 (k c:UInt8)(t:List UInt8)(p:List JAE):rdL (k::c::t) p=if KI k c t=true then none else rdL (t.drop (4*c.toNat)) (GZ p (k.toNat==1) (nums (t.take (4*c.toNat)))):=by
 unfold rdL KI
 simp only[X12,J0,decide_eq_true_eq]
 split
 ·rfl
 exact Rj _ _ _ _ (by simp only[X17];omega) (by simp only[X17];omega)
def Lk (p:List JAE)(i:Nat)(l:List Int):Prop:=p=[] \/∃q s,p=q++[⟨s,l⟩]/\i=q.length
theorem QQ {x:UInt8}{t:List UInt8}:geti (x::t) 0=some x:=B8 (l:=x::t) (i:=0) (by simp)
theorem UN {x y:UInt8}{t:List UInt8}:geti (x::y::t) 1=some y:=B8 (l:=x::y::t) (i:=1) (by simp)
theorem fG (c:UInt8):AI (2+AI (4*(c.toNat:Int)))=((2+4*c.toNat:Nat):Int):=by
 have:=c.toNat_lt
 rw[AP (x:=4*(c.toNat:Int)) (by omega),AP (by omega)]
 omega
theorem RX (p:List JAE)(l:List Int):GZ p true l=p++[⟨true,srt l⟩]:=rfl
theorem QP (l:List Int):GZ [] false l=[⟨false,l⟩]:=rfl
theorem Jp (q:List JAE)(m l:List Int):GZ (q++[⟨true,m⟩]) false l=q++[⟨true,m⟩]++[⟨false,l⟩]:=by
 unfold GZ;simp
theorem PH (q:List JAE)(m l:List Int):GZ (q++[⟨false,m⟩]) false l=q++[⟨false,m++l⟩]:=by
 unfold GZ;simp
theorem X5 {l:List Int}(hl:l.length<=1000000):(srt l).length<=l.length:=by
 obtain⟨h1,h2⟩:=Tq hl
 refine TF (h1.imp fun {a b} h e=>?_) fun x hx=>(h2 x).1 hx
 subst e
 rw[Px] at h;simp at h
theorem YP {α:Type}{q:List α}{x:α}(h:q.length<=1000000000):AI (((q++[x]).length:Int)-1)=(q.length:Int):=by
 rw[AP (by simp;omega)]
 simp
theorem cJ {α:Type}(q:List α)(x y:α):seti (q++[x]) (q.length:Int) y=some (q++[y]):=by
 unfold seti
 rw[if_pos (by simp;omega)]
 simp
theorem bE {k c:UInt8}{t:List UInt8}(hlen:t.length<=1000000){ρ:Type}(K:Bool->Option ρ) :
  AC (τ:=Bool) (fun q=>if (decide (((k::c::t).length:Int)<2))=true then q true else
   Option.bind (geti (k::c::t) 0) fun v37=>
   if ((v37.toNat:Int) != 1)=true then
    Option.bind (geti (k::c::t) 0) fun v38=>
    if (cond false true (cond true ((v38.toNat:Int) != 2) false))=true then q true else
     Option.bind (geti (k::c::t) 1) fun v39=>
     if (cond false true (decide (((k::c::t).length:Int)<(AI (2+(AI (4*(v39.toNat:Int))))))))=true then q true else
      Option.bind (geti (k::c::t) 1) fun v40=>
      q (cond false true ((v40.toNat:Int)==0))
   else
    Option.bind (geti (k::c::t) 1) fun v41=>
    if (cond false true (decide (((k::c::t).length:Int)<(AI (2+(AI (4*(v41.toNat:Int))))))))=true then q true else
     Option.bind (geti (k::c::t) 1) fun v42=>
     q (cond false true ((v42.toNat:Int)==0))) K=K (KI k c t):=by
 rw[AB,if_neg (by simp;omega)]
 simp only[QQ,UN,AA,fG,cond_true,cond_false]
 unfold KI
 have e1:((k.toNat:Int) != 1)=decide (k.toNat≠1):=by rw[X28];simp;omega
 have e2:((k.toNat:Int) != 2)=decide (k.toNat≠2):=by rw[X28];simp;omega
 have e3:((c.toNat:Int)==0)=decide (c.toNat=0):=by rw[X28];simp
 have e4:decide (((k::c::t).length:Int)<((2+4*c.toNat:Nat):Int))=decide (t.length<4*c.toNat):=by rw[X28];simp only[X12,decide_eq_true_eq];omega
 rw[e1,e2,e3,e4]
 by_cases h1:k.toNat=1<;>by_cases h2:k.toNat=2<;>by_cases h3:c.toNat=0<;>by_cases h4:t.length < 4*c.toNat<;>first | (exfalso;omega)|simp[h1,h2,h3,h4]
theorem bL {p:List JAE}(hp:p.length<=1000000){ρ:Type}(K:Bool->Option ρ) :
  AC (τ:=Bool) (fun q=>if (decide ((p.length:Int) > 0))=true then Option.bind (geti p (AI ((p.length:Int)-1))) fun v=>q (cond true (!v.Set) false) else q false) K=K (match p.getLast? with | some s=>!s.Set | none=>false):=by
 rcases List.eq_nil_or_concat p with rfl | ⟨q,s,rfl⟩
 ·rfl
 rw[List.concat_eq_append] at hp ⊢
 rw[AB,if_pos (by simp),YP (by simp at hp;omega),M6,AA]
 simp
theorem Yv {k c:UInt8}{t:List UInt8}(h:4*c.toNat<=t.length):part (k::c::t) ((2+4*c.toNat:Nat):Int) ((k::c::t).length:Int)=some (t.drop (4*c.toNat)):=by
 rw[EX (by simp;omega) (Nat.le_refl _)]
 rw[show 2+4*c.toNat=4*c.toNat+1+1 by omega,List.drop_succ_cons,List.drop_succ_cons,List.take_of_length_le (by simp)]
end Go.AX.Q19
end
section
namespace Go.AX
section
variable {α ρ:Type}
def chainB (lt:α->α->Bool):List α->Bool
 | x::y::t=>lt x y&&chainB lt (y::t)
 | _=>true
theorem HB (lt:α->α->Bool)(x y:α)(t:List α):chainB lt (x::y::t)=(lt x y&&chainB lt (y::t)):=rfl
theorem Qe (lt:α->α->Bool)(x:α):chainB lt [x]=true:=rfl
theorem Hh {lt:α->α->Bool}(htr :∀a b c,lt a b=true->lt b c=true->lt a c=true) :∀{l:List α},chainB lt l=true↔l.Pairwise fun a b=>lt a b=true
 | []=>by simp[chainB]
 | [x]=>by simp[chainB]
 | x::y::t=>by
  rw[HB,X27,Hh htr (l:=y::t),List.pairwise_cons (a:=x)]
  constructor
  ·rintro⟨h1,h2⟩
   refine⟨fun z hz=>?_,h2⟩
   rcases List.mem_cons.1 hz with e | hz
   ·rw[e];exact h1
   exact htr _ _ _ h1 ((List.pairwise_cons.1 h2).1 z hz)
  rintro⟨h1,h2⟩
  exact⟨h1 y (by simp),h2⟩
theorem bp {ok:α->Bool}{lt:α->α->Bool}{l:List α}{K:Unit->Option ρ}{F:Option ρ}{body:(Unit->Option ρ)->α->Nat->Unit->Option ρ}(hl:l.length<=4611686018427387904)
  (h0 :∀next x,x∈l->body next x 0 ()=if ok x then next () else F)
  (h1 :∀next x y i,x∈l->y∈l->geti l (AI (((i+1:Nat):Int)-1))=some y->body next x (i+1) ()=if ok x&&lt y x then next () else F) :
  An K body l 0 ()=if l.all ok&&chainB lt l then K () else F:=by
 have key :∀(t p:List α) (y:α),l=p++y::t->An K body t (p.length+1) ()=if t.all ok&&chainB lt (y::t) then K () else F:=by
  intro t
  induction t with
  | nil=>intro p y _;rw[Qe];rfl
  | cons x t ih=>
   intro p y e
   show body (fun s=>An K body t (p.length+1+1) s) x (p.length+1) ()=_
   have hlen:p.length<l.length:=by rw[e];simp
   rw[h1 _ x y p.length (by rw[e];simp) (by rw[e];simp) (by
    rw[AP (by omega),show ((p.length+1:Nat):Int)-1=(p.length:Int) by omega,e]
    exact M6 p y (x::t))]
   have:=ih (p++[y]) x (by rw[e];simp)
   rw[X11,X22] at this
   rw[this,HB,List.all_cons]
   generalize chainB lt (x::t)=c1
   generalize t.all ok=c2
   cases ok x<;>cases lt y x<;>cases c1<;>cases c2<;>rfl
 match l,h0,h1,key with
 | [],_,_,_=>rfl
 | x::t,h0,_,key=>
  show body (fun s=>An K body t (0+1) s) x 0 ()=_
  rw[h0 _ x (by simp)]
  have:=key t [] x rfl
  rw[X13] at this
  rw[this,List.all_cons]
  generalize chainB lt (x::t)=c1
  generalize t.all ok=c2
  cases ok x<;>cases c1<;>cases c2<;>rfl
theorem e9 {σ:Type}{g:σ->α->σ}{ok:α->Bool}{lt:α->α->Bool}{l:List α}{s0:σ}{K:σ->Option ρ}{F:Option ρ}{body:(σ->Option ρ)->α->Nat->σ->Option ρ}(hl:l.length<=4611686018427387904)
  (h0 :∀next x s,x∈l->body next x 0 s=if ok x then next (g s x) else F)
  (h1 :∀next x y i s,x∈l->y∈l->geti l (AI (((i+1:Nat):Int)-1))=some y->body next x (i+1) s=if ok x&&lt y x then next (g s x) else F) :
  An K body l 0 s0=if l.all ok&&chainB lt l then K (l.foldl g s0) else F:=by
 have key :∀(t p:List α) (y:α) (s:σ),l=p++y::t->An K body t (p.length+1) s=if t.all ok&&chainB lt (y::t) then K (t.foldl g s) else F:=by
  intro t
  induction t with
  | nil=>intro p y s _;rw[Qe];rfl
  | cons x t ih=>
   intro p y s e
   show body (fun s=>An K body t (p.length+1+1) s) x (p.length+1) s=_
   have hlen:p.length<l.length:=by rw[e];simp
   rw[h1 _ x y p.length s (by rw[e];simp) (by rw[e];simp) (by
    rw[AP (by omega),show ((p.length+1:Nat):Int)-1=(p.length:Int) by omega,e]
    exact M6 p y (x::t))]
   have:=ih (p++[y]) x (g s x) (by rw[e];simp)
   rw[X11,X22] at this
   rw[this,HB,List.all_cons,List.foldl_cons]
   generalize chainB lt (x::t)=c1
   generalize t.all ok=c2
   cases ok x<;>cases lt y x<;>cases c1<;>cases c2<;>rfl
 match l,h0,h1,key with
 | [],_,_,_=>rfl
 | x::t,h0,_,key=>
  show body (fun s=>An K body t (0+1) s) x 0 s0=_
  rw[h0 _ x s0 (by simp)]
  have:=key t [] x (g s0 x) rfl
  rw[X13] at this
  rw[this,List.all_cons,List.foldl_cons]
  generalize chainB lt (x::t)=c1
  generalize t.all ok=c2
  cases ok x<;>cases c1<;>cases c2<;>rfl
theorem QE {β:Type}{g:β->List α}{N:Nat}{body:(List α->Option ρ)->β->Nat->List α->Option ρ}{K:List α->Option ρ} :∀{l:List β} {i:Nat} {v:List α},v.length+(l.flatMap g).length<=N->
  (∀next x i v,x∈l->v.length+(g x).length<=N->body next x i v=next (v++g x))->An K body l i v=K (v++l.flatMap g)
 | [],i,v,_,_=>by rw[List.flatMap_nil,List.append_nil];rfl
 | x::t,i,v,h,hb=>by
  rw[List.flatMap_cons,X11] at h
  show body (fun s=>An K body t (i+1) s) x i v=_
  rw[hb _ x i v (by simp) (by omega),QE (l:=t) (by rw[X11];omega) fun next y j w hy hw=>hb next y j w (X19 _ hy) hw,List.flatMap_cons,List.append_assoc]
def canon (e lt:α->α->Bool)(l:List α):List α:=l.foldl (fun acc x=>if acc.any (fun y=>e y x) then acc else FB lt acc x) []
theorem Ws (e lt:α->α->Bool)(l:List α)(x:α):canon e lt (l++[x])=if (canon e lt l).any (fun y=>e y x) then canon e lt l else FB lt (canon e lt l) x:=by
 unfold canon
 rw[List.foldl_append]
 rfl
theorem L6 {e lt:α->α->Bool}(he :∀a b,e a b=true↔a=b)(htr :∀a b c,lt a b=true->lt b c=true->lt a c=true)(htot :∀a b,lt a b=false->a=b\/lt b a=true)(l:List α) :
  (canon e lt l).Pairwise (fun a b=>lt a b=true)/\(∀x,x∈canon e lt l↔x∈l)/\(canon e lt l).length<=l.length:=by
 rw[<- List.reverse_reverse l]
 generalize l.reverse=m
 induction m with
 | nil=>exact⟨.nil,by simp[canon],by simp[canon]⟩
 | cons x t ih=>
  obtain⟨h1,h2,h3⟩:=ih
  rw[List.reverse_cons,Ws]
  by_cases hx:(canon e lt t.reverse).any (fun y=>e y x)=true
  ·rw[if_pos hx]
   obtain⟨y,hy,hyx⟩:=List.any_eq_true.1 hx
   have:=(he _ _).1 hyx
   subst this
   refine⟨h1,fun z=>?_,by simp only[X11];omega⟩
   rw[X23,h2 z,X14]
   refine⟨.inl,fun q=>q.elim id fun e=>?_⟩
   rw[e];exact (h2 _).1 hy
  rw[if_neg hx]
  have hx:x∉canon e lt t.reverse:=fun q=>hx (List.any_eq_true.2 ⟨x,q,(he _ _).2 rfl⟩)
  refine⟨IQ htr htot h1 hx,fun z=>?_,by rw[HA];simp only[X11,X22];omega⟩
  rw[D8,X23,h2 z,X14]
theorem I5 {e lt:α->α->Bool}(he :∀a b,e a b=true↔a=b)(hirr :∀a,lt a a=false)(htr :∀a b c,lt a b=true->lt b c=true->lt a c=true)(htot :∀a b,lt a b=false->a=b\/lt b a=true)
  {l r:List α} (h1:r.Pairwise fun a b=>lt a b=true) (h2 :∀x,x∈r↔x∈l):r=canon e lt l:=by
 obtain⟨g1,g2,_⟩:=L6 he htr htot l
 exact I8 (lt:=fun a b=>lt a b=true) (fun a h=>by rw[hirr] at h;simp at h) htr h1 g1 fun x=>(h2 x).trans (g2 x).symm
end
end Go.AX
end
section
namespace Go.AX.Q19
open Go Go.AX
theorem K9 (a b:Int):cmp_Compare_int a b=some (aO a b):=by
 unfold cmp_Compare_int cmp_isNaN_int aO
 simp only[AA,bne_self_eq_false,Bool.false_eq_true,if_false,decide_eq_true_eq,gt_iff_lt]
 split<;>(try split)<;>rfl
theorem aY (l:List Int):FK l=some (orI l):=by
 unfold FK
 rw[AB]
 have key :∀(l:List Int) (i:Nat),An (σ:=Unit) (fun _=>some (0:Int)) (fun next x _ _=>if (x != 0)=true then some x else next ()) l i ()=some (orI l):=by
  intro l
  induction l with
  | nil=>intro i;rfl
  | cons x t ih=>
   intro i
   show (if (x != 0)=true then some x else An _ _ t (i+1) ())=_
   rw[ih]
   rw[VD]
   by_cases h:x=0<;>simp[h]
 exact key l 0
def Qh (c:JAB):List Int:=[c.A,c.B]
def Qd (c:JAF):List Int:=[c.A,c.B,c.C]
theorem Q1 (a b:JAB):(Qh a).length=(Qh b).length:=rfl
theorem RB (a b:JAF):(Qd a).length=(Qd b).length:=rfl
theorem bD {a b:JAB}(h:Qh a=Qh b):a=b:=by
 simp only[Qh,List.cons.injEq,and_true] at h
 cases a;cases b;simp_all
theorem ay {a b:JAF}(h:Qd a=Qd b):a=b:=by
 simp only[Qd,List.cons.injEq,and_true] at h
 cases a;cases b;simp_all
def JO:JAB->JAB->Bool:=ltK Qh
def JA:JAF->JAF->Bool:=ltK Qd
theorem Qc (a:JAB):JO a a=false:=NF a
theorem QZ (a:JAF):JA a a=false:=NF a
theorem LG (a b c:JAB)(h1:JO a b=true)(h2:JO b c=true):JO a c=true:=N5 Q1 a b c h1 h2
theorem LH (a b c:JAF)(h1:JA a b=true)(h2:JA b c=true):JA a c=true:=N5 RB a b c h1 h2
theorem KB (a b:JAB)(h:JO a b=false):a=b\/JO b a=true:=(ND Q1 a b h).imp_left bD
theorem KY (a b:JAF)(h:JA a b=false):a=b\/JA b a=true:=(ND RB a b h).imp_left ay
theorem Yu (a b:JAB):JAB.eqd a b=true↔a=b:=by
 unfold JAB.eqd
 simp only[X27,Bool.and_true,beq_iff_eq]
 constructor
 ·rintro⟨h1,h2⟩;cases a;cases b;simp_all
 rintro rfl;exact⟨rfl,rfl⟩
theorem Yq (a b:JAF):JAF.eqd a b=true↔a=b:=by
 unfold JAF.eqd
 simp only[X27,Bool.and_true,beq_iff_eq]
 constructor
 ·rintro⟨h1,h2,h3⟩;cases a;cases b;simp_all
 rintro rfl;exact⟨rfl,rfl,rfl⟩
theorem Vn (a b:JAB):EA a b=some (FT (Qh a) (Qh b)):=by
 unfold EA
 rw[K9,AA,K9,AA,aY,AA,Md,Md]
 rfl
theorem VN (a b:JAF):CW a b=some (FT (Qd a) (Qd b)):=by
 unfold CW
 rw[K9,AA,K9,AA,K9,AA,aY,AA,Md,Md,Md]
 rfl
theorem Y7 (a b:JAB):BY a b=some (FT (Qh a) (Qh b)):=Vn a b
theorem Y0 (a b:JAF):Cc a b=some (FT (Qd a) (Qd b)):=VN a b
theorem Ut (a b:JAB):EU a b=some (JO a b):=by
 unfold EU JO ltK Qh
 rw[AB]
 simp only[FT,decide_eq_true_eq,beq_iff_eq,cond_true,cond_false]
 by_cases a1:a.A < b.A<;>by_cases a2:a.A=b.A<;>by_cases a3:b.A < a.A<;>by_cases b1:a.B < b.B<;>by_cases b3:b.B < a.B<;>first | (exfalso;omega)|simp[a1,a2,a3,b1,b3]
theorem Vs (a b:JAF):CG a b=some (JA a b):=by
 unfold CG JA ltK Qd
 simp only[AB]
 simp only[FT,decide_eq_true_eq,beq_iff_eq,cond_true,cond_false]
 by_cases a1:a.A < b.A<;>by_cases a2:a.A=b.A<;>by_cases a3:b.A < a.A<;>by_cases b1:a.B < b.B<;>by_cases b2:a.B=b.B<;>by_cases b3:b.B < a.B<;>by_cases c1:a.C < b.C<;>by_cases c3:b.C < a.C<;>first | (exfalso;omega)|simp[a1,a2,a3,b1,b2,b3,c1,c3]
def inR (m x:Int):Bool:=decide (0<=x)&&decide (x<=m)
def okC (c:JAB):Bool:=inR 65535 c.A&&inR 65535 c.B
def okL (c:JAF):Bool:=inR 4294967295 c.A&&(inR 4294967295 c.B&&inR 4294967295 c.C)
theorem SH (c:JAB):EO c=some (okC c):=by
 unfold EO okC inR
 rw[AB]
 simp only[decide_eq_true_eq,cond_true,ge_iff_le]
 by_cases a1:0<=c.A<;>by_cases a2:c.A<=65535<;>by_cases a3:0<=c.B<;>by_cases a4:c.B<=65535<;>simp[a1,a2,a3,a4]
theorem TB (c:JAF):CO c=some (okL c):=by
 unfold CO okL inR
 rw[AB]
 simp only[decide_eq_true_eq,cond_true,ge_iff_le]
 by_cases a1:0<=c.A<;>by_cases a2:c.A<=4294967295<;>by_cases a3:0<=c.B<;>by_cases a4:c.B<=4294967295<;>by_cases a5:0<=c.C<;>by_cases a6:c.C<=4294967295<;>simp[a1,a2,a3,a4,a5,a6]
theorem mmR {g:Int->Int->Int}{x:Int}{t:List Int}(hl:t.length<=1000000000) :
  AC (τ:=Int) (fun k2=>A7 (σ:=Int×Int) (fun next3 p=>match p with
   | (v4,v5)=>if (decide (v5<((x::t).length:Int)))=true then Option.bind (geti (x::t) v5) fun v6=>next3 (g v4 v6,(AI (v5+1))) else k2 v4) fuel (x,1)) (fun v=>some v)=some (t.foldl g x):=by
 rw[AB]
 refine (Da (fun s:Int×Int=>∃j:Nat,s.2=(j+1:Nat)/\j<=t.length) (fun s=>((x::t).length-s.2).toNat) (fun s=>some ((t.drop (s.2.toNat-1)).foldl g s.1)) ?_ fuel (x,1) ⟨0,rfl,Nat.zero_le _⟩ (CE (by simp;omega))).trans rfl
 rintro next ⟨m,i⟩ ⟨j,h1,h2⟩ hn
 dsimp only at h1
 subst h1
 dsimp only
 have e1:((j+1:Nat):Int).toNat-1=j:=by omega
 rw[e1]
 by_cases hj:j<t.length
 ·rw[if_pos (by simp only[X12,decide_eq_true_eq];omega),B8 (by simp;omega),AA,AP (by omega)]
  rw[hn _ ⟨j+1,by simp,by omega⟩ (by simp only[X12];omega)]
  have e2:(((j+1:Nat):Int)+1).toNat-1=j+1:=by omega
  simp only[e2,List.getElem_cons_succ]
  rw[List.drop_eq_getElem_cons hj,List.foldl_cons]
 rw[if_neg (by simp only[X12,decide_eq_true_eq];omega),List.drop_eq_nil_of_le (by omega)]
 rfl
def mn (a b:Int):Int:=if b<a then b else a
def mx (a b:Int):Int:=if b > a then b else a
theorem dt {x:Int}{t:List Int}(hl:t.length<=1000000000):Dn (x::t)=some (t.foldl mn x):=by
 unfold Dn
 rw[if_neg (by simp;omega),show geti (x::t) 0=some x from B8 (l:=x::t) (i:=0) (by simp),AA]
 exact mmR (g:=mn) hl
theorem eJ {x:Int}{t:List Int}(hl:t.length<=1000000000):Dm (x::t)=some (t.foldl mx x):=by
 unfold Dm
 rw[if_neg (by simp;omega),show geti (x::t) 0=some x from B8 (l:=x::t) (i:=0) (by simp),AA]
 exact mmR (g:=mx) hl
theorem aX (n:Int) :∀(t:List Int) (x:Int),decide (n<=t.foldl mn x)=(x::t).all fun y=>decide (n<=y)
 | [],x=>by rw[List.all_cons,List.all_nil,Bool.and_true];rfl
 | y::t,x=>by
  rw[List.foldl_cons,aX n t (mn x y)]
  simp only[List.all_cons]
  unfold mn
  rw[X28]
  simp only[X27,decide_eq_true_eq]
  constructor
  ·rintro⟨h1,h2⟩;split at h1<;>exact⟨by omega,by omega,h2⟩
  rintro⟨h1,h2,h3⟩;split<;>exact⟨by omega,h3⟩
theorem Zz (n:Int) :∀(t:List Int) (x:Int),decide (t.foldl mx x<=n)=(x::t).all fun y=>decide (y<=n)
 | [],x=>by rw[List.all_cons,List.all_nil,Bool.and_true];rfl
 | y::t,x=>by
  rw[List.foldl_cons,Zz n t (mx x y)]
  simp only[List.all_cons]
  unfold mx
  rw[X28]
  simp only[X27,decide_eq_true_eq]
  constructor
  ·rintro⟨h1,h2⟩;split at h1<;>exact⟨by omega,by omega,h2⟩
  rintro⟨h1,h2,h3⟩;split<;>exact⟨by omega,h3⟩
theorem QT {m x:Int}{t:List Int}(hl:t.length<=1000000000):Di m (x::t)=some ((x::t).all (inR m)):=by
 unfold Di
 rw[AB,dt hl,AA,eJ hl]
 have e:(x::t).all (inR m)=(decide (0<=t.foldl mn x)&&decide (t.foldl mx x<=m)):=by
  rw[aX,Zz,X28,X27]
  simp only[List.all_eq_true,inR,X27]
  exact⟨fun h=>⟨fun y hy=>(h y hy).1,fun y hy=>(h y hy).2⟩,fun h y hy=>⟨h.1 y hy,h.2 y hy⟩⟩
 rw[e]
 by_cases h:0<=t.foldl mn x
 ·rw[if_pos (by simpa using h),AA,decide_eq_true h];rfl
 rw[if_neg (by simpa using h),decide_eq_false h];rfl
theorem aM (c:JAB):Ew c=some (okC c):=by
 unfold Ew
 rw[QT (by simp),AA]
 simp[okC]
theorem Zc (c:JAF):DR c=some (okL c):=by
 unfold DR
 rw[QT (by simp),AA]
 simp[okL]
def EV (l:List JAB):Bool:=l.all okC&&chainB JO l&&decide (l.length<=64)
def ET (l:List JAF):Bool:=l.all okL&&chainB JA l&&decide (l.length<=64)
theorem cu {X:Type}{key:X->List Int}(a b:X):decide (FT (key a) (key b) ≥ 0)=!ltK key a b:=by
 unfold ltK
 rw[X28]
 simp
theorem cQ {α:Type}{ok:α->Bool}{lt:α->α->Bool}{l:List α}(hl:l.length<=1000000000){body:(Unit->Option Bool)->α->Nat->Unit->Option Bool}
  (h :∀next x i,body next x i ()=AC (τ:=Bool) (fun k5=>Option.bind (some (ok x)) fun v6=>if (!v6)=true then k5 true else if (decide ((i:Int) > 0))=true then Option.bind (geti l (AI ((i:Int)-1))) fun v7=>Option.bind (some (lt v7 x)) fun v8=>k5 (cond false true (cond true (!v8) false)) else k5 false) fun v9=>if v9=true then some false else next ()) :
  (AC (τ:=Unit) (fun k1=>An (σ:=Unit) (fun _=>k1 ()) body l 0 ()) fun _=>some (decide ((l.length:Int)<=64)))=some (l.all ok&&chainB lt l&&decide (l.length<=64)):=by
 rw[AB,bp (ok:=ok) (lt:=lt) (F:=some false) (by omega)]
 ·have e:decide ((l.length:Int)<=64)=decide (l.length<=64):=by rw[X28];simp;omega
  rw[e]
  generalize (l.all ok&&chainB lt l)=b
  cases b<;>rfl
 ·intro next x _
  rw[h,AB,AA]
  cases ok x<;>rfl
 intro next x y i _ _ hg
 rw[h,AB,AA,hg,AA,AA,if_pos (show decide (((i+1:Nat):Int) > 0)=true by simp)]
 cases ok x<;>cases lt y x<;>rfl
theorem KT {l:List JAB}(hl:l.length<=1000000000):E9 l=some (EV l):=by
 unfold E9 EV
 exact cQ hl fun next x i=>by simp only[SH,Ut]
theorem HU {l:List JAF}(hl:l.length<=1000000000):Ci l=some (ET l):=by
 unfold Ci ET
 exact cQ hl fun next x i=>by simp only[TB,Vs]
theorem H5 {l:List JAB}(hl:l.length<=1000000000):DN l=some (EV l):=by
 unfold DN Ag EV
 rw[cQ (ok:=okC) (lt:=JO) hl fun next x i=>by simp only[aM,Vn,AA,cu];rfl]
 rfl
theorem GA {l:List JAF}(hl:l.length<=1000000000):Bg l=some (ET l):=by
 unfold Bg Ab ET
 rw[cQ (ok:=okL) (lt:=JA) hl fun next x i=>by simp only[Zc,VN,AA,cu];rfl]
 rfl
theorem Ez {l:List JAB}:EV l=true↔(∀c∈l,okC c=true)/\(l.Pairwise fun a b=>JO a b=true)/\l.length<=64:=by
 unfold EV
 rw[X27,X27,Hh LG,List.all_eq_true,decide_eq_true_eq,and_assoc]
theorem FD {l:List JAF}:ET l=true↔(∀c∈l,okL c=true)/\(l.Pairwise fun a b=>JA a b=true)/\l.length<=64:=by
 unfold ET
 rw[X27,X27,Hh LH,List.all_eq_true,decide_eq_true_eq,and_assoc]
theorem eG {α:Type}{e:α->α->Bool}{x:α} :∀(l:List α) (i:Nat),An (σ:=Unit) (fun _=>some false) (fun (next:Unit->Option Bool) (y:α) _ _=>if e y x=true then some true else next ()) l i ()=some (l.any fun y=>e y x)
 | [],_=>rfl
 | y::t,i=>by
  show (if e y x=true then some true else An _ _ t (i+1) ())=_
  rw[eG t (i+1),List.any_cons]
  cases e y x<;>rfl
theorem UB (l:List JAB)(c:JAB):Gm l c=some (l.any fun y=>JAB.eqd y c):=by
 unfold Gm
 rw[AB]
 exact eG l 0
theorem MW (l:List JAF)(c:JAF):Dp l c=some (l.any fun y=>JAF.eqd y c):=by
 unfold Dp
 rw[AB]
 exact eG l 0
theorem Q4 {α:Type}{l:List α}{n:Nat}(h:n<=l.length):part l 0 (n:Int)=some (l.take n):=by
 have:=EX (l:=l) (a:=0) (b:=n) (by omega) h
 simpa using this
theorem G3 {α:Type}{l:List α}{n:Nat}(h:n<=l.length):part l (n:Int) (l.length:Int)=some (l.drop n):=by
 rw[EX h (Nat.le_refl _),List.take_of_length_le (by simp)]
theorem Q0 {α:Type}{b:Nat}{lt:α->α->Bool}{l:List α}{x:α}(hb:Nat.ble b 65536=true)(hl:l.length+1<=1000000000){ρ:Type}{K:List α->Option ρ} :
  (Option.bind (part l 0 ((l.takeWhile (lt · x)).length:Int)) fun v14=>Option.bind (apnd (α:=α) b [] v14) fun _=>Option.bind (apnd (α:=α) b v14 ([x]:List α)) fun v15=>Option.bind (part l ((l.takeWhile (lt · x)).length:Int) (l.length:Int)) fun v16=>Option.bind (apnd (α:=α) b v15 v16) K)=K (FB lt l x):=by
 have ht:=GY (lt · x) l
 obtain⟨h1,h2⟩:=takeWhile_take (lt · x) l
 rw[Q4 (by omega),AA,AO hb (by simp;omega),AA,AO hb (by simp;omega),AA,G3 (by omega),AA,AO hb (by simp;omega),AA,h1,h2]
 unfold FB
 simp
def W4:List JAB->List JAB:=canon JAB.eqd JO
def XK:List JAF->List JAF:=canon JAF.eqd JA
theorem UG {l:List JAB}{c:JAB}(hv:EV l=true)(hc:okC c=true)(hl:l.length<64):Ik l c=some (if l.any (fun y=>JAB.eqd y c)=true then l else FB JO l c,0):=by
 unfold Ik
 rw[AB,KT (by omega),AA,hv,if_neg (by decide),SH,AA,hc]
 show (if (bif false then true else !true)=true then _ else _)=_
 rw[if_neg (by decide),UB,AA]
 by_cases h:(l.any fun y=>JAB.eqd y c)=true
 ·rw[if_pos h,if_pos h,AO (by decide) (by simp;omega),AA]
 rw[if_neg h,if_neg h,if_neg (by simp;omega)]
 rw[cY (p:=(JO · c)) (fun y k9=>Option.bind (EU y c) fun v11=>k9 (cond true v11 false)) (by omega) (fun y _ k=>by rw[Ut];rfl)]
 exact Q0 (K:=fun v17=>some (v17,0)) (by decide) (by omega)
theorem M7 {l:List JAF}{c:JAF}(hv:ET l=true)(hc:okL c=true)(hl:l.length<64):Et l c=some (if l.any (fun y=>JAF.eqd y c)=true then l else FB JA l c,0):=by
 unfold Et
 rw[AB,HU (by omega),AA,hv,if_neg (by decide),TB,AA,hc]
 show (if (bif false then true else !true)=true then _ else _)=_
 rw[if_neg (by decide),MW,AA]
 by_cases h:(l.any fun y=>JAF.eqd y c)=true
 ·rw[if_pos h,if_pos h,AO (by decide) (by simp;omega),AA]
 rw[if_neg h,if_neg h,if_neg (by simp;omega)]
 rw[cY (p:=(JA · c)) (fun y k9=>Option.bind (CG y c) fun v11=>k9 (cond true v11 false)) (by omega) (fun y _ k=>by rw[Vs];rfl)]
 exact Q0 (K:=fun v17=>some (v17,0)) (by decide) (by omega)
theorem Ss (l:List JAB):(W4 l).Pairwise (fun a b=>JO a b=true)/\(∀x,x∈W4 l↔x∈l)/\(W4 l).length<=l.length:=L6 Yu LG KB l
theorem S5 (l:List JAF):(XK l).Pairwise (fun a b=>JA a b=true)/\(∀x,x∈XK l↔x∈l)/\(XK l).length<=l.length:=L6 Yq LH KY l
theorem Qs {l:List JAB}(h :∀c∈l,okC c=true)(hl:l.length<=64):EV (W4 l)=true:=by
 obtain⟨h1,h2,h3⟩:=Ss l
 exact Ez.2 ⟨fun c hc=>h c ((h2 c).1 hc),h1,by omega⟩
theorem QN {l:List JAF}(h :∀c∈l,okL c=true)(hl:l.length<=64):ET (XK l)=true:=by
 obtain⟨h1,h2,h3⟩:=S5 l
 exact FD.2 ⟨fun c hc=>h c ((h2 c).1 hc),h1,by omega⟩
theorem Rr {l:List JAB}(hl:l.length<=1000000){ρ:Type}{K:List JAB->Option ρ}:(Option.bind (EP BY l) fun v=>Option.bind (Au v) K)=K (W4 l):=by
 obtain⟨r,h,h1,h2⟩:=NN Q1 Y7 (l:=l) (by omega)
 rw[h,AA]
 obtain⟨c,g,g1,g2⟩:=Kw (lt:=JO) (e:=JAB.eqd) (zz:=⟨0,0⟩) Qc LG KB Yu (l:=r) h2 (by rw[h1.length_eq];omega)
 have e:Au r=Jx JAB.eqd ⟨0,0⟩ r:=rfl
 rw[e,g,AA,I5 (l:=l) Yu Qc LG KB g1 fun x=>(g2 x).trans h1.mem_iff]
 rfl
theorem R9 {l:List JAF}(hl:l.length<=1000000){ρ:Type}{K:List JAF->Option ρ}:(Option.bind (EP Cc l) fun v=>Option.bind (BB v) K)=K (XK l):=by
 obtain⟨r,h,h1,h2⟩:=NN RB Y0 (l:=l) (by omega)
 rw[h,AA]
 obtain⟨c,g,g1,g2⟩:=Kw (lt:=JA) (e:=JAF.eqd) (zz:=⟨0,0,0⟩) QZ LH KY Yq (l:=r) h2 (by rw[h1.length_eq];omega)
 have e:BB r=Jx JAF.eqd ⟨0,0,0⟩ r:=rfl
 rw[e,g,AA,I5 (l:=l) Yq QZ LH KY g1 fun x=>(g2 x).trans h1.mem_iff]
 rfl
def comms:List UInt8->List JAB
 | a::b::c::d::t=>⟨Ea [a,b],Ea [c,d]⟩::comms t
 | _=>[]
def Ce:List Int->List JAF
 | a::b::c::t=>⟨a,b,c⟩::Ce t
 | _=>[]
theorem MJ (a b c d:UInt8)(t:List UInt8):comms (a::b::c::d::t)=⟨Ea [a,b],Ea [c,d]⟩::comms t:=rfl
theorem Kv (a b c:Int)(t:List Int):Ce (a::b::c::t)=⟨a,b,c⟩::Ce t:=rfl
theorem Oh :∀l:List UInt8,(comms l).length=l.length/4
 | a::b::c::d::t=>by
  rw[MJ,X12,Oh t]
  simp only[X12]
  omega
 | []=>rfl
 | [_]=>by simp[comms]
 | [_,_]=>by simp[comms]
 | [_,_,_]=>by simp[comms]
theorem L8 :∀l:List Int,(Ce l).length=l.length/3
 | a::b::c::t=>by
  rw[Kv,X12,L8 t]
  simp only[X12]
  omega
 | []=>rfl
 | [_]=>by simp[Ce]
 | [_,_]=>by simp[Ce]
theorem Vj (a b:UInt8):0<=Ea [a,b]/\Ea [a,b]<=65535:=by
 have:=Lr [a,b]
 rw[GN (by simp)]
 simp only[X12,X13] at this
 omega
theorem QU :∀(l:List UInt8),∀c∈comms l,okC c=true
 | a::b::c::d::t=>by
  rw[MJ]
  intro x hx
  rcases List.mem_cons.1 hx with rfl | hx
  ·have h1:=Vj a b
   have h2:=Vj c d
   simp[okC,inR,h1,h2]
  exact QU t x hx
 | []=>by intro n h;simp[comms] at h
 | [_]=>by intro n h;simp[comms] at h
 | [_,_]=>by intro n h;simp[comms] at h
 | [_,_,_]=>by intro n h;simp[comms] at h
theorem Ny :∀(l:List Int),(∀n∈l,0<=n/\n<=4294967295)->∀c∈Ce l,okL c=true
 | a::b::c::t,h=>by
  rw[Kv]
  intro x hx
  rcases List.mem_cons.1 hx with rfl | hx
  ·have h1:=h a (by simp)
   have h2:=h b (by simp)
   have h3:=h c (by simp)
   simp[okL,inR,h1,h2,h3]
  exact Ny t (fun n hn=>h n (by simp[hn])) x hx
 | [],_=>by intro n h;simp[Ce] at h
 | [_],_=>by intro n h;simp[Ce] at h
 | [_,_],_=>by intro n h;simp[Ce] at h
theorem dS (a b c d:UInt8):Int.fdiv (Ea [a,b,c,d]) (2^(min (Int.toNat 16) 64))=Ea [a,b]/\AI ((BitVec.ofInt 64 (Ea [a,b,c,d]) &&& BitVec.ofInt 64 65535).toNat:Int)=Ea [c,d]:=by
 have h1:=a.toNat_lt
 have h2:=b.toNat_lt
 have h3:=c.toNat_lt
 have h4:=d.toNat_lt
 rw[GN (by simp),GN (by simp),GN (by simp)]
 have v4:val [a,b,c,d]=((a.toNat*256+b.toNat)*256+c.toNat)*256+d.toNat:=by simp[val]
 have v2:val [a,b]=a.toNat*256+b.toNat:=by simp[val]
 have v2':val [c,d]=c.toNat*256+d.toNat:=by simp[val]
 rw[v4,v2,v2']
 constructor
 ·have e:((2:Int)^(min (Int.toNat 16) 64))=65536:=rfl
  rw[e,Int.fdiv_eq_ediv_of_nonneg _ (by omega)]
  omega
 have e:BitVec.ofInt 64 65535=BitVec.ofNat 64 (2^16-1):=rfl
 rw[BitVec.ofInt_natCast,e,BitVec.toNat_and,BitVec.toNat_ofNat,BitVec.toNat_ofNat,Nat.mod_eq_of_lt (show ((a.toNat*256+b.toNat)*256+c.toNat)*256+d.toNat<2^64 by omega),Nat.mod_eq_of_lt (show 2^16-1<2^64 by decide),Nat.and_two_pow_sub_one_eq_mod]
 rw[AP (by omega)]
 omega
theorem Lc :∀(l:List UInt8),(nums l).map (fun n=>(⟨Int.fdiv n (2^(min (Int.toNat 16) 64)),AI ((BitVec.ofInt 64 n &&& BitVec.ofInt 64 65535).toNat:Int)⟩:JAB))=comms l
 | a::b::c::d::t=>by
  rw[LE,MJ,List.map_cons,Lc t]
  obtain⟨h1,h2⟩:=dS a b c d
  rw[h1,h2]
 | []=>rfl
 | [_]=>rfl
 | [_,_]=>rfl
 | [_,_,_]=>rfl
theorem eM {n:List Int}{ρ:Type}{K:List JAF->Option ρ}(h1:n.length%3=0)(h2:n.length<=1000000) :
  AC (τ:=List JAF) (fun k130=>A7 (σ:=(List JAF)×(List Int)) (fun next131 p=>match p with
   | (v132,v133)=>if (decide ((v133.length:Int) > 0))=true then
     Option.bind (geti v133 0) fun v134=>
     Option.bind (geti v133 1) fun v135=>
     Option.bind (geti v133 2) fun v136=>
     Option.bind (apnd (α:=JAF) 24 v132 ([(⟨v134,v135,v136⟩:JAF)]:List JAF)) fun v137=>
     Option.bind (part v133 3 (v133.length:Int)) fun v138=>
     next131 (v137,v138)
    else k130 v132) fuel ([],n)) K=K (Ce n):=by
 rw[AB]
 refine (Da (fun s:List JAF×List Int=>s.2.length%3=0/\s.1.length+s.2.length<=1000000) (fun s=>s.2.length) (fun s=>K (s.1++Ce s.2)) ?_ fuel ([],n) ⟨h1,by simpa using h2⟩ (CE (by simp only;omega))).trans rfl
 rintro next ⟨o,v⟩ ⟨g1,g2⟩ hn
 dsimp only at g1 g2 ⊢
 match v,g1,g2,hn with
 | [],_,_,_=>simp[Ce]
 | [_],g1,_,_=>simp at g1
 | [_,_],g1,_,_=>simp at g1
 | a::b::c::t,g1,g2,hn=>
  simp only[X12] at g1 g2
  have e1:geti (a::b::c::t) 0=some a:=B8 (l:=a::b::c::t) (i:=0) (by simp)
  have e2:geti (a::b::c::t) 1=some b:=B8 (l:=a::b::c::t) (i:=1) (by simp)
  have e3:geti (a::b::c::t) 2=some c:=B8 (l:=a::b::c::t) (i:=2) (by simp)
  have e4:part (a::b::c::t) 3 ((a::b::c::t).length:Int)=some t:=G3 (l:=a::b::c::t) (n:=3) (by simp)
  rw[if_pos (by simp;omega),e1,AA,e2,AA,e3,AA,AO (by decide) (by simp;omega),AA,e4,AA,hn _ ⟨by simp only;omega,by simp;omega⟩ (by simp only[X12];omega),Kv]
  simp
end Go.AX.Q19
end
section
end
section
namespace Go.AX.Q19
open Go Go.AX
def toP (a:JAD):Int×Bool×UInt64×UInt64×Int×Int×Int×(List JAE)×(List JAB)×(List JAF):=(a.Origin,a.Next.V6,a.Next.Hi,a.Next.Lo,a.MED,a.Pref,a.OTC,a.Path,a.Communities,a.JAF)
def Lq (p:List JAE):Bool:=(E0 p).getD false
def Ko (d:List UInt8):Option Int:=if d.length=1/\Ea d<=2 then some (Ea d) else none
def ON (d:List UInt8):Option (List JAE):=(rdL d []).bind fun p=>if Lq p=true then some p else none
def addrOf (d:List UInt8):Addr:=((A5 d).getD (⟨false,0,0⟩,0)).1
def RA (d:List UInt8):Option Addr:=if d.length=4 then some (addrOf d) else none
def rd4 (d:List UInt8):Option Int:=if d.length=4 then some (Ea d) else none
def V5 (d:List UInt8):Option Int:=if d.length=4/\Ea d≠0 then some (Ea d) else none
def OY (d:List UInt8):Option (List JAB):=if d.length≠0/\d.length%4=0/\d.length/4<=64 then some (W4 (comms d)) else none
def JS (d:List UInt8):Option (List JAF):=if d.length≠0/\d.length%12=0/\d.length/12<=64 then some (XK (Ce (nums d))) else none
def Iw (a:JAD)(t:Int)(d:List UInt8):Option JAD:=
 if t=1 then (Ko d).map fun v=>{ a with Origin:=v } else
 if t=2 then (ON d).map fun v=>{ a with Path:=v } else
 if t=3 then (RA d).map fun v=>{ a with Next:=v } else
 if t=4 then (rd4 d).map fun v=>{ a with MED:=v } else
 if t=5 then (rd4 d).map fun v=>{ a with Pref:=v } else
 if t=8 then (OY d).map fun v=>{ a with Communities:=v } else
 if t=32 then (JS d).map fun v=>{ a with JAF:=v } else
 if t=35 then (V5 d).map fun v=>{ a with OTC:=v } else some a
def stepS (a:JAD)(x:JAA):Option JAD:=if fl x.Type_=0 then some a else if FG x=true then Iw a x.Type_ x.Data else none
theorem UE (d:List UInt8):CY d=A5 d:=rfl
instance (a0:List UInt8):Tt (A5 a0):=by unfold A5;exact Tt.auto
theorem Ym (d:List UInt8) :∃e,A5 d=some (addrOf d,e):=by
 have h :∃r,A5 d=some r:=Tt.h
 obtain⟨⟨r,e⟩,h⟩:=h
 refine⟨e,?_⟩
 unfold addrOf
 rw[h];rfl
theorem LA {d:List UInt8}(h:d.length=4):0<=Ea d/\Ea d<=4294967295:=by
 have:=Lr d
 rw[GN (by omega)]
 rw[h] at this
 omega
section
variable {ρ:Type} {F:Option ρ} {next:Int×Bool×UInt64×UInt64×Int×Int×Int×(List JAE)×(List JAB)×(List JAF)->Option ρ} {x:JAA} {a:JAD}
theorem cI (h:x.Type_=1)(e:fl x.Type_=64):Ej F next x (toP a)=match stepS a x with | none=>F | some a'=>next (toP a'):=by
 unfold Ej toP stepS Iw Ko
 dsimp only
 rw[AB,if_pos (by rw[h];rfl),AB,Bi x (by rw[e];decide),if_neg (by rw[e];decide)]
 simp only[AB,AA,Cm,h,if_true]
 have e1:((x.Data.length:Int)==1)=decide (x.Data.length=1):=by rw[X28];simp;omega
 rw[e1]
 cases hr:FG x<;>by_cases h1:x.Data.length=1<;>by_cases h2:Ea x.Data<=2<;>simp[h1,h2]
theorem bO (h:x.Type_=3)(e:fl x.Type_=64):Ej F next x (toP a)=match stepS a x with | none=>F | some a'=>next (toP a'):=by
 unfold Ej toP stepS Iw RA
 dsimp only
 obtain⟨er,he⟩:=Ym x.Data
 rw[AB,if_neg (by rw[h];decide),if_neg (by rw[h];decide),if_pos (by rw[h];rfl),AB,Bi x (by rw[e];decide),if_neg (by rw[e];decide),h]
 simp only[AB,AA,he]
 have e1:((x.Data.length:Int)==4)=decide (x.Data.length=4):=by rw[X28];simp;omega
 rw[e1]
 cases hr:FG x<;>by_cases h1:x.Data.length=4<;>simp[h1]
theorem cX (h:x.Type_=4)(e:fl x.Type_=128):Ej F next x (toP a)=match stepS a x with | none=>F | some a'=>next (toP a'):=by
 unfold Ej toP stepS Iw rd4
 dsimp only
 rw[AB,if_neg (by rw[h];decide),if_neg (by rw[h];decide),if_neg (by rw[h];decide),if_pos (by rw[h];rfl),AB,Bi x (by rw[e];decide),if_neg (by rw[e];decide),h]
 simp only[AB,AA,Cm]
 have e1:((x.Data.length:Int)==4)=decide (x.Data.length=4):=by rw[X28];simp;omega
 rw[e1]
 cases hr:FG x<;>by_cases h1:x.Data.length=4<;>simp[h1]
theorem bj (h:x.Type_=5)(e:fl x.Type_=64):Ej F next x (toP a)=match stepS a x with | none=>F | some a'=>next (toP a'):=by
 unfold Ej toP stepS Iw rd4
 dsimp only
 rw[AB,if_neg (by rw[h];decide),if_neg (by rw[h];decide),if_neg (by rw[h];decide),if_neg (by rw[h];decide),if_pos (by rw[h];rfl),AB,Bi x (by rw[e];decide),if_neg (by rw[e];decide),h]
 simp only[AB,AA,Cm]
 have e1:((x.Data.length:Int)==4)=decide (x.Data.length=4):=by rw[X28];simp;omega
 rw[e1]
 cases hr:FG x<;>by_cases h1:x.Data.length=4<;>simp[h1]
theorem Zt (h:x.Type_=35)(e:fl x.Type_=192):Ej F next x (toP a)=match stepS a x with | none=>F | some a'=>next (toP a'):=by
 unfold Ej toP stepS Iw V5
 dsimp only
 rw[AB,if_neg (by rw[h];decide),if_neg (by rw[h];decide),if_neg (by rw[h];decide),if_neg (by rw[h];decide),if_neg (by rw[h];decide),if_neg (by rw[h];decide),if_neg (by rw[h];decide),if_pos (by rw[h];rfl),AB,Bi x (by rw[e];decide),if_neg (by rw[e];decide),h]
 simp only[AB,AA,Cm,number_eq]
 have e1:((x.Data.length:Int)==4)=decide (x.Data.length=4):=by rw[X28];simp;omega
 rw[e1]
 by_cases h1:x.Data.length=4
 ·have hg:=LA h1
  have h3:decide (1<=Ea x.Data)=decide (Ea x.Data≠0):=by rw[X28];simp;omega
  have h4:decide (Ea x.Data<=4294967295)=true:=decide_eq_true hg.2
  rw[h3,h4]
  cases hr:FG x<;>by_cases h2:Ea x.Data=0<;>simp[h1,h2]
 cases hr:FG x<;>simp[h1]
theorem bu (h:x.Type_≠1/\x.Type_≠2/\x.Type_≠3/\x.Type_≠4/\x.Type_≠5/\x.Type_≠8/\x.Type_≠32/\x.Type_≠35)(e:fl x.Type_=0):Ej F next x (toP a)=match stepS a x with | none=>F | some a'=>next (toP a'):=by
 obtain⟨h1,h2,h3,h4,h5,h6,h7,h8⟩:=h
 unfold Ej toP stepS
 dsimp only
 rw[AB,if_neg (by simpa using h1),if_neg (by simpa using h2),if_neg (by simpa using h3),if_neg (by simpa using h4),if_neg (by simpa using h5),if_neg (by simpa using h6),if_neg (by simpa using h7),if_neg (by simpa using h8),if_pos e]
theorem fU {α β ρ:Type}{g:β->α}{b:Nat}{K:List α->Option ρ}(hb:Nat.ble b 65536=true) :∀(l:List β) (i:Nat) (acc:List α),acc.length+l.length<=1000000000->An K (fun next x _ v=>Option.bind (apnd (α:=α) b v ([g x]:List α)) fun v'=>next v') l i acc=K (acc++l.map g)
 | [],i,acc,_=>by rw[List.map_nil,List.append_nil];rfl
 | x::t,i,acc,h=>by
  simp only[X12] at h
  show (Option.bind (apnd (α:=α) b acc ([g x]:List α)) fun v'=>An K _ t (i+1) v')=_
  rw[AO hb (by simp;omega),AA,fU hb t (i+1) _ (by simp;omega)]
  simp
theorem bH (hd:x.Data.length<=1000000)(h:x.Type_=8)(e:fl x.Type_=192):Ej F next x (toP a)=match stepS a x with | none=>F | some a'=>next (toP a'):=by
 have er :∀d,Iw a 8 d=(OY d).map fun v=>{ a with Communities:=v }:=fun _=>rfl
 unfold Ej toP stepS
 dsimp only
 rw[AB,if_neg (by rw[h];decide),if_neg (by rw[h];decide),if_neg (by rw[h];decide),if_neg (by rw[h];decide),if_neg (by rw[h];decide),if_pos (by rw[h];rfl),AB,Bi x (by rw[e];decide),if_neg (by rw[e];decide),h,AA]
 by_cases hr:FG x=true
 rotate_left
 ·have hr:FG x=false:=by simpa using hr
  rw[hr]
  rfl
 have hl:=Oh x.Data
 have hc:=Ss (comms x.Data)
 rw[hr,if_neg (by decide),AB,FA (by omega),AA,AB,fU (by decide) _ _ _ (by rw[HF];simp;omega),Lc,List.nil_append,er]
 unfold OY
 show AC _ _=_
 rw[AB]
 have e1:((Int.tmod (x.Data.length:Int) 4)==0)=decide (x.Data.length%4=0):=by
  rw[Int.tmod_eq_emod_of_nonneg (by omega),X28];simp;omega
 have e2 :∀K:Bool->Option ρ,(AC (τ:=Bool) (fun k113=>if (decide (((comms x.Data).length:Int) > 0))=true then k113 (cond true (decide (((comms x.Data).length:Int)<=64)) false) else k113 false) K)=K (decide (0<(comms x.Data).length/\(comms x.Data).length<=64)):=by
  intro K
  rw[AB]
  by_cases g1:0 < (comms x.Data).length<;>by_cases g2:(comms x.Data).length<=64<;>simp[g1,g2]<;>first | (intro;omega)|(rw[decide_eq_true (by omega)])|(rw[decide_eq_false (by omega)])|omega
 rw[e2,Rr (by omega)]
 simp only[AB,e1]
 by_cases g:x.Data.length≠0/\x.Data.length%4=0/\x.Data.length/4<=64
 ·rw[if_pos g,decide_eq_true (show 0<(comms x.Data).length/\(comms x.Data).length<=64 by omega),if_pos rfl,if_pos (by rw[decide_eq_true g.2.1];rfl),H5 (by omega),Qs (QU _) (by omega)]
  rfl
 rw[if_neg g]
 by_cases g1:0<(comms x.Data).length/\(comms x.Data).length<=64
 ·rw[decide_eq_true g1,if_pos rfl,if_neg (by rw[decide_eq_false (by omega)];decide)]
  rfl
 rw[decide_eq_false g1,if_neg (by decide)]
 rfl
theorem ZX (hd:x.Data.length<=1000000)(h:x.Type_=32)(e:fl x.Type_=192):Ej F next x (toP a)=match stepS a x with | none=>F | some a'=>next (toP a'):=by
 have er :∀d,Iw a 32 d=(JS d).map fun v=>{ a with JAF:=v }:=fun _=>rfl
 unfold Ej toP stepS
 dsimp only
 rw[AB,if_neg (by rw[h];decide),if_neg (by rw[h];decide),if_neg (by rw[h];decide),if_neg (by rw[h];decide),if_neg (by rw[h];decide),if_neg (by rw[h];decide),if_pos (by rw[h];rfl),AB,Bi x (by rw[e];decide),if_neg (by rw[e];decide),h,AA]
 by_cases hr:FG x=true
 rotate_left
 ·have hr:FG x=false:=by simpa using hr
  rw[hr]
  rfl
 have e1:((Int.tmod (x.Data.length:Int) 12) != 0)=!decide (x.Data.length%12=0):=by
  rw[Int.tmod_eq_emod_of_nonneg (by omega),X28];simp;omega
 rw[hr,if_neg (by decide),AB,e1]
 by_cases g1:x.Data.length%12=0
 rotate_left
 ·rw[decide_eq_false g1,if_pos rfl,er]
  unfold JS
  rw[if_neg (show ¬ (x.Data.length≠0/\x.Data.length%12=0/\x.Data.length/12<=64) by omega)]
  rfl
 have hl:=L8 (nums x.Data)
 rw[HF] at hl
 have hc:=S5 (Ce (nums x.Data))
 rw[decide_eq_true g1,if_neg (by decide),FA (by omega),AA,eM (by rw[HF];omega) (by rw[HF];omega),er]
 unfold JS
 show AC _ _=_
 rw[AB]
 have e2 :∀K:Bool->Option ρ,(AC (τ:=Bool) (fun k113=>if (decide (((Ce (nums x.Data)).length:Int) > 0))=true then k113 (cond true (decide (((Ce (nums x.Data)).length:Int)<=64)) false) else k113 false) K)=K (decide (0<(Ce (nums x.Data)).length/\(Ce (nums x.Data)).length<=64)):=by
  intro K
  rw[AB]
  by_cases g1:0 < (Ce (nums x.Data)).length<;>by_cases g2:(Ce (nums x.Data)).length<=64<;>simp[g1,g2]<;>first | (intro;omega)|(rw[decide_eq_true (by omega)])|(rw[decide_eq_false (by omega)])|omega
 rw[e2,R9 (by omega)]
 simp only[AB]
 by_cases g:x.Data.length≠0/\x.Data.length%12=0/\x.Data.length/12<=64
 ·rw[if_pos g,decide_eq_true (show 0<(Ce (nums x.Data)).length/\(Ce (nums x.Data)).length<=64 by omega),if_pos rfl,GA (by omega),QN (Ny _ (P5 _)) (by omega)]
  rfl
 rw[if_neg g,decide_eq_false (show ¬ (0<(Ce (nums x.Data)).length/\(Ce (nums x.Data)).length<=64) by omega),if_neg (by decide)]
 rfl
end
end Go.AX.Q19
end
section
namespace Go.AX.Q19
open Go Go.AX
def KQ (n:Int):Bool:=decide (1<=n)&&decide (n<=4294967295)
def Ox (s:JAE):Bool:=decide (s.ASNs.length≠0)&&(s.ASNs.all KQ&&chainB (fun a b=>!s.Set || ltI a b) s.ASNs)
def sgl (a b:JAE):Bool:=b.Set || a.Set
def tot (p:List JAE):Nat:=p.foldl (fun n s=>n+s.ASNs.length) 0
theorem ZQ (p:List JAE)(n:Nat):p.foldl (fun n s=>n+s.ASNs.length) n=n+tot p:=by
 unfold tot
 induction p generalizing n with
 | nil=>rfl
 | cons s t ih=>rw[List.foldl_cons,List.foldl_cons,ih,ih (0+_)];omega
theorem EY (s:JAE)(p:List JAE):tot (s::p)=s.ASNs.length+tot p:=by
 conv=>lhs;unfold tot
 rw[List.foldl_cons,ZQ];omega
theorem NM (p q:List JAE):tot (p++q)=tot p+tot q:=by
 induction p with
 | nil=>rw[List.nil_append];exact (Nat.zero_add _).symm
 | cons s t ih=>rw[List.cons_append,EY,EY,ih];omega
theorem Xy {p:List JAE}{s:JAE}(h:s∈p):s.ASNs.length<=tot p:=by
 induction p with
 | nil=>simp at h
 | cons x t ih=>
  rw[EY]
  rcases List.mem_cons.1 h with rfl | h
  ·omega
  have:=ih h;omega
def F5 (p:List JAE):Bool:=p.all Ox&&chainB sgl p&&decide (tot p<=64)
theorem YO :∀(p:List JAE) (n:Nat),n+tot p<=1000000000->p.foldl (fun (v:Int) s=>AI (v+(s.ASNs.length:Int))) (n:Int)=((n+tot p:Nat):Int)
 | [],n,_=>rfl
 | s::t,n,h=>by
  rw[EY] at h
  rw[List.foldl_cons,EY,AP (by omega),show (n:Int)+(s.ASNs.length:Int)=((n+s.ASNs.length:Nat):Int) by omega,YO t _ (by omega)]
  congr 1
  omega
theorem YT {s:JAE}(hl:s.ASNs.length<=1000000000){K:Unit->Option Bool}{body:(Unit->Option Bool)->Int->Nat->Unit->Option Bool}
  (hb :∀next x i,body next x i ()=AC (τ:=Bool) (fun k14=>if (!KQ x)=true then k14 true else if s.Set=true then if (cond true (decide ((i:Int) > 0)) false)=true then Option.bind (geti s.ASNs (AI ((i:Int)-1))) fun v15=>k14 (cond false true (cond true (decide (v15 ≥ x)) false)) else k14 false else k14 false) fun v16=>if v16=true then some false else next ()) :
  An K body s.ASNs 0 ()=if s.ASNs.all KQ&&chainB (fun a b=>!s.Set || ltI a b) s.ASNs then K () else some false:=by
 refine bp (by omega) (fun next x _=>?_) fun next x y i _ _ hg=>?_
 ·rw[hb,AB]
  cases KQ x<;>cases s.Set<;>rfl
 rw[hb,AB,hg,AA]
 have e:decide (((i+1:Nat):Int) > 0)=true:=by simp
 have e2:decide (y ≥ x)=!ltI y x:=by unfold ltI;rw[X28];simp
 rw[e,e2]
 cases KQ x<;>cases s.Set<;>cases ltI y x<;>rfl
theorem TS {p:List JAE}(hl:p.length<=1000000000)(ht:tot p<=1000000000){body:(Int->Option Bool)->JAE->Nat->Int->Option Bool}{inner:JAE->(Unit->Option Bool)->Int->Nat->Unit->Option Bool}
  (hb :∀next x i v,body next x i v=AC (τ:=Unit) (fun k6=>AC (τ:=Bool) (fun k7=>if ((x.ASNs.length:Int)==0)=true then k7 true else if (decide ((i:Int) > 0))=true then if (cond true (!x.Set) false)=true then Option.bind (geti p (AI ((i:Int)-1))) fun v8=>k7 (cond false true (cond true (!v8.Set) false)) else k7 false else k7 false) fun v9=>if v9=true then some false else AC (τ:=Unit) (fun k10=>An (σ:=Unit) (fun _=>k10 ()) (inner x) x.ASNs 0 ()) fun _=>k6 ()) fun _=>next (AI (v+(x.ASNs.length:Int))))
  (hi :∀s next x i,inner s next x i ()=AC (τ:=Bool) (fun k14=>if (!KQ x)=true then k14 true else if s.Set=true then if (cond true (decide ((i:Int) > 0)) false)=true then Option.bind (geti s.ASNs (AI ((i:Int)-1))) fun v15=>k14 (cond false true (cond true (decide (v15 ≥ x)) false)) else k14 false else k14 false) fun v16=>if v16=true then some false else next ()) :
  (AC (τ:=Int) (fun k1=>An (σ:=Int) (fun v=>k1 v) body p 0 0) fun v=>some (decide (v<=64)))=some (F5 p):=by
 rw[AB]
 have hin :∀s∈p,∀K:Unit->Option Bool,An K (inner s) s.ASNs 0 ()=if s.ASNs.all KQ&&chainB (fun a b=>!s.Set || ltI a b) s.ASNs then K () else some false:=fun s hs K=>YT (by have:=Xy hs;omega) (hi s)
 refine (e9 (g:=fun (v:Int) s=>AI (v+(s.ASNs.length:Int))) (ok:=Ox) (lt:=sgl) (F:=some false) (by omega) (fun next x v hx=>?_) fun next x y i v hx _ hg=>?_).trans ?_
 ·rw[hb,AB,AB]
  unfold Ox
  by_cases h0:x.ASNs.length=0
  ·have e:((x.ASNs.length:Int)==0)=true:=by simp[h0]
   rw[if_pos e]
   simp[h0]
  have e:¬ ((x.ASNs.length:Int)==0)=true:=by simpa using h0
  rw[if_neg e,if_neg (by simp)]
  show (if false=true then _ else _)=_
  rw[if_neg (by decide),AB,hin x hx]
  simp only[h0,ne_eq,not_false_eq_true,decide_true,Bool.true_and]
 ·rw[hb,AB,AB,hg]
  unfold Ox sgl
  by_cases h0:x.ASNs.length=0
  ·have e:((x.ASNs.length:Int)==0)=true:=by simp[h0]
   rw[if_pos e]
   simp[h0]
  have e:¬ ((x.ASNs.length:Int)==0)=true:=by simpa using h0
  have e2:decide (((i+1:Nat):Int) > 0)=true:=by simp
  rw[if_neg e,if_pos e2,AA,AB,hin x hx]
  simp only[h0,ne_eq,not_false_eq_true,decide_true,Bool.true_and]
  generalize (x.ASNs.all KQ&&chainB (fun a b=>!x.Set || ltI a b) x.ASNs)=c
  cases x.Set<;>cases y.Set<;>cases c<;>rfl
 have hs:=YO p 0 (by omega)
 rw[Nat.zero_add] at hs
 have hs:p.foldl (fun (v:Int) s=>AI (v+(s.ASNs.length:Int))) 0=(tot p:Int):=hs
 rw[hs]
 unfold F5
 have e:decide ((tot p:Int)<=64)=decide (tot p<=64):=by rw[X28];simp;omega
 simp only[e]
 generalize (p.all Ox&&chainB sgl p)=c
 cases c<;>rfl
theorem H4 {p:List JAE}(hl:p.length<=1000000000)(ht:tot p<=1000000000):E0 p=some (F5 p):=by
 unfold E0
 refine TS hl ht (fun next x i v=>rfl) fun s next x i=>?_
 have e:(!KQ x)=(decide (x < 1) || decide (x > 4294967295)):=by unfold KQ;rw[X28];simp<;>omega
 rw[AB,AB,e]
 cases decide (x < 1)<;>cases decide (x > 4294967295)<;>rfl
theorem Jg {p:List JAE}(hl:p.length<=1000000000)(ht:tot p<=1000000000):FP p=some (F5 p):=by
 unfold FP
 refine TS hl ht (fun next x i v=>rfl) fun s next x i=>?_
 rw[number_eq]
 rfl
theorem N2 {p:List JAE}(hl:p.length<=1000000000)(ht:tot p<=1000000000):Lq p=F5 p:=by
 unfold Lq
 rw[H4 hl ht];rfl
theorem O2 (p:List JAE)(b:Bool){m:List Int}(hm:m.length<=1000000):(GZ p b m).length<=p.length+1/\tot (GZ p b m)<=tot p+m.length:=by
 unfold GZ
 cases b
 ·simp only[Bool.false_eq_true,if_false]
  rcases List.eq_nil_or_concat p with rfl | ⟨q,s,rfl⟩
  ·exact⟨by simp,by simp[tot]⟩
  rw[List.concat_eq_append]
  simp only[List.getLast?_concat,List.dropLast_concat]
  split
  ·rw[NM,EY]
   exact⟨by simp,by simp[tot]⟩
  rw[NM,EY,NM,EY]
  exact⟨by simp,by simp[tot];omega⟩
 simp only[if_true]
 rw[NM,EY]
 have:=X5 hm
 exact⟨by simp,by simp only[tot,List.foldl_nil];omega⟩
theorem Qi :∀(n:Nat) (b:List UInt8) (p q:List JAE),b.length<=1000000->J0 n b p=some q->q.length<=p.length+b.length/\tot q<=tot p+b.length
 | n,[],p,q,_,h=>by
  rw[OG] at h
  obtain rfl:=X25 h
  exact⟨Nat.le_refl _,Nat.le_refl _⟩
 | n+1,[x],p,q,_,h=>by simp[J0] at h
 | n+1,k::c::t,p,q,hb,h=>by
  simp only[X12] at hb
  simp only[J0] at h
  split at h
  ·cases h
  rename_i hk
  have h1:=Qi n _ _ _ (by simp only[X17];omega) h
  have hn:(nums (t.take (4*c.toNat))).length=c.toNat:=by rw[HF,X18];omega
  have hc:=c.toNat_lt
  have h2:=O2 p (k.toNat==1) (m:=nums (t.take (4*c.toNat))) (by omega)
  simp only[X17] at h1
  simp only[X12]
  omega
 | 0,x::b,p,q,_,h=>by
  have:J0 0 (x::b) p=none:=by cases b<;>rfl
  rw[this] at h;simp at h
theorem Z7 {b:List UInt8}{q:List JAE}(hb:b.length<=1000000)(h:rdL b []=some q):q.length<=1000000/\tot q<=1000000:=by
 have:=Qi _ _ _ _ hb h
 simp only[X13,tot,List.foldl_nil] at this
 unfold tot
 omega
section
variable {ρ:Type} {F:Option ρ} {next:Int×Bool×UInt64×UInt64×Int×Int×Int×(List JAE)×(List JAB)×(List JAF)->Option ρ} {x:JAA} {a:JAD}
theorem cA (hd:x.Data.length<=1000000)(h:x.Type_=2)(e:fl x.Type_=64)(hp:a.Path=[]):Ej F next x (toP a)=match stepS a x with | none=>F | some a'=>next (toP a'):=by
 have er :∀d,Iw a 2 d=(ON d).map fun v=>{ a with Path:=v }:=fun _=>rfl
 unfold Ej toP stepS
 dsimp only
 rw[AB,if_neg (by rw[h];decide),if_pos (by rw[h];rfl),AB,Bi x (by rw[e];decide),if_neg (by rw[e];decide),h,AA,er]
 by_cases hr:FG x=true
 rotate_left
 ·have hr:FG x=false:=by simpa using hr
  rw[hr]
  rfl
 have ck:chk (([]:List JAE)=[])=some ():=by unfold chk;rw[if_pos rfl]
 rw[hr,if_neg (by decide),AB,AB,hp,ck,AA]
 refine (Da (fun s:List UInt8×List JAE×Nat×List Int=>Lk s.2.1 s.2.2.1 s.2.2.2/\(s.1.length+s.2.1.length<=1000000/\s.1.length+tot s.2.1<=1000000)/\s.1.length+s.2.2.2.length<=1000000) (fun s=>s.1.length)
  (fun s=>match rdL s.1 s.2.1 with | none=>F | some p=>if Lq p=true then next (toP { a with Path:=p }) else F) ?_ fuel (x.Data,[],0,[]) ⟨.inl rfl,by simpa[tot] using hd,by simpa using hd⟩ (CE (by simp only;omega))).trans ?_
 rotate_left
 ·unfold ON
  dsimp only
  cases rdL x.Data [] with
  | none=>rfl
  | some p=>
   rw[Option.bind_some]
   show (if Lq p=true then _ else _)=_
   cases Lq p<;>rfl
 rintro next' ⟨b,p,i,l⟩ ⟨h1,⟨h2,h2'⟩,h3⟩ hn
 dsimp only at h1 h2 h2' h3 ⊢
 match b,h2,h2',h3,hn with
 | [],h2,h2',_,_=>
  rw[X0,if_neg (by simp),Jg (by omega) (by simp only[X13] at h2';omega),AA]
  show _=(if Lq p=true then next (toP { a with Path:=p }) else F)
  simp only[X13] at h2 h2'
  rw[N2 (by omega) (by omega)]
  cases F5 p<;>rfl
 | [x],_,_,_,_=>rfl
 | k::c::t,h2,h2',h3,hn=>
  simp only[X12] at h2 h2' h3
  rw[if_pos (by simp;omega),U3,bE (by omega)]
  by_cases hb:KI k c t=true
  ·rw[if_pos hb,if_pos hb]
   rfl
  rw[if_neg hb,if_neg hb]
  have hb':(k.toNat=1\/k.toNat=2)/\1<=c.toNat/\4*c.toNat<=t.length:=by
   simp only[KI,decide_eq_true_eq] at hb
   omega
  obtain⟨b1,b2,b3⟩:=hb'
  have hc:=c.toNat_lt
  have epart:part (k::c::t) 2 ((2+4*c.toNat:Nat):Int)=some (t.take (4*c.toNat)):=by
   rw[show (2:Int)=((2:Nat):Int) by rfl,EX (by omega) (by simp;omega)]
   rw[List.drop_succ_cons,List.drop_succ_cons,List.drop_zero,show 2+4*c.toNat-2=4*c.toNat by omega]
  rw[UN,AA,QQ,AA,fG,epart,AA,FA (by simp;omega),AA,Yv b3,AA]
  have hnl:(nums (t.take (4*c.toNat))).length=c.toNat:=by rw[HF,X18];omega
  generalize hm:nums (t.take (4*c.toNat))=m at *
  have hdl:(t.drop (4*c.toNat)).length=t.length-4*c.toNat:=X17
  have hsl:=X5 (l:=m) (by omega)
  have hsz:=O2 p (k.toNat==1) (m:=m) (by omega)
  have hsort :∀K:List Int->Option ρ,AC (τ:=List Int) (fun k50=>if ((k.toNat:Int)==1)=true then Option.bind (Lh m) fun v51=>Option.bind (Bo v51) fun v52=>k50 v52 else k50 m) K=K (if k.toNat=1 then srt m else m):=by
   intro K
   rw[AB]
   by_cases b1:k.toNat=1
   ·rw[if_pos (by simp[b1]),if_pos b1];exact Rx (by omega)
   rw[if_neg (by simp;omega),if_neg b1]
  rw[hsort]
  rcases b1 with b1 | b1
  ·have e:(k.toNat==1)=true:=by rw[b1];rfl
   have e1:((k.toNat:Int)==1)=true:=by rw[b1];rfl
   rw[e,RX] at hsz
   have ef :∀K:Bool->Option ρ,AC (τ:=Bool) (fun k54=>if (decide ((AI ((p.length:Int)-1)) ≥ 0))=true then if (cond true (!true) false)=true then Option.bind (geti p (AI ((p.length:Int)-1))) fun v55=>k54 (cond true (!v55.Set) false) else k54 false else k54 false) K=K false:=by
    intro K
    rw[AB]
    split<;>rfl
   rw[if_pos b1,e1,ef,AB,if_neg (by decide),AO (by decide) (by simp;omega),AA,e,RX]
   exact hn (t.drop (4*c.toNat),p++[⟨true,srt m⟩],(List.map JAE.toD p).length+0,srt m) ⟨.inr ⟨p,true,rfl,by simp⟩,⟨by simp only[X11,X22,hdl];omega,by simp only[hdl];omega⟩,by simp only[hdl];omega⟩ (by simp only[hdl,X12];omega)
  have e:(k.toNat==1)=false:=by rw[b1];rfl
  have e1:((k.toNat:Int)==1)=false:=by rw[b1];rfl
  rw[e] at hsz
  have ef :∀K:Bool->Option ρ,AC (τ:=Bool) (fun k54=>if (decide ((AI ((p.length:Int)-1)) ≥ 0))=true then if (cond true (!false) false)=true then Option.bind (geti p (AI ((p.length:Int)-1))) fun v55=>k54 (cond true (!v55.Set) false) else k54 false else k54 false) K=K (match p.getLast? with | some s=>!s.Set | none=>false):=by
   intro K
   have hlast:=bL (p:=p) (by omega) K
   refine Eq.trans ?_ hlast
   rw[AB,AB]
   have:decide (AI ((p.length:Int)-1) ≥ 0)=decide ((p.length:Int) > 0):=by rw[AP (by omega),X28];simp;omega
   rw[this]
   split<;>rfl
  rw[if_neg (by omega),e1,ef,AB,e]
  rcases h1 with rfl | ⟨q,s,rfl,rfl⟩
  ·rw[if_neg (by simp),AO (by decide) (by simp),AA,QP]
   rw[QP] at hsz
   exact hn (t.drop (4*c.toNat),[⟨false,m⟩],(List.map JAE.toD []).length+0,m) ⟨.inr ⟨[],false,rfl,rfl⟩,⟨by simp only[X22,hdl];simp only[X13] at h2;omega,by simp only[hdl];omega⟩,by simp only[hdl];omega⟩ (by simp only[hdl,X12];omega)
  simp only[X11,X22] at h2
  cases s
  ·rw[PH] at hsz
   rw[if_pos (by simp),YP (by omega),M6,AA]
   rw[Int.toNat_natCast]
   have ck:chk (q.length=q.length)=some ():=by unfold chk;rw[if_pos rfl]
   rw[ck,AA,AO (by decide) (by omega),AA,AA,cJ,AA,PH]
   exact hn (t.drop (4*c.toNat),q++[⟨false,l++m⟩],q.length,l++m) ⟨.inr ⟨q,false,rfl,rfl⟩,⟨by simp only[X11,X22,hdl];omega,by simp only[hdl];omega⟩,by simp only[hdl,X11];omega⟩ (by simp only[hdl,X12];omega)
  rw[Jp] at hsz
  rw[if_neg (by simp),AO (by decide) (by simp;omega),AA,Jp]
  exact hn (t.drop (4*c.toNat),q++[⟨true,l⟩]++[⟨false,m⟩],(List.map JAE.toD (q++[⟨true,l⟩])).length+0,m) ⟨.inr ⟨q++[⟨true,l⟩],false,rfl,by simp⟩,⟨by simp only[X11,X22,hdl];omega,by simp only[hdl];omega⟩,by simp only[hdl];omega⟩ (by simp only[hdl,X12];omega)
end
end Go.AX.Q19
end
section
namespace Go.AX.Q19
open Go Go.AX
section
variable {ρ:Type} {F:Option ρ} {next:Int×(List JAE)×Bool×UInt64×UInt64×Int×Int×Int×(List JAB)×(List JAF)->Option ρ} {x:JAA} {a:JAD}
end
end Go.AX.Q19
end
section
namespace Go.AX.Q19
open Go Go.AX
def D5 (l:List JAA)(t:Int):Bool:=l.any fun y=>t==y.Type_
def BO (l:List JAA):List JAA:=l.foldl (fun acc x=>if D5 acc x.Type_ then acc else acc++[x]) []
theorem Jd (l:List JAA)(x:JAA):BO (l++[x])=if D5 (BO l) x.Type_ then BO l else BO l++[x]:=by
 unfold BO
 rw[List.foldl_append]
 rfl
theorem J3 {l:List JAA}{t:Int}:D5 l t=true ↔∃y∈l,y.Type_=t:=by
 unfold D5
 rw[List.any_eq_true]
 simp only[beq_iff_eq]
 exact⟨fun ⟨y,h1,h2⟩=>⟨y,h1,h2.symm⟩,fun ⟨y,h1,h2⟩=>⟨y,h1,h2.symm⟩⟩
theorem NV (l m:List JAA)(t:Int):D5 (l++m) t=(D5 l t || D5 m t):=by unfold D5;rw[List.any_append]
def H7 (l:List JAA):Prop:=l.Pairwise fun a b=>a.Type_≠b.Type_
theorem FC (l:List JAA):H7 (BO l)/\(∀x∈BO l,x∈l)/\(∀t,D5 (BO l) t=D5 l t)/\(BO l).length<=l.length:=by
 rw[<- List.reverse_reverse l]
 generalize l.reverse=m
 induction m with
 | nil=>exact⟨.nil,by simp[BO],fun t=>rfl,Nat.le_refl _⟩
 | cons x t ih=>
  obtain⟨h1,h2,h3,h4⟩:=ih
  rw[List.reverse_cons,Jd]
  by_cases hx:D5 (BO t.reverse) x.Type_=true
  ·rw[if_pos hx]
   refine⟨h1,fun y hy=>List.mem_append_left _ (h2 y hy),fun u=>?_,by simp only[X11];omega⟩
   rw[h3 u,NV]
   by_cases hu:u=x.Type_
   ·subst hu
    rw[<- h3,hx];rfl
   have:D5 [x] u=false:=by unfold D5;simp[hu]
   rw[this,Bool.or_false]
  rw[if_neg hx]
  refine⟨List.pairwise_append.2 ⟨h1,by simp,fun a ha b hb e=>?_⟩,fun y hy=>?_,fun u=>by rw[NV,NV,h3],by simp only[X11,X22];omega⟩
  ·rw[X14] at hb
   subst hb
   exact hx (J3.2 ⟨a,ha,e⟩)
  rcases X23.1 hy with hy | hy
  ·exact List.mem_append_left _ (h2 y hy)
  exact List.mem_append_right _ hy
theorem If {l:List JAA}(h:H7 l):BO l=l:=by
 rw[<- List.reverse_reverse l] at h ⊢
 generalize l.reverse=m at h ⊢
 induction m with
 | nil=>rfl
 | cons x t ih=>
  rw[List.reverse_cons] at h ⊢
  obtain⟨h1,_,h3⟩:=List.pairwise_append.1 h
  rw[Jd,ih h1,if_neg]
  intro q
  obtain⟨y,hy,e⟩:=J3.1 q
  exact h3 y hy x (by simp) e
theorem bX {l:List JAA}(hl:l.length<=1000000):Dh l=some (BO l):=by
 have:Ok (Dh l) fun r=>r=BO l:=by
  unfold Dh
  refine .join (fun r=>r=BO l) (fun k hk=>?_) fun r hr=>.ret hr
  refine .forX (fun i s=>s.2=BO (l.take i)/\∀t,(BC s.1 t).getD false=D5 s.2 t) ⟨rfl,fun t=>rfl⟩ (fun s hs=>hk _ (by rw[hs.1,List.take_length])) ?_
  rintro next x i ⟨m,o⟩ hx ⟨h1,h2⟩ hn
  dsimp only at h1 h2
  have hil:=(X16.1 hx).1
  have hlen:=(FC (l.take i)).2.2.2
  rw[<- h1,X18] at hlen
  have e:l.take (i+1)=l.take i++[x]:=by rw[List.take_add_one,hx];rfl
  have hs:=Jd (l.take i) x
  rw[<- e,<- h1] at hs
  refine .bind (P:=fun v=>v=D5 o x.Type_) ⟨_,rfl,h2 _⟩ fun v hv=>?_
  subst hv
  refine .join (fun r=>r=BO (l.take (i+1))/\∀t,D5 r t=(t==x.Type_ || D5 o t)) (fun k hk=>.ite (fun hc=>.bind (Ok.apnd (by decide) (by simp;omega)) fun r hr=>hk r ?_) fun hc=>hk o ?_) fun r hr=>hn _ ⟨hr.1,fun t=>?_⟩
  ·have hc:D5 o x.Type_=false:=by simpa using hc
   rw[hc,if_neg (by decide)] at hs
   rw[hs,hr]
   refine⟨rfl,fun t=>?_⟩
   rw[NV,Bool.or_comm]
   unfold D5;simp
  ·have hc:D5 o x.Type_=true:=by simpa using hc
   rw[hc,if_pos rfl] at hs
   rw[hs]
   refine⟨rfl,fun t=>?_⟩
   by_cases ht:t=x.Type_
   ·subst ht;rw[hc];simp
   have:(t==x.Type_)=false:=by simpa using ht
   rw[this];rfl
  dsimp only
  rw[hr.2,mget_mset,<- h2]
  cases (t==x.Type_)<;>rfl
 obtain⟨r,h1,h2⟩:=this
 rw[h1,h2]
def Ji:JAD->List JAA->Option JAD
 | a,[]=>some a
 | a,x::t=>(stepS a x).bind fun a'=>Ji a' t
structure Fit (l:List JAA)(a:JAD):Prop where
 d:H7 l
 z :∀x∈l,x.Data.length<=1000000
 p :∀x∈l,x.Type_=2->a.Path=[]
 c :∀x∈l,x.Type_=8->a.Communities=[]
 l :∀x∈l,x.Type_=32->a.JAF=[]
theorem U6 {a a':JAD}{x:JAA}(h:stepS a x=some a'):(x.Type_≠2->a'.Path=a.Path)/\(x.Type_≠8->a'.Communities=a.Communities)/\(x.Type_≠32->a'.JAF=a.JAF)/\a'.Other=a.Other:=by
 unfold stepS at h
 split at h
 ·obtain rfl:=X25 h
  exact⟨fun _=>rfl,fun _=>rfl,fun _=>rfl,rfl⟩
 split at h
 ·unfold Iw at h
  rcases Ep x.Type_ with ⟨e,_⟩|⟨e,_⟩|⟨e,_⟩|⟨e,_⟩|⟨e,_⟩|⟨e,_⟩|⟨e,_⟩|⟨e,_⟩|⟨e1,e2,e3,e4,e5,e6,e7,e8,_⟩
  iterate 8
   ·rw[e] at h ⊢
    obtain⟨v,_,rfl⟩:=Option.map_eq_some_iff.1 h
    exact⟨fun q=>by first | rfl | exact absurd rfl q,fun q=>by first | rfl | exact absurd rfl q,fun q=>by first | rfl | exact absurd rfl q,rfl⟩
  rw[if_neg e1,if_neg e2,if_neg e3,if_neg e4,if_neg e5,if_neg e6,if_neg e7,if_neg e8] at h
  obtain rfl:=X25 h
  exact⟨fun _=>rfl,fun _=>rfl,fun _=>rfl,rfl⟩
 simp at h
theorem Fit.next {x:JAA}{t:List JAA}{a a':JAD}(f:Fit (x::t) a)(h:stepS a x=some a'):Fit t a':=by
 obtain⟨k1,k2,k3,_⟩:=U6 h
 obtain⟨d1,d2⟩:=List.pairwise_cons.1 f.d
 exact⟨d2,fun y hy=>f.z y (X19 _ hy),fun y hy e=>(k1 (e ▸ d1 y hy)).trans (f.p y (X19 _ hy) e),
  fun y hy e=>(k2 (e ▸ d1 y hy)).trans (f.c y (X19 _ hy) e),fun y hy e=>(k3 (e ▸ d1 y hy)).trans (f.l y (X19 _ hy) e)⟩
theorem ax {ρ:Type}{F:Option ρ}{next:Int×Bool×UInt64×UInt64×Int×Int×Int×(List JAE)×(List JAB)×(List JAF)->Option ρ}{x:JAA}{a:JAD}{t:List JAA}(f:Fit (x::t) a):Ej F next x (toP a)=match stepS a x with | none=>F | some a'=>next (toP a'):=by
 have hd:=f.z x (by simp)
 rcases Ep x.Type_ with ⟨h,e⟩|⟨h,e⟩|⟨h,e⟩|⟨h,e⟩|⟨h,e⟩|⟨h,e⟩|⟨h,e⟩|⟨h,e⟩|⟨h1,h2,h3,h4,h5,h6,h7,h8,e⟩
 ·exact cI h e
 ·exact cA hd h e (f.p x (by simp) h)
 ·exact bO h e
 ·exact cX h e
 ·exact bj h e
 ·exact bH hd h e
 ·exact ZX hd h e
 ·exact Zt h e
 exact bu ⟨h1,h2,h3,h4,h5,h6,h7,h8⟩ e
theorem cq {ρ:Type}{F:Option ρ}{K:Int×Bool×UInt64×UInt64×Int×Int×Int×(List JAE)×(List JAB)×(List JAF)->Option ρ} :∀(l:List JAA) (i:Nat) (a:JAD),Fit l a->An K (fun next x _ s=>Ej F next x s) l i (toP a)=match Ji a l with | none=>F | some a'=>K (toP a')
 | [],_,_,_=>rfl
 | x::t,i,a,f=>by
  show Ej F (fun s=>An K (fun next x _ s=>Ej F next x s) t (i+1) s) x (toP a)=_
  rw[ax f]
  unfold Ji
  cases h:stepS a x with
  | none=>rfl
  | some a'=>exact cq t (i+1) a' (f.next h)
def Im (x:JAA):Bool:=unk x.Type_&&(decide (1<=x.Type_/\x.Type_<=255)&&(bt x.Flags 64 != 0&&decide (x.Data.length<=255)))
def conv (x:JAA):JAA:=⟨224,x.Type_,x.Data⟩
def Fv (l:List JAA):List JAA:=(List.range' 1 255).flatMap fun (k:Nat)=>l.flatMap fun x=>if (x.Type_==(k:Int)&&Im x)=true then [conv x] else []
def HS (x:JAA):List Int:=[x.Type_]
theorem Fe (a b:JAA):(HS a).length=(HS b).length:=rfl
theorem S9 {l:List JAA}{y:JAA}:y∈Fv l ↔∃x∈l,Im x=true/\y=conv x:=by
 unfold Fv
 simp only[List.mem_flatMap,List.mem_range'_1]
 constructor
 ·rintro⟨k,hk,x,hx,h⟩
  split at h
  ·rename_i hc
   simp only[X27] at hc
   exact⟨x,hx,hc.2,by simpa using h⟩
  simp at h
 rintro⟨x,hx,hk,rfl⟩
 have hk':=hk
 simp only[Im,X27,decide_eq_true_eq] at hk'
 refine⟨x.Type_.toNat,by omega,x,hx,?_⟩
 rw[if_pos]
 ·simp
 rw[hk,Bool.and_true,beq_iff_eq];omega
theorem OT {α:Type}{R:α->α->Prop}{c:Bool}{x:α}:(if c=true then [x] else []).Pairwise R:=by
 cases c
 ·exact .nil
 exact List.pairwise_singleton _ _
theorem Nb {l:List JAA}(h:H7 l):(Fv l).Pairwise fun a b=>ltK HS a b=true:=by
 unfold Fv
 rw[List.pairwise_flatMap]
 have hm :∀(k:Nat) (x y:JAA),y∈(if (x.Type_==(k:Int)&&Im x)=true then [conv x] else [])->y.Type_=k/\x.Type_=k:=by
  intro k x y hy
  split at hy
  ·rename_i hc
   simp only[X27,beq_iff_eq] at hc
   rw[X14] at hy
   subst hy
   exact⟨hc.1,hc.1⟩
  simp at hy
 constructor
 ·intro k _
  rw[List.pairwise_flatMap]
  refine⟨fun x _=>OT,h.imp fun {a b} hab x hx y hy=>?_⟩
  exact absurd ((hm k a x hx).2.trans (hm k b y hy).2.symm) hab
 refine (List.pairwise_lt_range' (s:=1) (n:=255)).imp fun {a b} hab x hx y hy=>?_
 obtain⟨x1,_,hx1⟩:=List.mem_flatMap.1 hx
 obtain⟨y1,_,hy1⟩:=List.mem_flatMap.1 hy
 have e1:=(hm a x1 x hx1).1
 have e2:=(hm b y1 y hy1).1
 unfold ltK HS
 rw[decide_eq_true_eq,SJ,if_pos (by omega)]
 decide
def Sm (l:List JAA):Prop:=l.length<=1000000/\∀x∈l,x.Data.length<=1000000
def LR (x:JAA):Bool:=unk x.Type_&&bt x.Flags 128==0
def zA:JAD:=⟨0,[],(⟨false,(0:UInt64),(0:UInt64)⟩:Addr),0,0,0,[],[],[]⟩
def eA:JAD:=⟨(-1),[],(⟨false,(0:UInt64),(0:UInt64)⟩:Addr),(-1),(-1),(-1),[],[],[]⟩
def rdS (l:List JAA):JAD×Int:=
 if (BO l).any LR=true then (zA,12) else match Ji eA (BO l) with
 | none=>(zA,13)
 | some a=>if (Fv (BO l)).length > 8 then (zA,3) else ({ a with Other:=Fv (BO l) },0)
theorem Z2 (x:JAA):Dc x=some (LR x):=by
 unfold Dc LR
 rw[AB,D7,AA]
 show (if unk x.Type_=true then some (cond true (bt x.Flags 128==0) false) else some false)=_
 cases unk x.Type_<;>rfl
theorem Vo (l:List JAA):Am l=some (l.any LR):=
 ai (f:=Dc) (q:=LR) fun x _=>Z2 x
theorem Yj {l:List JAA}(h:Sm l):Fit (BO l) eA:=
 ⟨(FC l).1,fun x hx=>h.2 x ((FC l).2.1 x hx),fun _ _ _=>rfl,fun _ _ _=>rfl,fun _ _ _=>rfl⟩
def NR (x:JAA):List JAA:=if Im x=true then [conv x] else []
theorem Vd (x:JAA):(NR x).length<=1:=by unfold NR;split<;>simp
theorem K1 {α β:Type}{g:α->List β}(hg :∀x,(g x).length<=1) :∀l:List α,(l.flatMap g).length<=l.length
 | []=>by simp
 | x::t=>by
  rw[List.flatMap_cons,X11,X12]
  have:=K1 hg t
  have:=hg x
  omega
theorem bw {l:List JAA}{y:JAA}:y∈l.flatMap NR ↔∃x∈l,Im x=true/\y=conv x:=by
 rw[List.mem_flatMap]
 constructor
 ·rintro⟨x,hx,h⟩
  unfold NR at h
  split at h
  ·exact⟨x,hx,‹_›,by simpa using h⟩
  simp at h
 rintro⟨x,hx,hk,rfl⟩
 refine⟨x,hx,?_⟩
 unfold NR
 rw[if_pos hk];simp
theorem Zs {l:List JAA}(h:H7 l):(l.flatMap NR).Pairwise fun a b=>HS a≠HS b:=by
 rw[List.pairwise_flatMap]
 refine⟨fun x _=>OT,h.imp fun {a b} hab x hx y hy e=>?_⟩
 unfold NR at hx hy
 split at hx
 ·split at hy
  ·rw[X14] at hx hy
   subst hx hy
   exact hab (by simpa[HS,conv] using e)
  simp at hy
 simp at hx
theorem QL (a b:JAA):Dj a b=some (FT (HS a) (HS b)):=by
 unfold Dj HS
 rw[K9,AA]
 unfold aO FT FT
 rfl
theorem Sz {l:List JAA}(h:H7 l)(hl:l.length<=1000000):EP Dj (l.flatMap NR)=some (Fv l):=by
 have hlen:=K1 Vd l
 obtain⟨r,h1,h2,h3⟩:=NN Fe QL (l:=l.flatMap NR) (by omega)
 rw[h1]
 congr 1
 refine Pz Fe (OL Fe h3 ?_) (Nb h) fun x=>?_
 ·exact (h2.pairwise_iff fun h e=>h e.symm).2 (Zs h)
 rw[h2.mem_iff,bw,S9]
theorem Y9 {l:List JAA}(h:H7 l)(hl:l.length<=1000000):(Fv l).length=(l.flatMap NR).length:=by
 exact (Gh (Sz h hl))
theorem gq {l:List JAA}(hl:l.length<=1000000)(hz :∀x∈l,x.Data.length<=1000000){ρ:Type}{K:List JAA->Option ρ} :
  An (σ:=List JAA) K (fun next x _ v=>
   AC (τ:=Bool) (fun k198=>
      Option.bind (Ba x.Type_) fun v199=>
      if v199=true then
       Option.bind (A9 x.Type_ 1 255) fun v200=>
       if (cond true v200 false)=true then
        if (cond true ((AI ((BitVec.ofInt 64 x.Flags &&& BitVec.ofInt 64 64).toNat:Int)) != 0) false)=true then
         k198 (cond true (decide ((x.Data.length:Int)<=255)) false)
        else
         k198 false
       else
        k198 false
      else
       k198 false
     ) fun v201=>
     AC (τ:=(List JAA)) (fun k202=>
      if v201=true then
       Option.bind (A8 x.Data) fun v203=>
       Option.bind (apnd (α:=JAA) 40 v ([(⟨224,x.Type_,v203⟩:JAA)]:List JAA)) fun v204=>
       k202 v204
      else
       k202 v
     ) fun v205=>
     next v205) l 0 []=K (l.flatMap NR):=by
 have hlen:=K1 Vd l
 refine (QE (g:=NR) (N:=1000000) (by simp only[X13];omega) fun next x i v hx hv=>?_).trans (by rw[List.nil_append])
 have hc :∀k:Bool->Option ρ,AC (τ:=Bool) (fun k198=>
      Option.bind (Ba x.Type_) fun v199=>
      if v199=true then
       Option.bind (A9 x.Type_ 1 255) fun v200=>
       if (cond true v200 false)=true then
        if (cond true ((AI ((BitVec.ofInt 64 x.Flags &&& BitVec.ofInt 64 64).toNat:Int)) != 0) false)=true then
         k198 (cond true (decide ((x.Data.length:Int)<=255)) false)
        else
         k198 false
       else
        k198 false
      else
       k198 false
     ) k=k (Im x):=by
  intro k
  unfold Im
  have d1:(AI ((BitVec.ofInt 64 x.Flags &&& BitVec.ofInt 64 64).toNat:Int))=bt x.Flags 64:=rfl
  have d2:decide ((x.Data.length:Int)<=255)=decide (x.Data.length<=255):=by rw[X28];simp;omega
  have d3:decide (1<=x.Type_/\x.Type_<=255)=(decide (1<=x.Type_)&&decide (x.Type_<=255)):=by rw[X28];simp
  rw[AB,D7,AA,GE,AA,d1,d2,d3]
  cases unk x.Type_<;>cases decide (1<=x.Type_)<;>cases decide (x.Type_<=255)<;>cases (bt x.Flags 64 != 0)<;>cases decide (x.Data.length<=255)<;>rfl
 rw[hc,AB]
 unfold NR at hv ⊢
 by_cases hk:Im x=true
 ·rw[if_pos hk] at hv
  have:=hz x hx
  simp only[X22] at hv
  rw[if_pos hk,if_pos hk]
  unfold A8
  rw[AO (by decide) (by simp;omega),AA,AA,List.nil_append,AO (by decide) (by simp;omega),AA]
  rfl
 rw[if_neg hk,if_neg hk,List.append_nil]
theorem VJ {l:List JAA}(h:Sm l):EL l=some (rdS l):=by
 obtain⟨h1,h2⟩:=h
 have hlen:=(FC l).2.2.2
 have hm:=(FC l).2.1
 unfold EL rdS
 rw[bX h1,AA,Vo,AA]
 by_cases hb:(BO l).any LR=true
 ·rw[if_pos hb,if_pos hb];rfl
 rw[if_neg hb,if_neg hb,AB,AB]
 rw[AB]
 refine (cq (BO l) 0 eA (Yj ⟨h1,h2⟩)).trans ?_
 cases hf:Ji eA (BO l) with
 | none=>rfl
 | some a=>
  show (if (!true)=true then _ else AC _ _)=_
  rw[if_neg (by decide),AB]
  refine (gq (l:=BO l) (by omega) fun x hx=>h2 x (hm x hx)).trans ?_
  have hk:=Y9 (l:=BO l) (FC l).1 (by omega)
  show (if decide (((List.flatMap NR (BO l)).length:Int) > 8)=true then _ else _)=_
  by_cases h8:(Fv (BO l)).length > 8
  ·rw[if_pos (by simp only[decide_eq_true_eq];omega)]
   show _=some (if (Fv (BO l)).length > 8 then _ else _)
   rw[if_pos h8];rfl
  rw[if_neg (by simp only[decide_eq_true_eq];omega),Sz (FC l).1 (by omega),AA]
  show _=some (if (Fv (BO l)).length > 8 then _ else _)
  rw[if_neg h8]
def hd4 (x:UInt8):Bool:=(((Aa ((BitVec.ofInt 8 (x.toNat:Int) &&& BitVec.ofInt 8 16).toNat:Int)).toNat:Int) != 0)
def hdN (x:UInt8):Nat:=if hd4 x=true then 4 else 3
def flagsOf (x:UInt8):Int:=((Aa ((BitVec.ofInt 8 (x.toNat:Int) &&& BitVec.ofInt 8 224).toNat:Int)).toNat:Int)
def sizeOf (b:List UInt8)(h:Nat):Nat:=val ((b.drop 2).take (h-2))
def stp (x:UInt8)(t:List UInt8):Option (JAA×List UInt8):=
 if (x::t).length<hdN x\/(x::t).length-hdN x<sizeOf (x::t) (hdN x) then none else
  some (⟨flagsOf x,((t.headD 0).toNat:Int),((x::t).drop (hdN x)).take (sizeOf (x::t) (hdN x))⟩,(x::t).drop (hdN x+sizeOf (x::t) (hdN x)))
def spl:Nat->List UInt8->List JAA->Option (List JAA)
 | _,[],acc=>some acc
 | n+1,x::t,acc=>match stp x t with
  | none=>none
  | some (u,r)=>spl n r (acc++[u])
 | 0,_::_,_=>none
theorem Z4 (x:UInt8):hdN x=4\/hdN x=3:=by unfold hdN;split<;>simp
theorem TV {x:UInt8}{t:List UInt8}{u:JAA}{r:List UInt8}(h:stp x t=some (u,r)):r.length+3<=(x::t).length/\u.Data.length+r.length<=(x::t).length:=by
 unfold stp at h
 split at h
 ·cases h
 rename_i hc
 simp only[X24,X26] at h
 obtain⟨rfl,rfl⟩:=h
 have:=Z4 x
 simp only[X17,X18,X12] at hc ⊢
 omega
theorem Tn (n:Nat)(acc:List JAA):spl n [] acc=some acc:=by cases n<;>rfl
theorem VS :∀(n m:Nat) (b:List UInt8) (acc:List JAA),b.length<=n->b.length<=m->spl n b acc=spl m b acc
 | n,m,[],acc,_,_=>by rw[Tn,Tn]
 | n+1,m+1,x::t,acc,h1,h2=>by
  simp only[spl]
  cases h:stp x t with
  | none=>rfl
  | some p=>
   obtain⟨u,r⟩:=p
   have:=(TV h).1
   exact VS n m r _ (by omega) (by omega)
 | 0,_,_::_,_,h,_=>by simp at h
 | _,0,_::_,_,_,h=>by simp at h
def PU (b:List UInt8)(acc:List JAA):Option (List JAA):=spl b.length b acc
theorem TM (x:UInt8)(t:List UInt8)(acc:List JAA):PU (x::t) acc=match stp x t with | none=>none | some (u,r)=>PU r (acc++[u]):=by
 unfold PU
 rw[X12]
 simp only[spl]
 cases h:stp x t with
 | none=>rfl
 | some p=>
  obtain⟨u,r⟩:=p
  have:=(TV h).1
  simp only[X12] at this
  exact VS _ _ r _ (by omega) (by omega)
def ag (b:List UInt8):List JAA×Int:=match PU b [] with
 | none=>([],12)
 | some l=>(l,0)
theorem ZT {b:List UInt8}{h:Nat}(hh:h=4\/h=3)(hb:h<=b.length):Ea ((b.drop 2).take (h-2))=(sizeOf b h:Int)/\sizeOf b h<65536:=by
 unfold sizeOf
 have hl:((b.drop 2).take (h-2)).length=h-2:=by simp only[X18,X17];omega
 refine⟨GN (by omega),?_⟩
 have:=Lr ((b.drop 2).take (h-2))
 rw[hl] at this
 rcases hh with rfl | rfl
 ·exact this
 have h2:(256:Nat)^(3-2)=256:=rfl
 omega
theorem dP {b:List UInt8}{h:Nat}(h2:2<=h)(hb:h<=b.length):part b 2 (h:Int)=some ((b.drop 2).take (h-2)):=EX (l:=b) (a:=2) (b:=h) h2 hb
theorem Wn {b:List UInt8}(hb:b.length<=1000000):Eb b=some (ag b):=by
 unfold Eb
 rw[AB]
 refine (Da (fun s:List UInt8×List JAA=>s.1.length+s.2.length<=1000000) (fun s=>s.1.length) (fun s=>some (match PU s.1 s.2 with | none=>([],12)|some l=>(l,0))) ?_ fuel (b,[]) (by simpa using hb) (CE (by simp only;omega))).trans rfl
 rintro next ⟨b,acc⟩ hl hn
 dsimp only at hl ⊢
 match b,hl,hn with
 | [],_,_=>rfl
 | x::t,hl,hn=>
  have h0:geti (x::t) 0=some x:=QQ
  have hN:=Z4 x
  have hjoin :∀K:Int->Option (List JAA×Int),AC (τ:=Int) (fun k6=>if (((Aa ((BitVec.ofInt 8 (x.toNat:Int) &&& BitVec.ofInt 8 16).toNat:Int)).toNat:Int) != 0)=true then k6 4 else k6 3) K=K (hdN x:Int):=by
   intro K
   rw[AB]
   unfold hdN
   show (if hd4 x=true then K 4 else K 3)=_
   cases hd4 x<;>rfl
  rw[if_pos (by simp),h0,AA,hjoin,TM,AB]
  simp only[X12] at hl
  by_cases c1:(x::t).length<hdN x
  ·have:stp x t=none:=by unfold stp;rw[if_pos (.inl c1)]
   rw[this,if_pos (by simp only[decide_eq_true_eq];omega)]
   rfl
  obtain⟨g1,g2⟩:=ZT hN (by omega:hdN x<=(x::t).length)
  have hp:=dP (b:=x::t) (h:=hdN x) (by omega) (by omega)
  rw[if_neg (by simp only[decide_eq_true_eq];omega),hp,AA,Cm,AA,g1,AP (x:=((x::t).length:Int)-(hdN x:Int)) (by simp only[X12];omega)]
  by_cases c2:(x::t).length-hdN x<sizeOf (x::t) (hdN x)
  ·have:stp x t=none:=by unfold stp;rw[if_pos (.inr c2)]
   have e:decide (((x::t).length:Int)-(hdN x:Int)<(sizeOf (x::t) (hdN x):Int))=true:=decide_eq_true (by omega)
   rw[this,e]
   rfl
  have hs:stp x t=some (⟨flagsOf x,((t.headD 0).toNat:Int),((x::t).drop (hdN x)).take (sizeOf (x::t) (hdN x))⟩,(x::t).drop (hdN x+sizeOf (x::t) (hdN x))):=by
   unfold stp
   rw[if_neg (fun q=>q.elim c1 c2)]
  have e:decide (((x::t).length:Int)-(hdN x:Int)<(sizeOf (x::t) (hdN x):Int))=false:=decide_eq_false (by omega)
  obtain⟨y,t2,rfl⟩ :∃y t2,t=y::t2:=by
   cases t with
   | nil=>simp at c1;omega
   | cons y t2=>exact⟨y,t2,rfl⟩
  simp only[X12] at hl
  have h1:geti (x::y::t2) 1=some y:=UN
  rw[hs,e]
  show (if (cond false true false)=true then _ else _)=_
  have hp3:part (x::y::t2) (hdN x:Int) ((hdN x+sizeOf (x::y::t2) (hdN x):Nat):Int)=some (((x::y::t2).drop (hdN x)).take (sizeOf (x::y::t2) (hdN x))):=by
   rw[EX (by omega) (by omega)]
   congr 2
   omega
  have hp4:part (x::y::t2) ((hdN x+sizeOf (x::y::t2) (hdN x):Nat):Int) ((x::y::t2).length:Int)=some ((x::y::t2).drop (hdN x+sizeOf (x::y::t2) (hdN x))):=G3 (by omega)
  rw[if_neg (by decide),AA,Cm,AA,g1,AA,h1,AA,AP (by omega),show (hdN x:Int)+(sizeOf (x::y::t2) (hdN x):Int)=((hdN x+sizeOf (x::y::t2) (hdN x):Nat):Int) by omega,hp3,AA,
   AO (by decide) (by simp only[X13,X18,X17];omega),AA,AO (by decide) (by simp only[X22];omega),AA,hp4,AA]
  exact hn _ (by simp only[X11,X17,X12,X13];omega) (by simp only[X17,X12];omega)
theorem Uo :∀(n:Nat) (b:List UInt8) (acc l:List JAA) (N:Nat),spl n b acc=some l->(∀u∈acc,u.Data.length<=N)->b.length<=N->(l.length<=acc.length+b.length/\∀u∈l,u.Data.length<=N)
 | n,[],acc,l,N,h,ha,_=>by
  rw[Tn] at h
  obtain rfl:=X25 h
  exact⟨by simp,ha⟩
 | n+1,x::t,acc,l,N,h,ha,hb=>by
  simp only[spl] at h
  cases hs:stp x t with
  | none=>rw[hs] at h;cases h
  | some p=>
   obtain⟨u,r⟩:=p
   rw[hs] at h
   have h2:=TV hs
   have ih:=Uo n r (acc++[u]) l N h (fun w hw=>by
    rcases X23.1 hw with hw | hw
    ·exact ha w hw
    rw[X14] at hw
    subst hw
    omega) (by omega)
   refine⟨?_,ih.2⟩
   have:=ih.1
   simp only[X11,X22] at this
   omega
 | 0,_::_,_,_,_,h,_,_=>by cases h
theorem WM {b:List UInt8}(hb:b.length<=400000){l:List JAA}(h:PU b []=some l):l.length<=400000/\∀u∈l,u.Data.length<=400000:=by
 have:=Uo _ _ _ _ 400000 h (by simp) hb
 simp only[X13] at this
 exact⟨by omega,this.2⟩
instance (a0:Addr):Tt (Dy a0):=by unfold Dy;exact Tt.auto
instance (a0:Addr):Tt (D3 a0):=by unfold D3;exact Tt.auto
instance (a0:List UInt8):Tt (CY a0):=by unfold CY;exact Tt.auto
instance (a0:Int):Tt (Bf a0):=by unfold Bf;exact Tt.auto
instance (a0:Int):Tt (DY a0):=by unfold DY;exact Tt.auto
instance (a0:JAB):Tt (EO a0):=by unfold EO;exact Tt.auto
instance (a0:JAB) (a1:JAB):Tt (EU a0 a1):=by unfold EU;exact Tt.auto
instance (a0:JAF):Tt (CO a0):=by unfold CO;exact Tt.auto
instance (a0:JAF) (a1:JAF):Tt (CG a0 a1):=by unfold CG;exact Tt.auto
instance (a0:List JAB) (a1:JAB):Tt (Gm a0 a1):=by unfold Gm;exact Tt.auto
instance (a0:List JAF) (a1:JAF):Tt (Dp a0 a1):=by unfold Dp;exact Tt.auto
instance:Tt (E7):=by unfold E7;exact Tt.auto
instance (a0:List JAB) (a1:List JAB):Tt (ER a0 a1):=by unfold ER;exact Tt.auto
instance (a0:List JAF) (a1:List JAF):Tt (CH a0 a1):=by unfold CH;exact Tt.auto
instance (a0:List JAA) (a1:List JAA):Tt (CV a0 a1):=by unfold CV;exact Tt.auto
instance (a0:Addr):Tt (CS a0):=by unfold CS;exact Tt.auto
instance (a0:Int):Tt (FO a0):=by unfold FO;exact Tt.auto
instance (a0:Addr) (a1:Int):Tt (D9 a0 a1):=by unfold D9;exact Tt.auto
theorem WR {a k:Nat}(ha:a<2^64)(hk:k<=64):(BitVec.ofInt 64 (a:Int) &&& ~~~BitVec.ofInt 64 ((2^k-1:Nat):Int)).toNat=a/2^k*2^k:=by
 apply Nat.eq_of_testBit_eq
 intro i
 rw[BitVec.ofInt_natCast,BitVec.ofInt_natCast,BitVec.testBit_toNat]
 simp only[BitVec.getLsbD_and,BitVec.getLsbD_not,BitVec.getLsbD_ofNat,Nat.testBit_mul_two_pow,Nat.testBit_div_two_pow,Nat.testBit_two_pow_sub_one]
 by_cases hi:i<64
 ·by_cases hki:k<=i
  ·simp[hi,hki,Nat.not_lt.2 hki]
  simp[hi,hki,Nat.lt_of_not_le hki]
 have:a.testBit i=false:=Nat.testBit_lt_two_pow (Nat.lt_of_lt_of_le ha (Nat.pow_le_pow_right (by omega) (by omega)))
 by_cases hki:k<=i
 ·simp[hi,hki,this]
 omega
theorem BV (n:Nat):AW (n:Int)=UInt64.ofNat n:=by
 unfold AW
 apply UInt64.toNat_inj.1
 simp only[UInt64.toNat_ofNat']
 omega
def Addr.n (a:Addr):Nat:=a.Hi.toNat*2^64+a.Lo.toNat
def Addr.w (a:Addr):Nat:=if a.V6 then 128 else 32
def Addr.ok (a:Addr):Bool:=cond a.V6 true (cond ((a.Hi.toNat:Int)==0) (decide ((a.Lo.toNat:Int)<4294967296)) false)
def mkA (v6:Bool)(n:Nat):Addr:=⟨v6,UInt64.ofNat (n/2^64),UInt64.ofNat n⟩
def Addr.cut (a:Addr)(n:Nat):Addr:=mkA a.V6 (a.n/2^(a.w-n)*2^(a.w-n))
theorem WS (b:Bool)(m:Nat):(mkA b m).V6=b:=by unfold mkA;rfl
theorem W5 (a:Addr)(n:Nat):(a.cut n).V6=a.V6:=WS _ _
theorem gJ (h l k:Nat)(hl:l<2^64)(hk:k<=64):(h*2^64+l)/2^k*2^k=h*2^64+l/2^k*2^k:=by
 have:(2:Nat)^64=2^(64-k)*2^k:=by rw[<- Nat.pow_add];congr 1;omega
 rw[this,<- Nat.mul_assoc,Nat.add_comm,Nat.add_mul_div_right _ _ (Nat.two_pow_pos k),X32,Nat.add_comm]
theorem dy:AW (((0:Nat):Int)-1)=UInt64.ofNat 18446744073709551615:=by
   unfold AW
   congr 1
theorem eL {k:Nat}(hk:k<64):AW (((UInt64.ofNat (2^k)).toNat:Int)-1)=UInt64.ofNat (2^k-1):=by
  have h3:(2:Nat)^k<2^64:=Nat.pow_lt_pow_right (by omega) (by omega)
  have h4:0<(2:Nat)^k:=Nat.two_pow_pos k
  have h5:(UInt64.ofNat (2^k)).toNat=2^k:=by simp only[UInt64.toNat_ofNat'];omega
  rw[h5]
  have h6:((2^k:Nat):Int)-1=((2^k-1:Nat):Int):=by omega
  rw[h6,BV]
theorem cz:AW (((UInt64.ofNat (2^64)).toNat:Int)-1)=UInt64.ofNat (2^64-1):=by
  have h5:(UInt64.ofNat (2^64)).toNat=0:=by simp only[UInt64.toNat_ofNat',Nat.mod_self]
  rw[h5]
  exact dy
theorem dh {k:Nat}(hk:k<=64):AW (1*(2^(min (Int.toNat ((AW (k:Int)).toNat:Int)) 64)))=UInt64.ofNat (2^k):=by
 rw[BV]
 have h1:(UInt64.ofNat k).toNat=k:=by simp;omega
 rw[h1,Int.toNat_natCast,Nat.min_eq_left hk,Int.one_mul]
 have h2:((2:Int)^k)=((2^k:Nat):Int):=by simp
 rw[h2,BV]
theorem Un {k:Nat}(hk:k<=64):AW (((AW (1*(2^(min (Int.toNat ((AW (k:Int)).toNat:Int)) 64)))).toNat:Int)-1)=UInt64.ofNat (2^k-1):=by
 rw[dh hk]
 rcases Nat.lt_or_eq_of_le hk with h | h
 ·exact eL h
 rw[h];exact cz
theorem M5 {x:UInt64}{k:Nat}(hk:k<=64):AW ((BitVec.ofInt 64 (x.toNat:Int) &&& ~~~BitVec.ofInt 64 ((UInt64.ofNat (2^k-1)).toNat:Int)).toNat:Int)=UInt64.ofNat (x.toNat/2^k*2^k):=by
 have h:(UInt64.ofNat (2^k-1)).toNat=2^k-1:=by
  have:(2:Nat)^k<=2^64:=Nat.pow_le_pow_right (by omega) hk
  have h4:0<(2:Nat)^k:=Nat.two_pow_pos k
  simp only[UInt64.toNat_ofNat'];omega
 rw[h,WR x.toNat_lt hk,BV]
theorem Jf (a:Addr){n:Nat}(hn:n<=a.w):D9 a (n:Int)=some (a.cut n):=by
 have hw:CS a=some (a.w:Int):=by unfold CS Addr.w;split<;>rfl
 have hwn:AI ((a.w:Int)-(n:Int))=((a.w-n:Nat):Int):=by
  have:a.w<=128:=by unfold Addr.w;split<;>omega
  rw[AP (by omega)];omega
 have hlo:=a.Lo.toNat_lt
 have hhi:=a.Hi.toNat_lt
 unfold D9
 rw[hw,AA,hwn]
 have hk128:a.w-n<=128:=by unfold Addr.w;split<;>omega
 generalize hk:a.w-n=k at *
 unfold FO
 by_cases h64:k > 64
 ·rw[if_pos (by simp;omega),AA]
  have e:AI ((k:Int)-64)=((k-64:Nat):Int):=by rw[AP (by omega)];omega
  rw[e,Un (by omega)]
  simp only[M5 (show k-64<=64 by omega)]
  have h1:(18446744073709551615:UInt64)=UInt64.ofNat (2^64-1):=rfl
  rw[h1,M5 (Nat.le_refl 64)]
  have h0:a.Lo.toNat/2^64=0:=Nat.div_eq_of_lt hlo
  unfold Addr.cut mkA Addr.n
  rw[hk]
  have hsplit:(2:Nat)^k=2^64*2^(k-64):=by rw[<- Nat.pow_add];congr 1;omega
  have hd:(a.Hi.toNat*2^64+a.Lo.toNat)/2^k=a.Hi.toNat/2^(k-64):=by
   rw[hsplit,<- Nat.div_div_eq_div_mul,Nat.add_comm,Nat.add_mul_div_right _ _ (Nat.two_pow_pos 64),h0,Nat.zero_add]
  rw[hd]
  have he:a.Hi.toNat/2^(k-64)*2^k=a.Hi.toNat/2^(k-64)*2^(k-64)*2^64:=by
   rw[hsplit,Nat.mul_comm (2^64),Nat.mul_assoc]
  rw[he,Nat.mul_div_cancel _ (Nat.two_pow_pos 64),h0]
  have e0:UInt64.ofNat (a.Hi.toNat/2^(k-64)*2^(k-64)*2^64)=UInt64.ofNat 0:=by
   apply UInt64.toNat_inj.1
   simp only[UInt64.toNat_ofNat',Nat.mul_mod_left,Nat.zero_mod]
  rw[e0,Nat.zero_mul]
 rw[if_neg (by simp;omega),AA,Un (by omega)]
 simp only[M5 (show k<=64 by omega)]
 have h1:(0:UInt64)=UInt64.ofNat (2^0-1):=rfl
 rw[h1,M5 (Nat.zero_le 64)]
 unfold Addr.cut mkA Addr.n
 rw[hk,gJ _ _ _ hlo (by omega)]
 have hlt:a.Lo.toNat/2^k*2^k<2^64:=Nat.lt_of_le_of_lt (Nat.div_mul_le_self _ _) hlo
 have e1:UInt64.ofNat (a.Hi.toNat/2^0*2^0)=UInt64.ofNat ((a.Hi.toNat*2^64+a.Lo.toNat/2^k*2^k)/2^64):=by
  congr 1
  omega
 have e2:UInt64.ofNat (a.Lo.toNat/2^k*2^k)=UInt64.ofNat (a.Hi.toNat*2^64+a.Lo.toNat/2^k*2^k):=by
  apply UInt64.toNat_inj.1
  simp only[UInt64.toNat_ofNat']
  omega
 rw[e1,e2]
theorem BZ (n:Nat):Aa (n:Int)=UInt8.ofNat n:=by
 unfold Aa
 apply UInt8.toNat_inj.1
 simp only[UInt8.toNat_ofNat']
 omega
def Addr.L (a:Addr):Nat:=if a.V6 then 16 else 4
def Ky (a:Addr)(k:Nat):UInt8:=UInt8.ofNat (a.n/2^(8*k))
theorem FI (a:Addr):Dy a=some a.ok:=by
 unfold Dy Addr.ok
 rw[AB]
 generalize ((a.Hi.toNat:Int)==0)=x
 generalize decide ((a.Lo.toNat:Int)<4294967296)=y
 generalize a.V6=z
 cases z<;>cases x<;>rfl
theorem XZ {w:UInt64}{k:Nat}(hk:k<8) :
  Aa ((AW (Int.fdiv (w.toNat:Int) (2^(min (Int.toNat ((AW (8*((AW (k:Int)).toNat:Int))).toNat:Int)) 64)))).toNat:Int)=UInt8.ofNat (w.toNat/2^(8*k)):=by
 have h1:(AW (k:Int)).toNat=k:=by rw[BV];simp;omega
 have h2:(AW (8*((AW (k:Int)).toNat:Int))).toNat=8*k:=by
  rw[h1]
  have:(8*(k:Int))=((8*k:Nat):Int):=by omega
  rw[this,BV];simp;omega
 have h3:Int.fdiv (w.toNat:Int) ((2:Int)^(8*k))=((w.toNat/2^(8*k):Nat):Int):=by
  have:((2:Int)^(8*k))=((2^(8*k):Nat):Int):=by simp
  rw[this,Int.fdiv_eq_ediv_of_nonneg _ (Int.natCast_nonneg _),Int.natCast_ediv]
 rw[h2,Int.toNat_natCast,Nat.min_eq_left (by omega),h3,BV,BZ]
 have:(UInt64.ofNat (w.toNat/2^(8*k))).toNat=w.toNat/2^(8*k):=by
  have hd:w.toNat/2^(8*k)<2^64:=Nat.lt_of_le_of_lt (Nat.div_le_self _ _) w.toNat_lt
  rw[UInt64.toNat_ofNat',Nat.mod_eq_of_lt hd]
 rw[this]
theorem UT {a b:Nat}(h:a%256=b%256):UInt8.ofNat a=UInt8.ofNat b:=by
 apply UInt8.toNat_inj.1
 simp only[UInt8.toNat_ofNat']
 exact h
theorem UO {a:Addr}{k:Nat}(hk:k<16)(hv:a.ok=true)(h4:a.V6=false->k<4) :
  UInt8.ofNat ((if k ≥ 8 then a.Hi else a.Lo).toNat/2^(8*(k%8)))=Ky a k:=by
 unfold Ky Addr.n
 have hlo:=a.Lo.toNat_lt
 by_cases h8:k ≥ 8
 ·rw[if_pos h8]
  have e:8*k=64+8*(k%8):=by omega
  rw[e,Nat.pow_add,<- Nat.div_div_eq_div_mul,Nat.add_comm (a.Hi.toNat*2^64),Nat.add_mul_div_right _ _ (Nat.two_pow_pos 64),Nat.div_eq_of_lt hlo,Nat.zero_add]
 rw[if_neg h8]
 have e:k%8=k:=Nat.mod_eq_of_lt (by omega)
 rw[e]
 apply UT
 have e2:(2:Nat)^64=2^(8*k)*2^(64-8*k):=by rw[<- Nat.pow_add];congr 1;omega
 have e3:(2:Nat)^(64-8*k)=256*2^(56-8*k):=by
  have:(256:Nat)=2^8:=rfl
  rw[this,<- Nat.pow_add];congr 1;omega
 have e4:a.Hi.toNat*2^64=a.Hi.toNat*2^(56-8*k)*256*2^(8*k):=by
  rw[e2,e3,Nat.mul_assoc,Nat.mul_assoc]
  congr 1
  rw[Nat.mul_comm (2^(56-8*k)),Nat.mul_comm (2^(8*k))]
  rw[Nat.mul_assoc,Nat.mul_comm (2^(56-8*k)),Nat.mul_assoc]
 rw[e4,Nat.add_comm,Nat.add_mul_div_right _ _ (Nat.two_pow_pos _),Nat.add_mul_mod_self_right]
theorem Ho {a:Addr}(hv:a.ok=true):Ok (Bl a) fun l=>l.length=a.L/\∀j,j<a.L->l[j]?=some (Ky a (a.L-1-j)):=by
 unfold Bl
 rw[FI,AA,hv]
 refine .ite (fun h=>by simp at h) fun _=>?_
 refine .join (fun n:Int=>n=a.L) (fun k hk=>.ite (fun h=>hk _ (by unfold Addr.L;rw[if_pos h];rfl)) fun h=>hk _ (by unfold Addr.L;rw[if_neg h];rfl)) fun n hn=>?_
 have hL:a.L=16\/a.L=4:=by unfold Addr.L;split<;>simp
 subst hn
 refine .join (fun l:List UInt8=>l.length=a.L/\∀j,j<a.L->l[j]?=some (Ky a (a.L-1-j))) (fun k hk=>?_) fun l hl=>.ret hl
 refine .whileI (fun s:Int×List UInt8=>-1<=s.1/\s.1=a.L-1-s.2.length/\∀j,j<s.2.length->s.2[j]?=some (Ky a (a.L-1-j))) (fun s=>(s.1+1).toNat) ?_ ?_ ?_
 ·rw[AP (by omega)];simp;omega
 ·rw[AP (by omega)];exact CE (by omega)
 rintro next ⟨p,l⟩ ⟨h1,h2,h3⟩ hn
 simp only at h1 h2 h3
 refine .ite (fun h=>?_) fun h=>hk _ ⟨by simp at h;omega,fun j hj=>h3 j (by simp at h;omega)⟩
 simp only[decide_eq_true_eq] at h
 obtain⟨k,rfl⟩ :∃k:Nat,p=k:=⟨p.toNat,by omega⟩
 refine .join (fun w:UInt64=>w=if k ≥ 8 then a.Hi else a.Lo) (fun k' hk'=>.ite (fun h=>hk' _ (by rw[if_pos (by simp at h;omega)]) ) fun h=>hk' _ (by rw[if_neg (by simp at h;omega)])) fun w hw=>?_
 refine .bind (Ok.apnd (by decide) (by simp;omega)) fun l' hl'=>?_
 have hb:k<16:=by omega
 have ht:Int.tmod (k:Int) 8=((k%8:Nat):Int):=by rw[Int.tmod_eq_emod_of_nonneg (by omega)];omega
 rw[ht,XZ (Nat.mod_lt _ (by omega)),hw,UO hb hv (fun h4=>by unfold Addr.L at h2;simp[h4] at h2;omega)] at hl'
 subst hl'
 rw[AP (by omega)]
 refine hn _ ⟨by simp only;omega,by simp;omega,fun j hj=>?_⟩ (by simp only;omega)
 simp only[X11,X22] at hj
 by_cases hj':j<l.length
 ·simp only
  rw[List.getElem?_append_left hj'];exact h3 j hj'
 have:j=l.length:=by omega
 subst this
 simp only[List.getElem?_append_right (Nat.le_refl _),Nat.sub_self,List.getElem?_cons_zero]
 congr 2
 omega
theorem Ue {u v:Nat}(hu:u<2^64)(hv:v<256):AW ((BitVec.ofInt 64 ((AW ((u:Int)*(2^(min (Int.toNat 8) 64)))).toNat:Int) ||| BitVec.ofInt 64 ((AW (v:Int)).toNat:Int)).toNat:Int)=UInt64.ofNat (u*256+v):=by
 have h1:((u:Int)*(2^(min (Int.toNat 8) 64)))=((u*256:Nat):Int):=by
  have:min (Int.toNat 8) 64=8:=rfl
  rw[this];omega
 rw[h1,BV,BV,BV]
 have h2:(UInt64.ofNat v).toNat=v:=by simp only[UInt64.toNat_ofNat'];omega
 have h3:(UInt64.ofNat (u*256)).toNat=2^8*(u%2^56):=by simp only[UInt64.toNat_ofNat'];omega
 rw[h2,h3,BitVec.ofInt_natCast,BitVec.ofInt_natCast,BitVec.toNat_or,BitVec.toNat_ofNat,BitVec.toNat_ofNat,Nat.mod_eq_of_lt (show 2^8*(u%2^56)<2^64 by omega),Nat.mod_eq_of_lt (show v<2^64 by omega),
  ← Nat.two_pow_add_eq_or_of_lt (show v<2^8 by omega)]
 apply UInt64.toNat_inj.1
 simp only[UInt64.toNat_ofNat']
 omega
theorem Hw {l:List UInt8}(hl:l.length=4\/l.length=16):Ok (CY l) fun r=>r=(mkA (l.length==16) (val l%2^128),0):=by
 unfold CY
 refine .join (fun b=>b=false) (fun k hk=>.ite (fun h=>hk _ ?_) fun _=>hk _ rfl) fun b hb=>?_
 ·rcases hl with h' | h'<;>simp[h'] at h ⊢
 subst hb
 refine .ite (fun h=>by simp at h) fun _=>?_
 refine .join (fun a=>a=mkA (l.length==16) (val l%2^128)) (fun k hk=>?_) fun a ha=>.ret (by rw[ha])
 refine .forX (fun i s=>s=mkA (l.length==16) (val (l.take i)%2^128)) ?_ (fun s hs=>hk _ (by rw[hs,List.take_length])) ?_
 ·have:((l.length:Int)==16)=(l.length==16):=by rw[X28];simp only[beq_iff_eq];omega
  rw[this,List.take_zero]
  have e0:val []%2^128=0:=by simp[val]
  rw[e0]
  unfold mkA
  rfl
 rintro next x i s hx rfl hn
 refine hn _ ?_
 have hlt:=(X16.1 hx).1
 have ht:l.take (i+1)=l.take i++[x]:=by rw[List.take_add_one,hx];rfl
 rw[ht,Na]
 generalize val (l.take i)=m
 have hx8:=x.toNat_lt
 have hlo:(mkA (l.length==16) (m%2^128)).Lo.toNat=m%2^64:=by unfold mkA;simp only[UInt64.toNat_ofNat'];omega
 have hhi:(mkA (l.length==16) (m%2^128)).Hi.toNat=m/2^64%2^64:=by unfold mkA;simp only[UInt64.toNat_ofNat'];omega
 have h1:=Ue (u:=m%2^64) (v:=x.toNat) (by omega) hx8
 have h2:=Ue (u:=m/2^64%2^64) (v:=m%2^64/2^56) (by omega) (by omega)
 have h3:Int.fdiv ((m%2^64:Nat):Int) (2^(min (Int.toNat 56) 64))=((m%2^64/2^56:Nat):Int):=by
  have:min (Int.toNat 56) 64=56:=rfl
  have e5:((2:Int)^56)=((2^56:Nat):Int):=by simp
  rw[this,e5,Int.fdiv_eq_ediv_of_nonneg _ (Int.natCast_nonneg _),Int.natCast_ediv]
 rw[hlo,hhi,h3,h1,h2,WS]
 unfold mkA
 have e1:UInt64.ofNat (m/2^64%2^64*256+m%2^64/2^56)=UInt64.ofNat ((m*256+x.toNat)%2^128/2^64):=by
  apply UInt64.toNat_inj.1;simp only[UInt64.toNat_ofNat'];omega
 have e2:UInt64.ofNat (m%2^64*256+x.toNat)=UInt64.ofNat ((m*256+x.toNat)%2^128):=by
  apply UInt64.toNat_inj.1;simp only[UInt64.toNat_ofNat'];omega
 rw[e1,e2]
theorem O3 :∀(l:List UInt8) (q:Nat),(val l).testBit q=if q<8*l.length then (l.getD (l.length-1-q/8) 0).toNat.testBit (q%8) else false:=by
 intro l
 induction h:l.length generalizing l with
 | zero=>intro q;have:l=[]:=List.eq_nil_of_length_eq_zero h;subst this;simp[val]
 | succ n ih=>
  intro q
  obtain⟨l',x,rfl⟩ :∃l' x,l=l'++[x]:=by
   rcases List.eq_nil_or_concat l with h' | ⟨l',x,h'⟩
   ·subst h';simp at h
   exact⟨l',x,by simpa using h'⟩
  have hl':l'.length=n:=by simpa using h
  rw[Na,Nat.mul_comm,show (256:Nat)=2^8 from rfl,Nat.testBit_two_pow_mul_add _ (show x.toNat<2^8 from x.toNat_lt)]
  by_cases hq:q<8
  ·rw[if_pos hq,if_pos (by omega)]
   have e1:n+1-1-q/8=l'.length:=by omega
   rw[e1,Nat.mod_eq_of_lt hq]
   simp[List.getD_eq_getElem?_getD]
  rw[if_neg hq,ih l' hl']
  by_cases h2:q-8<8*n
  ·rw[if_pos h2,if_pos (by omega)]
   have e1:n-1-(q-8)/8=n+1-1-q/8:=by omega
   have e2:(q-8)%8=q%8:=by omega
   rw[e1,e2,List.getD_eq_getElem?_getD,List.getD_eq_getElem?_getD,List.getElem?_append_left (by omega)]
  rw[if_neg h2,if_neg (by omega)]
theorem YZ {x:UInt8}{r:Nat}(hr:r<8){s:Nat}(hs:s<8) :
  (Aa ((BitVec.ofInt 8 (x.toNat:Int) &&& ~~~BitVec.ofInt 8 ((Aa (Int.fdiv 128 (2^(min (Int.toNat ((AW (r:Int)).toNat:Int)) 8)))).toNat:Int)).toNat:Int)).toNat.testBit s=(x.toNat.testBit s&&!decide (7-r=s)):=by
 have h1:(AW (r:Int)).toNat=r:=by rw[BV];simp;omega
 have h2:Int.fdiv 128 ((2:Int)^r)=((2^(7-r):Nat):Int):=by
  have e1:((2:Int)^r)=((2^r:Nat):Int):=by simp
  have e2:(128:Int)=((128:Nat):Int):=rfl
  rw[e1,e2,Int.fdiv_eq_ediv_of_nonneg _ (Int.natCast_nonneg _),<- Int.natCast_ediv]
  congr 1
  have e3:(128:Nat)=2^(7-r)*2^r:=by rw[<- Nat.pow_add,show 7-r+r=7 by omega]
  rw[e3,Nat.mul_div_cancel _ (Nat.two_pow_pos r)]
 rw[h1,Int.toNat_natCast,Nat.min_eq_left (by omega),h2,BZ,BZ,BitVec.ofInt_natCast,BitVec.ofInt_natCast]
 have hp:2^(7-r)<256:=Nat.lt_of_le_of_lt (Nat.pow_le_pow_right (by omega) (show 7-r<=7 by omega)) (by decide)
 have h3:(UInt8.ofNat (2^(7-r))).toNat=2^(7-r):=by simp only[UInt8.toNat_ofNat'];exact Nat.mod_eq_of_lt hp
 rw[h3,UInt8.toNat_ofNat',Nat.testBit_mod_two_pow,BitVec.testBit_toNat]
 simp only[BitVec.getLsbD_and,BitVec.getLsbD_not,BitVec.getLsbD_ofNat,hs,decide_true,Bool.true_and,Nat.testBit_two_pow]
theorem Addr.cut_bit (a:Addr){n q:Nat}(hn:n<=a.w):(a.n/2^(a.w-n)*2^(a.w-n)).testBit q=(a.n.testBit q&&decide (a.w-n<=q)):=by
 rw[Nat.testBit_mul_two_pow,Nat.testBit_div_two_pow]
 by_cases h:a.w-n<=q
 ·simp[h]
 simp[h]
theorem ZV {b c:Bool}(h:cond b c false=true):b=true/\c=true:=by cases b<;>simp at h ⊢;exact h
theorem Addr.ok4 {a:Addr}(hv:a.ok=true)(h6:a.V6=false):a.Hi.toNat=0/\a.Lo.toNat<2^32:=by
 unfold Addr.ok at hv
 rw[h6] at hv
 obtain⟨h1,h2⟩:=ZV hv
 have h2:=of_decide_eq_true h2
 have h1:=eq_of_beq h1
 omega
theorem Addr.n_lt {a:Addr}(hv:a.ok=true):a.n<2^a.w:=by
 have h1:=a.Lo.toNat_lt
 have h2:=a.Hi.toNat_lt
 cases hv6:a.V6
 ·obtain⟨g1,g2⟩:=Addr.ok4 hv hv6
  have hw:a.w=32:=by unfold Addr.w;rw[hv6];rfl
  have hn:a.n=a.Lo.toNat:=by unfold Addr.n;rw[g1,Nat.zero_mul,Nat.zero_add]
  rw[hw,hn];exact g2
 have hw:a.w=128:=by unfold Addr.w;rw[hv6];rfl
 rw[hw]
 unfold Addr.n
 omega
theorem SB {a:Addr}{n:Nat}(hv:a.ok=true)(hn:n<=a.w):Ok (EC a (n:Int)) fun r=>r=(⟨a.cut n,n⟩,0):=by
 have hw:a.w=8*a.L:=by unfold Addr.w Addr.L;split<;>rfl
 have hL:a.L=16\/a.L=4:=by unfold Addr.L;split<;>simp
 unfold EC
 rw[FI,AA,hv]
 refine .ite (fun h=>by simp at h) fun _=>?_
 have hwid:D3 a=some (a.w:Int):=by unfold D3 Addr.w;split<;>rfl
 refine .join (fun b=>b=false) (fun k hk=>.ite (fun h=>by simp at h;omega) fun _=>?_) fun b hb=>?_
 ·rw[hwid,AA]
  refine hk _ ?_
  simp only[cond_false,decide_eq_false_iff_not]
  omega
 subst hb
 refine .ite (fun h=>by simp at h) fun _=>?_
 refine .bind (Ho hv) fun l hl=>?_
 refine .join (fun l:List UInt8=>l.length=a.L/\val l=a.n/2^(a.w-n)*2^(a.w-n)) (fun k hk=>?_) fun l' hl'=>?_
 ·refine .whileI (fun s:Int×List UInt8=>∃P:Nat,s.1=P/\n<=P/\P<=8*a.L/\s.2.length=a.L/\∀q,q<8*a.L->(s.2.getD (a.L-1-q/8) 0).toNat.testBit (q%8)=(a.n.testBit q&&!decide (8*a.L-P<=q/\q<8*a.L-n)))
   (fun s=>(8*a.L-s.1).toNat) ⟨n,rfl,Nat.le_refl _,by omega,hl.1,fun q hq=>?_⟩ (CE (by simp only;omega)) ?_
  ·have h1:a.L-1-q/8<a.L:=by omega
   have h2:=hl.2 _ h1
   have h3:a.L-1-(a.L-1-q/8)=q/8:=by omega
   have h4:¬ (8*a.L-n<=q/\q<8*a.L-n):=by omega
   rw[List.getD_eq_getElem?_getD,h2,h3]
   simp only[Option.getD_some,h4,decide_false,Bool.not_false,Bool.and_true]
   unfold Ky
   rw[UInt8.toNat_ofNat',Nat.testBit_mod_two_pow,Nat.testBit_div_two_pow,Nat.mod_add_div]
   simp[Nat.mod_lt]
  rintro next ⟨p,l⟩ ⟨P,h1,h2,h3,h4,h5⟩ hnx
  simp only at h1 h4 h5
  subst h1
  have e8:AI (8*(l.length:Int))=((8*a.L:Nat):Int):=by rw[AP (by omega)];omega
  refine .ite (fun h=>?_) fun h=>hk _ ?_
  ·rw[e8] at h
   simp only[decide_eq_true_eq] at h
   have ed:AI (Int.tdiv (P:Int) 8)=((P/8:Nat):Int):=by
    rw[Int.tdiv_eq_ediv_of_nonneg (by omega),AP (by omega)];omega
   have et:Int.tmod (P:Int) 8=((P%8:Nat):Int):=by rw[Int.tmod_eq_emod_of_nonneg (by omega)];omega
   have hlt:P/8<l.length:=by omega
   rw[ed,B8 hlt,AA,AA]
   refine .bind (Ok.seti (by omega)) fun l' hl'=>?_
   rw[Int.toNat_natCast,et] at hl'
   rw[AP (by omega)]
   refine hnx _ ⟨P+1,by simp only;omega,by omega,by omega,by simp only;omega,fun q hq=>?_⟩ (by simp only;omega)
   simp only
   rw[hl'.1]
   by_cases hb:a.L-1-q/8=P/8
   ·have hx:=h5 q hq
    rw[hb,List.getD_eq_getElem?_getD,X15 hlt,Option.getD_some] at hx
    rw[hb,List.getD_eq_getElem?_getD,List.getElem?_set_self (by omega),Option.getD_some,YZ (Nat.mod_lt _ (by omega)) (Nat.mod_lt _ (by omega)),hx,Bool.and_assoc]
    congr 1
    rw[X28]
    simp only[X27,Bool.not_eq_true',decide_eq_false_iff_not]
    omega
   have hx:=h5 q hq
   rw[List.getD_eq_getElem?_getD] at hx
   rw[List.getD_eq_getElem?_getD,List.getElem?_set_ne (by omega),hx]
   congr 2
   rw[decide_eq_decide]
   omega
  rw[e8] at h
  simp only[decide_eq_true_eq] at h
  have hP:P=8*a.L:=by omega
  subst hP
  refine⟨h4,?_⟩
  apply Nat.eq_of_testBit_eq
  intro q
  rw[O3,a.cut_bit hn,h4]
  by_cases hq:q<8*a.L
  ·rw[if_pos hq,h5 q hq]
   congr 1
   rw[X28]
   simp only[Bool.not_eq_true',decide_eq_false_iff_not,decide_eq_true_eq]
   omega
  rw[if_neg hq]
  have:a.n.testBit q=false:=Nat.testBit_lt_two_pow (Nat.lt_of_lt_of_le (Addr.n_lt hv) (Nat.pow_le_pow_right (by omega) (by omega)))
  rw[this,Bool.false_and]
 refine .bind (Hw (by omega)) fun r hr=>?_
 subst hr
 refine .ret ?_
 have e1:(l'.length==16)=a.V6:=by
  rw[hl'.1]
  unfold Addr.L
  cases a.V6<;>rfl
 have e2:val l'%2^128=val l':=by
  refine Nat.mod_eq_of_lt ?_
  rw[hl'.2]
  exact Nat.lt_of_le_of_lt (Nat.div_mul_le_self _ _) (Nat.lt_of_lt_of_le (Addr.n_lt hv) (Nat.pow_le_pow_right (by omega) (by rw[hw];omega)))
 rw[e1,e2,hl'.2,Addr.cut]
theorem Q6 {a:Addr}{n:Int}(hn:¬ (a.ok=true/\0<=n/\n<=a.w)):Ok (EC a n) fun r=>r.2≠0:=by
 have hwid:D3 a=some (a.w:Int):=by unfold D3 Addr.w;split<;>rfl
 unfold EC
 rw[FI,AA]
 refine .ite (fun _=>.ret (by decide)) fun hv=>?_
 have hv:a.ok=true:=by simpa using hv
 refine .join (fun b=>b=true) (fun k hk=>.ite (fun _=>hk _ rfl) fun h=>?_) fun b hb=>?_
 ·rw[hwid,AA]
  refine hk _ ?_
  show decide (n > (a.w:Int))=true
  simp at h ⊢
  have:¬ (0<=n/\n<=a.w):=fun q=>hn ⟨hv,q⟩
  omega
 subst hb
 exact .ite (fun _=>.ret (by decide)) fun h=>absurd rfl h
theorem IY (a:Addr)(n:Int) :∃r e,EC a n=some (r,e)/\((a.ok=true/\0<=n/\n<=a.w)/\e=0/\r=⟨a.cut n.toNat,n⟩\/¬ (a.ok=true/\0<=n/\n<=a.w)/\e≠0):=by
 by_cases h:a.ok=true/\0<=n/\n<=a.w
 ·obtain⟨k,rfl⟩ :∃k:Nat,n=k:=⟨n.toNat,by omega⟩
  obtain⟨r,h1,h2⟩:=SB h.1 (n:=k) (by omega)
  exact⟨_,_,by rw[h1,h2],.inl ⟨h,rfl,by rw[Int.toNat_natCast]⟩⟩
 obtain⟨r,h1,h2⟩:=Q6 h
 exact⟨r.1,r.2,h1,.inr ⟨h,h2⟩⟩
instance (a:Addr) (n:Int):Tt (EC a n):=by
 obtain⟨r,e,h,_⟩:=IY a n
 exact⟨_,h⟩
instance (p:JAC):Tt (D1 p):=by unfold D1;exact Tt.auto
structure SmA (n:Nat)(a:JAD):Prop where
 p:a.Path.length<=n
 s :∀s∈a.Path,s.ASNs.length<=n
 c:a.Communities.length<=n
 l:a.JAF.length<=n
 o:a.Other.length<=n
 d :∀u∈a.Other,u.Data.length<=n
theorem SmA.mono {n m:Nat}{a:JAD}(h:SmA n a)(hnm:n<=m):SmA m a:=
 ⟨Nat.le_trans h.p hnm,fun s hs=>Nat.le_trans (h.s s hs) hnm,Nat.le_trans h.c hnm,Nat.le_trans h.l hnm,Nat.le_trans h.o hnm,fun u hu=>Nat.le_trans (h.d u hu) hnm⟩
theorem SmA.zero (n:Nat)(x:Addr)(a b c d:Int):SmA n ⟨a,[],x,b,c,d,[],[],[]⟩:=⟨Nat.zero_le _,fun _ h=>absurd h (by simp),Nat.zero_le _,Nat.zero_le _,Nat.zero_le _,fun _ h=>absurd h (by simp)⟩
instance (a b:List JAE):Tt (EQ a b):=by
 unfold EQ
 refine Ok.tt (Q:=fun _=>True) (.ite (fun _=>.ret trivial) fun hl=>.join (fun _=>True) (fun k hk=>?_) fun _ _=>.ret trivial)
 have hl:a.length=b.length:=by simp at hl;omega
 refine .for_ (fun _=>hk _ trivial) fun next x i s hi hx hnx=>.join (fun _=>True) (fun k2 hk2=>?_) fun _ _=>hnx _
 have hib:i<b.length:=by omega
 refine .join (fun c=>c=false->x.ASNs.length=b[i].ASNs.length) (fun k3 hk3=>?_) fun c hc=>.ite (fun _=>.ret trivial) fun hc'=>.join (fun _=>True) (fun k4 hk4=>?_) fun _ _=>hk2 _ trivial
 ·rw[B8 hib,AA]
  refine .ite (fun _=>hk3 _ (by simp)) fun _=>?_
  rw[AA]
  exact hk3 _ fun h=>by simp at h;omega
 have:=hc (by simpa using hc')
 refine .for_ (fun _=>hk4 _ trivial) fun next y j s hj hy hny=>?_
 rw[B8 hib,AA]
 refine .bind (.geti (by omega)) fun _ _=>.ite (fun _=>.ret trivial) fun _=>hny _
instance (a b:JAD):Tt (Dq a b):=by unfold Dq;exact Tt.auto
theorem XS {K V:Type}[BEq K](hl :∀a b:K,(a==b)=true↔a=b){l:List (K×V)}{k k':K}{v:V}:BC (C2 l k v) k'=cond (k'==k) (some v) (BC l k'):=by
 induction l with
 | nil=>simp only[C2,BC];cases k'==k<;>rfl
 | cons p l ih=>
  simp only[C2]
  cases h:(k==p.1)
  ·simp only[Bool.false_eq_true,if_false,BC,ih]
   cases h2:(k'==p.1)
   ·simp
   have h3:(k'==k)=false:=by
    cases h4:(k'==k)
    ·rfl
    have e1:=(hl _ _).1 h2;have e2:=(hl _ _).1 h4
    rw[<- e2,e1,(hl _ _).2 rfl] at h
    simp at h
   rw[h3];simp
  simp only[if_true,BC]
  have e:=(hl _ _).1 h
  rw[<- e]
  cases k'==k<;>simp
theorem mget_mset {V:Type}{l:List (Int×V)}{k k':Int}{v:V}:BC (C2 l k v) k'=if k'=k then some v else BC l k':=by
 rw[XS (fun a b=>beq_iff_eq)]
 by_cases h:k'=k
 ·rw[if_pos h,h];simp
 rw[if_neg h,show (k'==k)=false by simpa using h];rfl
def Mb (n:Nat)(ks:List Int)(m:List (Int×List UInt8)):Prop:=(∀k v,BC m k=some v->v.length<=n)/\∀k∈ks,BC m k=none
theorem Mb.set {n:Nat}{ks ks':List Int}{m:List (Int×List UInt8)}{k:Int}{v:List UInt8}(h:Mb n ks m)(hv:v.length<=n)(hk :∀q∈ks',q∈ks/\q≠k):Mb n ks' (C2 m k v):=by
 refine⟨fun q u hq=>?_,fun q hq=>?_⟩
 ·rw[mget_mset] at hq
  split at hq
  ·obtain rfl:=X25 hq;exact hv
  exact h.1 _ _ hq
 rw[mget_mset,if_neg (hk q hq).2]
 exact h.2 q (hk q hq).1
theorem Mb.sub {n:Nat}{ks ks':List Int}{m:List (Int×List UInt8)}(h:Mb n ks m)(hk :∀q∈ks',q∈ks):Mb n ks' m:=⟨h.1,fun q hq=>h.2 q (hk q hq)⟩
def Du (p:JAC):Prop:=p.Addr.ok=true/\0<=p.Len/\p.Len<=p.Addr.w/\p.Addr.cut p.Len.toNat=p.Addr
theorem Addr.eqd_iff (a b:Addr):Addr.eqd a b=true↔a=b:=by
 unfold Addr.eqd
 simp only[X27,beq_iff_eq,Bool.and_true,Int.natCast_inj,UInt64.toNat_inj]
 constructor
 ·rintro⟨h1,h2,h3⟩;cases a;cases b;simp_all
 rintro rfl;exact⟨rfl,rfl,rfl⟩
theorem JAC.eqd_iff (a b:JAC):JAC.eqd a b=true↔a=b:=by
 have h:=Addr.eqd_iff a.Addr b.Addr
 unfold Addr.eqd at h
 unfold JAC.eqd
 rw[X27,h]
 simp only[Bool.and_true,beq_iff_eq]
 constructor
 ·rintro⟨h1,h2⟩;cases a;cases b;simp_all
 rintro rfl;exact⟨rfl,rfl⟩
theorem Qy (p:JAC):Ok (D1 p) fun b=>b=true↔Du p:=by
 obtain⟨r,e,h1,h2⟩:=IY p.Addr p.Len
 unfold D1
 rw[h1,AA]
 dsimp only
 unfold Du
 rcases h2 with ⟨h3,rfl,rfl⟩|⟨h3,h4⟩
 ·refine .join (fun b=>b=true↔p.Addr.cut p.Len.toNat=p.Addr) (fun k hk=>.ite (fun _=>hk _ ?_) fun h=>absurd rfl h) fun b hb=>.ret (by rw[hb];exact⟨fun h=>⟨h3.1,h3.2.1,h3.2.2,h⟩,fun h=>h.2.2.2⟩)
  show JAC.eqd p _=true↔_
  rw[JAC.eqd_iff]
  exact⟨fun h=>(congrArg JAC.Addr h).symm,fun h=>by rw[h]⟩
 refine .join (fun b=>b=false) (fun k hk=>.ite (fun h=>absurd (by simpa using h) h4) fun _=>hk _ rfl) fun b hb=>.ret ⟨fun h=>by rw[hb] at h;simp at h,fun h=>absurd ⟨h.1,h.2.1,h.2.2.1⟩ h3⟩
def Dk (d:JAI):Prop:=0<=d.At/\d.L.length<=9223372036854775807
def Sh (p:List JAE)(o:List JAA):Prop:=(p.length<=4/\∀s∈p,s.ASNs.length<=20)/\o.length<=4/\∀u∈o,u.Data.length<=4
theorem Sh.a {p:List JAE}{o:List JAA}(h:Sh p o){a b c d:Int}{x:Addr}{e:List JAB}{f:List JAF}(he:e.length<=8)(hf:f.length<=8):SmA 1000 ⟨a,p,x,b,c,d,e,f,o⟩:=
 ⟨by have:=h.1.1;simp only;omega,fun s hs=>by have:=h.1.2 s hs;omega,by simp only;omega,by simp only;omega,by have:=h.2.1;simp only;omega,fun u hu=>by have:=h.2.2 u hu;omega⟩
def pw (six:Bool):Nat:=if six=true then 16 else 4
def pk (n:UInt8):Nat:=(n.toNat+7)/8
def SN (six:Bool)(n:UInt8)(t:List UInt8):List UInt8:=t.take (pk n)++List.replicate (pw six-pk n) 0
def ct (six:Bool)(n:UInt8)(t:List UInt8):JAC:=⟨(addrOf (SN six n t)).cut n.toNat,n.toNat⟩
def Lj (six:Bool)(n:UInt8)(t:List UInt8):Option (JAC×List UInt8):=if 8*pw six<n.toNat\/t.length<pk n then none else some (ct six n t,t.drop (pk n))
def pfx (six:Bool):Nat->List UInt8->List JAC->Option (List JAC)
 | _,[],acc=>some acc
 | f+1,n::t,acc=>match Lj six n t with
  | none=>none
  | some (p,r)=>pfx six f r (acc++[p])
 | 0,_::_,_=>none
theorem OZ {six:Bool}{n:UInt8}{t:List UInt8}{p:JAC}{r:List UInt8}(h:Lj six n t=some (p,r)):r.length<=t.length:=by
 unfold Lj at h
 split at h
 ·cases h
 simp only[X24,X26] at h
 obtain⟨_,rfl⟩:=h
 simp
theorem TX (six:Bool)(n:Nat)(acc:List JAC):pfx six n [] acc=some acc:=by cases n<;>rfl
theorem U9 (six:Bool) :∀(n m:Nat) (b:List UInt8) (acc:List JAC),b.length<=n->b.length<=m->pfx six n b acc=pfx six m b acc
 | n,m,[],acc,_,_=>by rw[TX,TX]
 | n+1,m+1,x::t,acc,h1,h2=>by
  simp only[pfx]
  cases h:Lj six x t with
  | none=>rfl
  | some p=>
   obtain⟨u,r⟩:=p
   have:=OZ h
   simp only[X12] at h1 h2
   exact U9 six n m r _ (by omega) (by omega)
 | 0,_,_::_,_,h,_=>by simp at h
 | _,0,_::_,_,_,h=>by simp at h
def Hj (six:Bool)(b:List UInt8)(acc:List JAC):Option (List JAC):=pfx six b.length b acc
theorem TG (six:Bool)(x:UInt8)(t:List UInt8)(acc:List JAC):Hj six (x::t) acc=match Lj six x t with | none=>none | some (u,r)=>Hj six r (acc++[u]):=by
 unfold Hj
 rw[X12]
 simp only[pfx]
 cases h:Lj six x t with
 | none=>rfl
 | some p=>
  obtain⟨u,r⟩:=p
  have:=OZ h
  exact U9 six _ _ r _ (by omega) (by omega)
def Za (six:Bool)(b:List UInt8):List JAC×Bool:=match Hj six b [] with
 | none=>([],false)
 | some l=>(l,true)
theorem YE (six:Bool) :∀(f:Nat) (b:List UInt8) (acc l:List JAC),pfx six f b acc=some l->l.length<=acc.length+b.length
 | f,[],acc,l,h=>by
  rw[TX] at h
  obtain rfl:=X25 h
  simp
 | f+1,x::t,acc,l,h=>by
  simp only[pfx] at h
  cases hs:Lj six x t with
  | none=>rw[hs] at h;cases h
  | some p=>
   obtain⟨u,r⟩:=p
   rw[hs] at h
   have h1:=OZ hs
   have ih:=YE six f r _ l h
   simp only[X11,X12,X13] at ih ⊢
   omega
 | 0,_::_,_,_,h=>by cases h
theorem cn {six:Bool}{n:UInt8}(h:¬ 8*pw six<n.toNat):pk n<=pw six:=by
 unfold pk
 omega
theorem Yy {six:Bool}{n:UInt8}{t:List UInt8}(h1:¬ 8*pw six<n.toNat)(h2:¬ t.length<pk n):(SN six n t).length=pw six:=by
 have:=cn h1
 unfold SN
 simp only[X11,X18,X20]
 omega
theorem SY {l:List UInt8}(h:l.length=4\/l.length=16):A5 l=some (addrOf l,0)/\addrOf l=mkA (l.length==16) (val l%2^128):=by
 obtain⟨r,h1,h2⟩:=Hw h
 rw[UE] at h1
 have e:addrOf l=mkA (l.length==16) (val l%2^128):=by
  unfold addrOf
  rw[h1,h2];rfl
 refine⟨?_,e⟩
 rw[h1,h2,e]
theorem PM {six:Bool}{l:List UInt8}(h:l.length=pw six):A5 l=some (addrOf l,0)/\(addrOf l).V6=six/\(addrOf l).ok=true/\(addrOf l).w=8*pw six:=by
 have h4:l.length=4\/l.length=16:=by
  rw[h];unfold pw;cases six<;>simp
 obtain⟨g1,g2⟩:=SY h4
 have hv:(addrOf l).V6=six:=by
  rw[g2,WS,h]
  unfold pw;cases six<;>rfl
 refine⟨g1,hv,?_,?_⟩
 ·unfold Addr.ok
  rw[hv]
  cases six with
  | true=>rfl
  | false=>
   have hl:l.length=4:=h
   have hval:=Lr l
   rw[hl] at hval
   have hval:val l<4294967296:=hval
   have e1:(addrOf l).Hi.toNat=0:=by
    rw[g2];unfold mkA
    simp only[UInt64.toNat_ofNat']
    omega
   have e2:(addrOf l).Lo.toNat<4294967296:=by
    rw[g2];unfold mkA
    simp only[UInt64.toNat_ofNat']
    omega
   have e3:((((addrOf l).Hi.toNat:Nat):Int)==0)=true:=by rw[e1];rfl
   rw[e3,cond_false,cond_true]
   exact decide_eq_true (by omega)
 unfold Addr.w pw
 rw[hv]
 cases six<;>rfl
def HV (b:List UInt8):Option (List UInt8×List UInt8):=match b with
 | x::y::t=>if t.length<x.toNat*256+y.toNat then none else some (t.take (x.toNat*256+y.toNat),t.drop (x.toNat*256+y.toNat))
 | _=>none
theorem K2 {b p r:List UInt8}(h:HV b=some (p,r)):p.length+r.length+2=b.length:=by
 unfold HV at h
 split at h
 ·split at h
  ·cases h
  simp only[X24,X26] at h
  obtain⟨rfl,rfl⟩:=h
  simp only[X18,X17,X12]
  omega
 cases h
def DC (l:List JAA)(k:Int):List JAA:=l.filter fun x=>x.Type_==k
def isP (d:List UInt8):Bool:=d.take 3==[0,2,1]
def FW (d:List UInt8):Option (Addr×List JAC):=
 if isP d=true/\21<=d.length/\d.getD 3 0=16/\d.getD 20 0=0 then (Hj true (d.drop 21) []).map fun l=>(addrOf ((d.drop 4).take 16),l) else none
def En (d:List UInt8):Option (List JAC):=if isP d=true then Hj true (d.drop 3) [] else none
def zAd:Addr:=⟨false,(0:UInt64),(0:UInt64)⟩
def Ey (l:List JAA):Option (Addr×List JAC):=match DC l 14 with
 | []=>some (zAd,[])
 | [x]=>FW x.Data
 | _=>none
def DF (l:List JAA):Option (List JAC):=match DC l 15 with
 | []=>some []
 | [x]=>En x.Data
 | _=>none
structure Pt where
 l:List JAA
 next:Addr
 old:List JAC
 gone:List JAC
 four:List JAC
 six:List JAC
def okN (old gone four six:List JAC):Bool:=!(decide (0<four.length)&&decide (0<six.length))&&(decide (old.length+gone.length<=256)&&decide (four.length+six.length<=256))
def Xe (l:List JAA):Option (Addr×List JAC)->Option (List JAC)->Option (List JAC)->Option (List JAC)->Option Pt
 | some (n,six),some gone,some old,some four=>if okN old gone four six=true/\(rdS l).2≠12 then some ⟨l,n,old,gone,four,six⟩ else none
 | _,_,_,_=>none
def cp (w rest:List UInt8):Option (List JAA)->Option Pt
 | none=>none
 | some l=>Xe l (Ey l) (DF l) (Hj false w []) (Hj false rest [])
theorem I7 {w rest:List UInt8}{l:List JAA}:cp w rest (some l)=Xe l (Ey l) (DF l) (Hj false w []) (Hj false rest []):=rfl
def JZ (b:List UInt8):Option Pt:=match HV b with
 | none=>none
 | some (w,b1)=>match HV b1 with
  | none=>none
  | some (a,rest)=>cp w rest (PU a [])
theorem JP {l:List JAA}{n:Addr}{six gone old four:List JAC}:Xe l (some (n,six)) (some gone) (some old) (some four)=if okN old gone four six=true/\(rdS l).2≠12 then some ⟨l,n,old,gone,four,six⟩ else none:=rfl
theorem E3 {l:List JAA}{R:Option (Addr×List JAC)}{U O F:Option (List JAC)}(h:R=none\/U=none\/O=none\/F=none):Xe l R U O F=none:=by
 rcases h with rfl | rfl | rfl | rfl
 ·rfl
 ·cases R<;>rfl
 ·cases R<;>cases U<;>rfl
 cases R<;>cases U<;>cases O<;>rfl
def flg (x:JAA):Bool:=(x.Type_==14 || x.Type_==15)&&(bt x.Flags 192 != 128)
def Yg (P:Pt):Bool:=decide ((rdS P.l).2≠0) || (P.l.any flg || (!(D5 P.l 1) || (!(D5 P.l 2) || (decide (0<P.four.length)&&Addr.eqd (rdS P.l).1.Next zAd))))
def gV:JAG:=⟨[],zA,[]⟩
def cE (b:List UInt8):JAG×Int:=match JZ b with
 | none=>(gV,12)
 | some P=>if P.four++P.six=[] then (⟨P.old++P.gone,eA,[]⟩,0) else
  if Yg P=true then (⟨P.old++P.gone++(P.four++P.six),eA,[]⟩,13) else
   (⟨P.old++P.gone,if 0<P.six.length then { (rdS P.l).1 with Next:=P.next } else (rdS P.l).1,P.four++P.six⟩,0)
def LZ (b:List UInt8):List UInt8×List UInt8×Bool:=match HV b with
 | none=>([],[],false)
 | some (p,r)=>(p,r,true)
theorem cF (x y:UInt8)(t:List UInt8):Em (x::y::t)=some ((x.toNat*256+y.toNat:Nat):Int):=by
 unfold Em
 have hx:=x.toNat_lt
 rw[QQ,AA,UN,AA,WO (by omega) y.toNat_lt]
theorem VM {b:List UInt8}(hb:b.length<=1000000):Gn b=some (LZ b):=by
 match b,hb with
 | [],_=>rfl
 | [x],_=>rfl
 | x::y::t,hb=>
  have hx:=x.toNat_lt
  have hy:=y.toNat_lt
  simp only[X12] at hb
  unfold Gn LZ HV
  rw[AB,if_neg (by simp only[X12,decide_eq_true_eq];omega),cF,AA,AP (x:=((x::y::t).length:Int)-2) (by simp only[X12];omega)]
  dsimp only
  by_cases c:t.length<x.toNat*256+y.toNat
  ·rw[if_pos c,if_pos (by simp only[cond_false,decide_eq_true_eq,X12];omega)]
  have e:AI (2+((x.toNat*256+y.toNat:Nat):Int))=((2+(x.toNat*256+y.toNat):Nat):Int):=by rw[AP (by omega)];omega
  rw[if_neg c,if_neg (by simp only[cond_false,decide_eq_true_eq,X12];omega),AA,e,show (2:Int)=((2:Nat):Int) by rfl,EX (by omega) (by simp only[X12];omega),AA,G3 (by simp only[X12];omega),AA]
  have e1:2+(x.toNat*256+y.toNat)-2=x.toNat*256+y.toNat:=by omega
  have e2:2+(x.toNat*256+y.toNat)=(x.toNat*256+y.toNat)+2:=by omega
  rw[e1,e2]
  rfl
theorem Ef (a:Addr):E8 a=some a.ok:=by
 unfold E8 Addr.ok
 rw[AB]
 generalize ((a.Hi.toNat:Int)==0)=x
 generalize decide ((a.Lo.toNat:Int)<4294967296)=y
 generalize a.V6=z
 cases z<;>cases x<;>rfl
theorem Jj (a:Addr):CS a=some (a.w:Int):=by unfold CS Addr.w;split<;>rfl
theorem Y4 {a:Addr}{n:Nat}(hv:a.ok=true)(hn:n<=a.w):HC a (n:Int)=some (⟨a.cut n,n⟩,0):=by
 unfold HC
 rw[Ef,AA,hv,if_neg (by decide),AB,if_neg (by simp only[decide_eq_true_eq];omega),Jj,AA]
 dsimp only
 rw[if_neg (by simp only[cond_false,decide_eq_true_eq];omega),Jf a hn,AA]
theorem dV (x:UInt8):AI (1+AI (Int.tdiv (AI ((x.toNat:Int)+7)) 8))=((1+pk x:Nat):Int)/\AI (Int.tdiv (AI ((x.toNat:Int)+7)) 8)=(pk x:Int):=by
 have hx:=x.toNat_lt
 have e:AI (Int.tdiv (AI ((x.toNat:Int)+7)) 8)=(pk x:Int):=by
  unfold pk
  rw[AP (x:=(x.toNat:Int)+7) (by omega),Int.tdiv_eq_ediv_of_nonneg (by omega),AP (by omega)]
  omega
 refine⟨?_,e⟩
 rw[e]
 have:pk x<=40:=by unfold pk;omega
 rw[AP (by omega)]
 omega
theorem Zq {w:Nat}{ys:List UInt8}(h:ys.length<=w):cpy (List.replicate w (0:UInt8)) 0 (List.replicate w (0:UInt8)).length ys=ys++List.replicate (w-ys.length) 0:=by
 unfold cpy
 rw[List.take_zero,List.nil_append,X20,List.take_of_length_le h,List.drop_replicate]
 congr 2
 omega
theorem Gv {b:List UInt8}(hb:b.length<=1000000)(six:Bool):CJ b six=some (Za six b):=by
 unfold CJ
 have hw:pw six=4\/pw six=16:=by unfold pw;cases six<;>simp
 have hW :∀(K:Int->Option (List JAC×Bool)),AC (τ:=Int) (fun k1=>if six then k1 128 else k1 32) K=K ((8*pw six:Nat):Int):=by
  intro K
  rw[AB]
  cases six<;>rfl
 rw[hW,AB]
 have e8:AI (Int.tdiv ((8*pw six:Nat):Int) 8)=(pw six:Int):=by rw[Int.tdiv_eq_ediv_of_nonneg (by omega),AP (by omega)];omega
 rw[e8]
 refine (Da (fun s:List UInt8×List JAC=>s.1.length+s.2.length<=1000000) (fun s=>s.1.length) (fun s=>match Hj six s.1 s.2 with | none=>some ([],false)|some l=>some (l,true)) ?_ fuel (b,[]) (by simpa using hb) (CE (by simp only;omega))).trans ?_
 ·rintro next ⟨v,acc⟩ hl hn
  dsimp only at hl ⊢
  match v,hl,hn with
  | [],_,_=>rfl
  | x::t,hl,hn=>
   have hx:=x.toNat_lt
   obtain⟨p1,p2⟩:=dV x
   simp only[X12] at hl
   rw[if_pos (by simp),QQ,AA,TG,AB,p1]
   unfold Lj
   by_cases c1:8*pw six<x.toNat
   ·rw[if_pos (by simp only[decide_eq_true_eq];omega),if_pos (.inl c1)]
    rfl
   rw[if_neg (by simp only[decide_eq_true_eq];omega)]
   dsimp only
   by_cases c2:t.length<pk x
   ·rw[if_pos (by simp only[cond_false,decide_eq_true_eq,X12];omega),if_pos (.inr c2)]
   have hk:=cn c1
   rw[if_neg (by simp only[cond_false,decide_eq_true_eq,X12];omega),if_neg (fun q=>q.elim c1 c2),show (1:Int)=((1:Nat):Int) by rfl,EX (l:=x::t) (a:=1) (b:=1+pk x) (by omega) (by simp only[X12];omega)]
   have e4:((x::t).drop 1).take (1+pk x-1)=t.take (pk x):=by
    have:1+pk x-1=pk x:=by omega
    rw[this];rfl
   have hfl:=Yy (six:=six) (n:=x) (t:=t) c1 c2
   obtain⟨a1,a2,a3,a4⟩:=PM hfl
   have e5:cpy (List.replicate (Int.toNat (pw six:Int)) (0:UInt8)) 0 (List.replicate (Int.toNat (pw six:Int)) (0:UInt8)).length (t.take (pk x))=SN six x t:=by
    have hlen:(t.take (pk x)).length=pk x:=by simp only[X18];omega
    rw[Int.toNat_natCast,Zq (by omega),hlen]
    rfl
   have e6:(x::t).drop (1+pk x)=t.drop (pk x):=by rw[Nat.add_comm];rfl
   have e7:chk (0<=(pw six:Int)/\(pw six:Int)<=(pw six:Int)/\(pw six:Int)<=1048576)=some ():=if_pos (by omega)
   rw[e7,AA,AA,e4,e5,a1,AA]
   dsimp only
   rw[Y4 a3 (by omega),AA]
   dsimp only
   rw[AO (by decide) (by simp only[X22];omega),AA,G3 (by simp only[X12];omega),AA,e6]
   exact hn _ (by simp only[X11,X17,X12,X13];omega) (by simp only[X17,X12];omega)
 unfold Za
 cases Hj six b []<;>rfl
theorem SU (x:JAA)(t:List JAA)(k:Int):DC (x::t) k=if (x.Type_==k)=true then x::DC t k else DC t k:=by
 unfold DC
 rw[List.filter_cons]
theorem cm (x:UInt8)(n:Nat)(h:n<256):((x.toNat:Int) != (n:Int))=!decide (x=UInt8.ofNat n):=by
 have:(x=UInt8.ofNat n)↔x.toNat=n:=by
  rw[<- UInt8.toNat_inj,UInt8.toNat_ofNat',Nat.mod_eq_of_lt h]
 rw[X28]
 simp only[bne_iff_ne,ne_eq,Int.natCast_inj,Bool.not_eq_true',decide_eq_false_iff_not,this]
theorem VR {l:List UInt8}{i:Nat}(h:i<l.length):geti l (i:Int)=some l[i]:=B8 h
theorem Z6 (a b:List UInt8):bytes_Equal a b=some (a==b):=by
 unfold bytes_Equal
 rw[Sl,Sl]
theorem Ta (d:List UInt8):bytes_CutPrefix d [0,2,1]=some (if isP d=true then (d.drop 3,true) else (d,false)):=by
 have hp:bytes_HasPrefix d [0,2,1]=some (isP d):=by
  unfold bytes_HasPrefix
  rw[AB]
  by_cases h3:d.length<3
  ·have:isP d=false:=by
    unfold isP
    match d,h3 with
    | [],_=>rfl
    | [_],_=>simp
    | [_,_],_=>simp
   rw[this,if_neg (by simp only[X12,X13,decide_eq_true_eq];omega)]
  rw[if_pos (by simp only[X12,X13,decide_eq_true_eq];omega)]
  have p:part d 0 (([0,2,1]:List UInt8).length:Int)=some (d.take 3):=Q4 (n:=3) (by omega)
  rw[p,AA,Z6,AA]
  rfl
 unfold bytes_CutPrefix
 rw[hp,AA]
 by_cases h:isP d=true
 ·have h3:3<=d.length:=by
   unfold isP at h
   rcases Nat.lt_or_ge d.length 3 with q | q
   ·match d,q with
    | [],_=>simp at h
    | [_],_=>simp at h
    | [_,_],_=>simp at h
   exact q
  have p:part d (([0,2,1]:List UInt8).length:Int) (d.length:Int)=some (d.drop 3):=G3 (n:=3) h3
  rw[if_pos h,if_neg (by rw[h];decide),p,AA]
 rw[if_neg h,if_pos (by simpa using h)]
def spF:List JAA->JAH×Nat×Nat->Option (JAH×Nat×Nat)
 | [],s=>some s
 | x::t,(p,c,e)=>if x.Type_=14 then (match FW x.Data with
   | none=>none
   | some (a,l)=>spF t ({ p with next:=a,new6:=l },c+1,e)) else
  if x.Type_=15 then (match En x.Data with
   | none=>none
   | some l=>spF t ({ p with gone6:=l },c,e+1)) else spF t (p,c,e)
theorem Ds {x:JAA}{t:List JAA}{k:Int}(h:x.Type_≠k):DC (x::t) k=DC t k:=by rw[SU,if_neg (by simpa using h)]
theorem IP {x:JAA}{t:List JAA}{k:Int}(h:x.Type_=k):DC (x::t) k=x::DC t k:=by rw[SU,if_pos (by simpa using h)]
theorem M9 :∀{l:List JAA} {s:JAH×Nat×Nat},spF l s=none->(∃x∈DC l 14,FW x.Data=none)\/(∃x∈DC l 15,En x.Data=none)
 | [],s,h=>by cases h
 | x::t,(p,c,e),h=>by
  unfold spF at h
  split at h
  ·rename_i h14
   have h15:x.Type_≠15:=by omega
   rw[IP h14,Ds h15]
   split at h
   ·rename_i hr
    exact .inl ⟨x,by simp,hr⟩
   rcases M9 h with ⟨y,hy,q⟩|q
   ·exact .inl ⟨y,X19 _ hy,q⟩
   exact .inr q
  rename_i h14
  split at h
  ·rename_i h15
   rw[Ds h14,IP h15]
   split at h
   ·rename_i hr
    exact .inr ⟨x,by simp,hr⟩
   rcases M9 h with q | ⟨y,hy,q⟩
   ·exact .inl q
   exact .inr ⟨y,X19 _ hy,q⟩
  rename_i h15
  rw[Ds h14,Ds h15]
  exact M9 h
structure SpR (l:List JAA)(p q:JAH)(c c' e e':Nat):Prop where
 c:c'=c+(DC l 14).length
 e:e'=e+(DC l 15).length
 a0:DC l 14=[]->q.next=p.next/\q.new6=p.new6
 a1 :∀x,DC l 14=[x]->FW x.Data=some (q.next,q.new6)
 b0:DC l 15=[]->q.gone6=p.gone6
 b1 :∀x,DC l 15=[x]->En x.Data=some q.gone6
 k:q.attrs=p.attrs/\q.gone4=p.gone4/\q.new4=p.new4
theorem NX :∀{l:List JAA} {p q:JAH} {c c' e e':Nat},spF l (p,c,e)=some (q,c',e')->SpR l p q c c' e e'
 | [],p,q,c,c',e,e',h=>by
  simp only[spF,X24,X26] at h
  obtain⟨rfl,rfl,rfl⟩:=h
  exact⟨rfl,rfl,fun _=>⟨rfl,rfl⟩,fun x hx=>(by cases hx),fun _=>rfl,fun x hx=>(by cases hx),rfl,rfl,rfl⟩
 | x::t,p,q,c,c',e,e',h=>by
  unfold spF at h
  split at h
  ·rename_i h14
   have h15:x.Type_≠15:=by omega
   split at h
   ·cases h
   rename_i a l hr
   have ih:=NX h
   refine⟨?_,?_,fun z=>?_,fun y z=>?_,fun z=>?_,fun y z=>?_,ih.k⟩
   ·rw[IP h14,X12];have:=ih.c;omega
   ·rw[Ds h15];exact ih.e
   ·rw[IP h14] at z;cases z
   ·rw[IP h14] at z
    obtain⟨rfl,z2⟩:=List.cons.inj z
    obtain⟨i1,i2⟩:=ih.a0 z2
    rw[hr,i1,i2]
   ·rw[Ds h15] at z;exact ih.b0 z
   rw[Ds h15] at z;exact ih.b1 y z
  rename_i h14
  split at h
  ·rename_i h15
   split at h
   ·cases h
   rename_i l hr
   have ih:=NX h
   refine⟨?_,?_,fun z=>?_,fun y z=>?_,fun z=>?_,fun y z=>?_,ih.k⟩
   ·rw[Ds h14];exact ih.c
   ·rw[IP h15,X12];have:=ih.e;omega
   ·rw[Ds h14] at z;exact ih.a0 z
   ·rw[Ds h14] at z;exact ih.a1 y z
   ·rw[IP h15] at z;cases z
   rw[IP h15] at z
   obtain⟨rfl,z2⟩:=List.cons.inj z
   have i1:=ih.b0 z2
   rw[hr,i1]
  rename_i h15
  have ih:=NX h
  refine⟨?_,?_,fun z=>?_,fun y z=>?_,fun z=>?_,fun y z=>?_,ih.k⟩
  ·rw[Ds h14];exact ih.c
  ·rw[Ds h15];exact ih.e
  ·rw[Ds h14] at z;exact ih.a0 z
  ·rw[Ds h14] at z;exact ih.a1 y z
  ·rw[Ds h15] at z;exact ih.b0 z
  rw[Ds h15] at z;exact ih.b1 y z
theorem W9 {d:List UInt8}(hd:d.length<=1000000){v8:List UInt8}{v9:Bool}(hv:(if isP d=true then (d.drop 3,true) else (d,false))=(v8,v9)){ρ:Type}{B:Option ρ}{G:Addr->List JAC×Bool->Option ρ}{L:Option ρ}
  (hL:L=(AC (τ:=Bool) (fun k11=>
      if (!v9) then
       k11 true
      else
       if (cond false true (decide ((v8.length:Int)<18))) then
        k11 true
       else
        Option.bind (geti v8 0) fun v12=>
        if (cond false true ((v12.toNat:Int) != 16)) then
         k11 true
        else
         Option.bind (geti v8 17) fun v13=>
         k11 (cond false true ((v13.toNat:Int) != 0))
     ) fun v14=>
     if v14 then
      B
     else
      Option.bind (part v8 1 17) fun v15=>
      Option.bind (A5 v15) fun (v16,v17)=>
      Option.bind (part v8 18 (v8.length:Int)) fun v18=>
      Option.bind (CJ v18 true) fun v=>G v16 v)):match FW d with
   | none=>L=B \/∃a l,L=G a (l,false)
   | some (a,l)=>L=G a (l,true):=by
 rw[AB] at hL
 by_cases hp:isP d=true
 case neg=>
  rw[if_neg hp] at hv
  obtain⟨rfl,rfl⟩:=Prod.mk.inj hv
  rw[show FW d=none from if_neg (fun q=>hp q.1)]
  exact .inl hL
 rw[if_pos hp] at hv
 obtain⟨rfl,rfl⟩:=Prod.mk.inj hv
 rw[if_neg (by decide)] at hL
 by_cases hl:d.length<21
 ·rw[if_pos (by simp only[cond_false,decide_eq_true_eq,X17];omega)] at hL
  rw[show FW d=none from if_neg (fun q=>by omega)]
  exact .inl hL
 rw[if_neg (by simp only[cond_false,decide_eq_true_eq,X17];omega)] at hL
 have g0:geti (d.drop 3) 0=some (d.getD 3 0):=by
  have:=VR (l:=d.drop 3) (i:=0) (by simp only[X17];omega)
  have e:(d.drop 3)[0]'(by simp only[X17];omega)=d.getD 3 0:=by
   rw[List.getElem_drop,List.getD_eq_getElem?_getD,X15 (by omega),Option.getD_some]
  rw[<- e];exact this
 have g17:geti (d.drop 3) 17=some (d.getD 20 0):=by
  have:=VR (l:=d.drop 3) (i:=17) (by simp only[X17];omega)
  have e:(d.drop 3)[17]'(by simp only[X17];omega)=d.getD 20 0:=by
   rw[List.getElem_drop,List.getD_eq_getElem?_getD,X15 (by omega),Option.getD_some]
  rw[<- e];exact this
 have c3:(((d.getD 3 0).toNat:Int) != 16)=!decide (d.getD 3 0=16):=cm _ 16 (by omega)
 have c20:(((d.getD 20 0).toNat:Int) != 0)=!decide (d.getD 20 0=0):=cm _ 0 (by omega)
 rw[g0,AA,g17,AA,c3,c20] at hL
 by_cases k3:d.getD 3 0=16
 case neg=>
  rw[if_pos (by simp only[k3,decide_false,Bool.not_false,cond_false])] at hL
  rw[show FW d=none from if_neg (fun q=>k3 q.2.2.1)]
  exact .inl hL
 rw[if_neg (by simp only[k3,decide_true,Bool.not_true,cond_false];decide)] at hL
 by_cases k20:d.getD 20 0=0
 case neg=>
  rw[decide_eq_false k20] at hL
  rw[show FW d=none from if_neg (fun q=>k20 q.2.2.2)]
  exact .inl hL
 have p1:part (d.drop 3) 1 17=some ((d.drop 4).take 16):=by
  have:=EX (l:=d.drop 3) (a:=1) (b:=17) (by omega) (by simp only[X17];omega)
  rw[List.drop_drop] at this
  exact this
 have p2:part (d.drop 3) 18 ((d.drop 3).length:Int)=some (d.drop 21):=by
  have:=G3 (l:=d.drop 3) (n:=18) (by simp only[X17];omega)
  rw[List.drop_drop] at this
  exact this
 have hl16:((d.drop 4).take 16).length=pw true:=by
  show _=16
  simp only[X18,X17]
  omega
 rw[decide_eq_true k20] at hL
 dsimp only at hL
 rw[if_neg (by decide),p1,AA,(PM hl16).1,AA] at hL
 dsimp only at hL
 rw[p2,AA,Gv (by simp only[X17];omega),AA] at hL
 unfold Za at hL
 rw[show FW d=_ from if_pos ⟨hp,by omega,k3,k20⟩]
 cases hx:Hj true (d.drop 21) [] with
 | none=>rw[hx] at hL;exact .inr ⟨_,_,hL⟩
 | some l=>rw[hx] at hL;exact hL
theorem Tv {p:JAH}(hl:p.attrs.length<=1000000)(hd :∀x∈p.attrs,x.Data.length<=1000000) :∃r,DG p=some r/\(match spF p.attrs (p,0,0) with
  | none=>r.1=false
  | some (q,c,e)=>r=(decide (c<2)&&decide (e<2),q)):=by
 unfold DG
 rw[AB]
 generalize hR:spF p.attrs (p,0,0)=R
 refine YN (fun (t:List JAA) _ (s:JAH×List (Int×Int))=>(∃c e:Nat,(BC s.2 14).getD 0=(c:Int)/\(BC s.2 15).getD 0=(e:Int)/\c+e+t.length<=1000000/\spF t (s.1,c,e)=R)/\∀x∈t,x.Data.length<=1000000) _ ?_ ?_ p.attrs 0 (p,[]) ⟨⟨0,0,rfl,rfl,by omega,hR⟩,hd⟩
 ·rintro i ⟨v2,v3⟩ ⟨⟨c,e,h1,h2,h3,h4⟩,_⟩
  have h4:some (v2,c,e)=R:=h4
  subst h4
  refine⟨(decide (c<2)&&decide (e<2),v2),?_,rfl⟩
  dsimp only at h1 h2 ⊢
  rw[AB,AA,h1,AA,h2]
  by_cases hc:c<2
  ·rw[if_pos (by simp only[decide_eq_true_eq];omega),decide_eq_true hc]
   have:decide ((e:Int)<2)=decide (e<2):=by rw[decide_eq_decide];omega
   rw[this]
   rfl
  rw[if_neg (by simp only[decide_eq_true_eq];omega),decide_eq_false hc]
  rfl
 rintro next x t i ⟨v2,v3⟩ ⟨⟨c,e,h1,h2,h3,h4⟩,hdx⟩ hn
 have hdd:=hdx x (by simp)
 have hdt :∀y∈t,y.Data.length<=1000000:=fun y hy=>hdx y (X19 _ hy)
 simp only[X12] at h1 h2 h3 h4
 dsimp only
 obtain⟨v8,v9,hv⟩ :∃v8 v9,(if isP x.Data=true then (x.Data.drop 3,true) else (x.Data,false))=(v8,v9):=⟨_,_,rfl⟩
 rw[AA,Ta,hv,AA]
 dsimp only
 rw[AB]
 by_cases h14:x.Type_=14
 ·rw[if_pos (by rw[h14];rfl)]
  have hz:=W9 hdd hv (B:=some (false,v2)) (G:=fun a q=>if (!q.2) then some (false,{ v2 with next:=a,new6:=q.1 }) else next ({ v2 with next:=a,new6:=q.1 },C2 v3 x.Type_ (AI ((BC v3 x.Type_).getD 0+1)))) rfl
  unfold spF at h4
  rw[if_pos h14] at h4
  cases hr:FW x.Data with
  | none=>
   rw[hr] at hz h4
   have h4:none=R:=h4
   subst h4
   rcases hz with hz | ⟨a,l,hz⟩
   ·exact⟨_,hz,rfl⟩
   exact⟨_,hz,rfl⟩
  | some q=>
   obtain⟨a,l⟩:=q
   rw[hr] at hz h4
   dsimp only at hz h4
   rw[if_neg (by decide)] at hz
   obtain⟨r,g1,g2⟩:=hn ({ v2 with next:=a,new6:=l },C2 v3 x.Type_ (AI ((BC v3 x.Type_).getD 0+1))) ⟨⟨c+1,e,by
    rw[mget_mset,if_pos h14.symm,h14,h1,Option.getD_some,AP (by omega)];omega,by
    rw[mget_mset,if_neg (by omega)];exact h2,by omega,h4⟩,hdt⟩
   exact⟨r,Eq.trans hz g1,g2⟩
 rw[if_neg (by simpa using h14),AB]
 unfold spF at h4
 rw[if_neg h14] at h4
 by_cases h15:x.Type_=15
 ·rw[if_pos (by rw[h15];rfl),AB]
  rw[if_pos h15] at h4
  by_cases hp:isP x.Data=true
  ·rw[if_pos hp] at hv
   obtain⟨rfl,rfl⟩:=Prod.mk.inj hv
   rw[if_pos rfl,Gv (by simp only[X17];omega),AA]
   rw[show En x.Data=_ from if_pos hp] at h4
   unfold Za
   cases hx:Hj true (x.Data.drop 3) [] with
   | none=>
    rw[hx] at h4
    have h4:none=R:=h4
    subst h4
    exact⟨_,rfl,rfl⟩
   | some l=>
    rw[hx] at h4
    dsimp only at h4 ⊢
    rw[if_neg (by decide)]
    exact hn _ ⟨⟨c,e+1,by
     rw[mget_mset,if_neg (by omega)];exact h1,by
     rw[mget_mset,if_pos h15.symm,h15,h2,Option.getD_some,AP (by omega)];omega,by omega,h4⟩,hdt⟩
  rw[if_neg hp] at hv
  obtain⟨rfl,rfl⟩:=Prod.mk.inj hv
  rw[show En x.Data=none from if_neg hp] at h4
  have h4:none=R:=h4
  subst h4
  exact⟨_,rfl,rfl⟩
 rw[if_neg (by simpa using h15)]
 rw[if_neg h15] at h4
 dsimp only
 rw[if_neg (by decide)]
 refine hn _ ⟨⟨c,e,?_,?_,by omega,h4⟩,hdt⟩
 ·dsimp only
  rw[mget_mset,if_neg (by omega)];exact h1
 dsimp only
 rw[mget_mset,if_neg (by omega)];exact h2
theorem WB {l:List JAA}(h :∃x∈DC l 14,FW x.Data=none):Ey l=none:=by
 obtain⟨x,hx,hr⟩:=h
 unfold Ey
 match DC l 14,hx with
 | [y],hx=>
  rw[X14] at hx
  subst hx;exact hr
 | _::_::_,_=>rfl
theorem R7 {l:List JAA}(h :∃x∈DC l 15,En x.Data=none):DF l=none:=by
 obtain⟨x,hx,hr⟩:=h
 unfold DF
 match DC l 15,hx with
 | [y],hx=>
  rw[X14] at hx
  subst hx;exact hr
 | _::_::_,_=>rfl
theorem VF {l:List JAA}(h:2<=(DC l 14).length):Ey l=none:=by
 unfold Ey
 match DC l 14,h with
 | [],h=>simp at h
 | [_],h=>simp at h
 | _::_::_,_=>rfl
theorem R2 {l:List JAA}(h:2<=(DC l 15).length):DF l=none:=by
 unfold DF
 match DC l 15,h with
 | [],h=>simp at h
 | [_],h=>simp at h
 | _::_::_,_=>rfl
theorem SpR.reach {l:List JAA}{p q:JAH}{c c' e e':Nat}(h:SpR l p q c c' e e')(hp:p.next=zAd/\p.new6=[])(hn:(DC l 14).length<2):Ey l=some (q.next,q.new6):=by
 have h0:=h.a0
 have h1:=h.a1
 unfold Ey
 match DC l 14,h0,h1,hn with
 | [],h0,_,_=>
  obtain⟨e1,e2⟩:=h0 rfl
  rw[e1,e2,hp.1,hp.2]
 | [x],_,h1,_=>exact h1 x rfl
 | _::_::t,_,_,hn=>exact absurd hn (by simp only[X12];omega)
theorem SpR.unreach {l:List JAA}{p q:JAH}{c c' e e':Nat}(h:SpR l p q c c' e e')(hp:p.gone6=[])(hn:(DC l 15).length<2):DF l=some q.gone6:=by
 have h0:=h.b0
 have h1:=h.b1
 unfold DF
 match DC l 15,h0,h1,hn with
 | [],h0,_,_=>
  have e1:=h0 rfl
  rw[e1,hp]
 | [x],_,h1,_=>exact h1 x rfl
 | _::_::t,_,_,hn=>exact absurd hn (by simp only[X12];omega)
theorem ZH {ρ:Type}(x y A B C D:Bool)(K:Bool->Option ρ):AC (τ:=Bool) (fun k18=>
     if (!x)=true then
      k18 true
     else
      if (cond false true (!y))=true then
       k18 true
      else
       if A=true then
        if (cond false true (cond true B false))=true then
         k18 true
        else
         if (cond false true C)=true then
          k18 true
         else
          k18 (cond false true D)
       else
        if (cond false true C)=true then
         k18 true
        else
         k18 (cond false true D)) K=K (!x || (!y || ((A&&B) || (C || D)))):=by
 rw[AB]
 cases x<;>cases y<;>cases A<;>cases B<;>cases C<;>cases D<;>rfl
theorem db (old gone four six:List JAC):(decide ((four.length:Int) > 0)&&decide ((six.length:Int) > 0) || (decide ((old.length:Int)+gone.length > 256) || decide ((four.length:Int)+six.length > 256)))=!okN old gone four six:=by
 have e1:decide ((four.length:Int) > 0)=decide (0<four.length):=by rw[decide_eq_decide];omega
 have e2:decide ((six.length:Int) > 0)=decide (0<six.length):=by rw[decide_eq_decide];omega
 have e3:decide ((old.length:Int)+gone.length > 256)=!decide (old.length+gone.length<=256):=by rw[<- decide_not,decide_eq_decide];omega
 have e4:decide ((four.length:Int)+six.length > 256)=!decide (four.length+six.length<=256):=by rw[<- decide_not,decide_eq_decide];omega
 rw[e1,e2,e3,e4]
 unfold okN
 cases decide (0 < four.length)<;>cases decide (0 < six.length)<;>cases decide (old.length+gone.length<=256)<;>cases decide (four.length+six.length<=256)<;>rfl
theorem NA {six:Bool}{b:List UInt8}{l:List JAC}(h:Hj six b []=some l):l.length<=b.length:=by
 have:=YE six _ _ _ _ h
 simpa using this
theorem To {l:List JAA}{N:Nat}(hd :∀x∈l,x.Data.length<=N){p:List JAC}(h:DF l=some p):p.length<=N:=by
 unfold DF at h
 have hm :∀x∈DC l 15,x.Data.length<=N:=fun x hx=>hd x (List.mem_filter.1 hx).1
 match DC l 15,hm,h with
 | [],_,h=>obtain rfl:=X25 h;simp
 | [x],hm,h=>
  have h:En x.Data=some p:=h
  unfold En at h
  split at h
  ·have:=NA h
   have:=hm x (by simp)
   simp only[X17] at *
   omega
  cases h
theorem W0 {l:List JAA}{N:Nat}(hd :∀x∈l,x.Data.length<=N){a:Addr}{p:List JAC}(h:Ey l=some (a,p)):p.length<=N:=by
 unfold Ey at h
 have hm :∀x∈DC l 14,x.Data.length<=N:=fun x hx=>hd x (List.mem_filter.1 hx).1
 match DC l 14,hm,h with
 | [],_,h=>
  simp only[X24,X26] at h
  obtain⟨_,rfl⟩:=h;simp
 | [x],hm,h=>
  have h:FW x.Data=some (a,p):=h
  unfold FW at h
  split at h
  ·obtain⟨q,hq,he⟩:=Option.map_eq_some_iff.1 h
   simp only[X26] at he
   obtain⟨_,rfl⟩:=he
   have:=NA hq
   have:=hm x (by simp)
   simp only[X17] at *
   omega
  cases h
def p00:JAH:=⟨[],(⟨false,(0:UInt64),(0:UInt64)⟩:Addr),[],[],[],[]⟩
theorem Yb {b:List UInt8}(hb:b.length<=400000) :∃r,CU p00 b=some r/\(match JZ b with
  | none=>r.1=false
  | some P=>r=(true,⟨P.l,P.next,P.old,P.gone,P.four,P.six⟩)):=by
 unfold CU JZ
 rw[VM (by omega),AA]
 unfold LZ
 cases h1:HV b with
 | none=>exact⟨_,rfl,rfl⟩
 | some q=>
  obtain⟨w,b1⟩:=q
  have l1:=K2 h1
  dsimp only
  rw[if_neg (by decide),VM (by omega),AA]
  unfold LZ
  cases h2:HV b1 with
  | none=>exact⟨_,rfl,rfl⟩
  | some q=>
   obtain⟨a,rest⟩:=q
   have l2:=K2 h2
   dsimp only
   rw[if_neg (by decide),Wn (by omega),AA]
   unfold ag
   cases h3:PU a [] with
   | none=>exact⟨_,rfl,rfl⟩
   | some l=>
    obtain⟨s1,s2⟩:=WM (by omega) h3
    dsimp only
    rw[I7,AB,if_neg (by decide)]
    obtain⟨r,hr,hq⟩:=Tv (p:={ p00 with attrs:=l }) (by show l.length<=_;omega) (fun x hx=>by have:=s2 x hx;omega)
    rw[hr,AA]
    have hq':(match spF l ({ p00 with attrs:=l },0,0) with
     | none=>r.1=false
     | some (q,c,e)=>r=(decide (c<2)&&decide (e<2),q)):=hq
    cases hs:spF l ({ p00 with attrs:=l },0,0) with
    | none=>
     rw[hs] at hq'
     rw[E3 ((M9 hs).imp WB fun z=>.inl (R7 z))]
     obtain⟨r1,r2⟩:=r
     have hq':r1=false:=hq'
     subst hq'
     exact⟨_,rfl,rfl⟩
    | some z=>
     obtain⟨q,c,e⟩:=z
     rw[hs] at hq'
     have hq':r=(decide (c<2)&&decide (e<2),q):=hq'
     subst hq'
     have sp:=NX hs
     have c0:=sp.c
     have e0:=sp.e
     rw[Nat.zero_add] at c0 e0
     by_cases hc:(decide (c<2)&&decide (e<2))=true
     case neg=>
      have:Ey l=none\/DF l=none:=by
       rcases Nat.lt_or_ge c 2 with q1 | q1
       ·rcases Nat.lt_or_ge e 2 with q2 | q2
        ·exact absurd (by rw[decide_eq_true q1,decide_eq_true q2];rfl) hc
        exact .inr (R2 (by omega))
       exact .inl (VF (by omega))
      rw[E3 (this.imp id .inl),Bool.not_eq_true _ |>.mp hc]
      exact⟨_,rfl,rfl⟩
     rw[hc]
     rw[X27,decide_eq_true_eq,decide_eq_true_eq] at hc
     have hR:=sp.reach ⟨rfl,rfl⟩ (by omega)
     have hU:=sp.unreach rfl (by omega)
     obtain⟨ka,k4,kn⟩:=sp.k
     have ka:q.attrs=l:=ka
     rw[hR,hU]
     have n6:=W0 (N:=400000) (fun x hx=>s2 x hx) hR
     have g6:=To (N:=400000) (fun x hx=>s2 x hx) hU
     dsimp only
     rw[if_neg (by decide),Gv (by omega),AA,Gv (by omega)]
     unfold Za
     cases hO:Hj false w [] with
     | none=>rw[E3 (.inr (.inr (.inl rfl)))];exact⟨_,rfl,rfl⟩
     | some old=>
      have lo:=NA hO
      cases hF:Hj false rest [] with
      | none=>rw[E3 (.inr (.inr (.inr rfl)))];exact⟨_,rfl,rfl⟩
      | some four=>
       have lf:=NA hF
       dsimp only
       rw[AA]
       dsimp only
       rw[ZH,AP (x:=(old.length:Int)+(q.gone6.length:Int)) (by omega),AP (x:=(four.length:Int)+(q.new6.length:Int)) (by omega),db,ka,VJ ⟨by omega,fun x hx=>by have:=s2 x hx;omega⟩,AA]
       rw[JP]
       cases hk:okN old q.gone6 four q.new6 with
       | false=>
        rw[if_neg (show ¬ (false=true/\(rdS l).2≠12) by simp)]
        exact⟨_,rfl,rfl⟩
       | true=>
        rw[if_neg (by decide)]
        by_cases h12:(rdS l).2=12
        ·rw[if_neg (fun z=>z.2 h12)]
         refine⟨_,rfl,?_⟩
         show ((rdS l).2 != 12)=false
         rw[h12];rfl
        rw[if_pos ⟨rfl,h12⟩]
        refine⟨_,rfl,?_⟩
        have:((rdS l).2 != 12)=true:=by simpa using h12
        dsimp only
        rw[this,<- ka]
theorem Iq {α σ ρ:Type}{K:σ->Option ρ}{b:(σ->Option ρ)->α->Nat->σ->Option ρ}{x:α}{t:List α}{i:Nat}{s:σ}:An K b (x::t) i s=b (fun s=>An K b t (i+1) s) x i s:=rfl
theorem U1 {α σ ρ:Type}{K:σ->Option ρ}{b:(σ->Option ρ)->α->Nat->σ->Option ρ}{i:Nat}{s:σ}:An K b [] i s=K s:=rfl
theorem TP {x y:List JAC}(hx:x.length<=100000)(hy:y.length<=100000):Ax [x,y]=some (x++y):=by
 unfold Ax
 rw[AB,Iq]
 have e1:AI (0+(x.length:Int))=(x.length:Int):=by rw[AP (by omega)];omega
 have e2:AI ((x.length:Int)+(y.length:Int))=((x.length+y.length:Nat):Int):=by rw[AP (by omega)];omega
 rw[e1,if_neg (by simp only[decide_eq_true_eq];omega)]
 dsimp only
 rw[Iq,e2,if_neg (by simp only[decide_eq_true_eq];omega)]
 dsimp only
 rw[U1]
 have e3:AI (((x.length+y.length:Nat):Int)-AI (0-0))=((x.length+y.length:Nat):Int):=by
  have:AI (0-0)=0:=AP (by omega)
  rw[this,AP (by omega)];omega
 have hk :∀(K:List JAC->Option (List JAC)),AC (τ:=(List JAC)) (fun k8=>
    if (decide ((AI (((x.length+y.length:Nat):Int)-(AI (0-0)))) > 0)) then
     Option.bind (chk (0<(AI (((x.length+y.length:Nat):Int)-(AI (0-0))))/\(AI (((x.length+y.length:Nat):Int)-(AI (0-0))))<=1048576)) fun _=>
     Option.bind (part (List.replicate (Int.toNat (AI (((x.length+y.length:Nat):Int)-(AI (0-0))))) (⟨(⟨false,(0:UInt64),(0:UInt64)⟩:Addr),0⟩:JAC)) 0 0) fun v9=>
     k8 v9
    else
     k8 []) K=K []:=by
  intro K
  rw[AB,e3]
  by_cases hz:x.length+y.length=0
  ·rw[if_neg (by simp only[decide_eq_true_eq];omega)]
  have p:part (List.replicate (Int.toNat ((x.length+y.length:Nat):Int)) (⟨(⟨false,(0:UInt64),(0:UInt64)⟩:Addr),0⟩:JAC)) 0 0=some []:=by
   have:=EX (l:=List.replicate (Int.toNat ((x.length+y.length:Nat):Int)) (⟨(⟨false,(0:UInt64),(0:UInt64)⟩:Addr),0⟩:JAC)) (a:=0) (b:=0) (by omega) (by omega)
   rw[Nat.sub_self,List.take_zero] at this
   exact this
  rw[if_pos (by simp only[decide_eq_true_eq];omega),show chk _=some () from if_pos (by omega),AA,p,AA]
 rw[AB,if_neg (by simp only[decide_eq_true_eq];omega),hk]
 dsimp only
 rw[AB,Iq,AO (by decide) (by simp only[X13];omega),AA]
 dsimp only
 rw[Iq,AO (by decide) (by simp only[List.nil_append];omega),AA]
 dsimp only
 rw[U1,List.nil_append]
theorem Up (q:JAH)(t:Int):CL q t=some (D5 q.attrs t,q):=by
 have main :∀(l:List JAA) (i:Nat),∃n:Int,An (σ:=Int) (fun v2=>some (-1,v2)) (fun next3 (x4:JAA) i5 v2=>Option.bind (C9 x4 v2) fun (v6,v7)=>if v6 then some ((i5:Int),v7) else next3 v7) l i t=some (n,t)/\decide (n ≥ 0)=D5 l t:=by
  intro l
  induction l with
  | nil=>intro i;exact⟨-1,rfl,rfl⟩
  | cons x l ih=>
   intro i
   rw[Iq]
   unfold C9
   rw[AA]
   dsimp only
   have hc:D5 (x::l) t=((x.Type_==t) || D5 l t):=by
    unfold D5
    rw[List.any_cons]
    congr 1
    exact X28.2 ⟨fun h=>by rw[beq_iff_eq] at h ⊢;exact h.symm,fun h=>by rw[beq_iff_eq] at h ⊢;exact h.symm⟩
   rw[hc]
   by_cases hx:(x.Type_==t)=true
   ·rw[if_pos hx,hx]
    exact⟨_,rfl,by simp⟩
   rw[if_neg hx,Bool.not_eq_true _ |>.mp hx]
   exact ih (i+1)
 obtain⟨n,h1,h2⟩:=main q.attrs 0
 unfold CL Ai Ak
 rw[AB]
 show Option.bind (Option.bind (An (σ:=Int) (fun v2=>some (-1,v2)) _ q.attrs 0 t) _) _=_
 rw[h1,AA,AA]
 dsimp only
 rw[h2]
theorem XF (x:JAA):B5 x=some (flg x):=by
 unfold B5 flg
 rw[AB]
 show (if (x.Type_==14)=true then some (cond true (bt x.Flags 192 != 128) false) else if (cond false true (x.Type_==15))=true then some (cond true (bt x.Flags 192 != 128) false) else some false)=_
 cases (x.Type_==14)<;>cases (x.Type_==15)<;>cases (bt x.Flags 192 != 128)<;>rfl
theorem XA (l:List JAA):Af l=some (l.any flg):=ai (f:=B5) (q:=flg) fun x _=>XF x
theorem YW (P:Pt):DT ⟨P.l,P.next,P.old,P.gone,P.four,P.six⟩ (rdS P.l).1 (rdS P.l).2=some (Yg P,⟨P.l,P.next,P.old,P.gone,P.four,P.six⟩):=by
 unfold DT Yg
 rw[AB]
 by_cases he:(rdS P.l).2=0
 ·rw[if_neg (by rw[he];decide),XA,AA,Up,AA,decide_eq_false (fun h=>h he)]
  dsimp only
  rw[Up,AA]
  dsimp only
  have e1:decide ((P.four.length:Int) > 0)=decide (0<P.four.length):=by rw[decide_eq_decide];omega
  rw[e1]
  show (if (cond false true (P.l.any flg))=true then _ else _)=_
  have ez:Addr.eqd (rdS P.l).1.Next (⟨false,(0:UInt64),(0:UInt64)⟩:Addr)=Addr.eqd (rdS P.l).1.Next zAd:=rfl
  rw[ez]
  cases P.l.any flg<;>cases D5 P.l 1<;>cases D5 P.l 2<;>cases decide (0 < P.four.length)<;>cases Addr.eqd (rdS P.l).1.Next zAd<;>rfl
 rw[if_pos (by simpa using he),decide_eq_true (p:=(rdS P.l).2≠0) he]
 rfl
structure PtOK (b:List UInt8)(P:Pt):Prop where
 ok:okN P.old P.gone P.four P.six=true
 ne:(rdS P.l).2≠12
 l:P.l.length<=400000
 d :∀x∈P.l,x.Data.length<=400000
 h :∃w b1 a rest,HV b=some (w,b1)/\HV b1=some (a,rest)/\PU a []=some P.l/\Ey P.l=some (P.next,P.six)/\DF P.l=some P.gone/\Hj false w []=some P.old/\Hj false rest []=some P.four
theorem Su {b:List UInt8}(hb:b.length<=400000){P:Pt}(h:JZ b=some P):PtOK b P:=by
 unfold JZ at h
 split at h
 ·cases h
 rename_i w b1 h1
 have l1:=K2 h1
 split at h
 ·cases h
 rename_i a rest h2
 have l2:=K2 h2
 cases h3:PU a [] with
 | none=>rw[h3] at h;cases h
 | some l=>
  rw[h3,I7] at h
  obtain⟨s1,s2⟩:=WM (by omega) h3
  cases hR:Ey l with
  | none=>rw[E3 (.inl hR)] at h;cases h
  | some q=>
   obtain⟨n,six⟩:=q
   cases hU:DF l with
   | none=>rw[E3 (.inr (.inl hU))] at h;cases h
   | some gone=>
    cases hO:Hj false w [] with
    | none=>rw[E3 (.inr (.inr (.inl hO)))] at h;cases h
    | some old=>
     cases hF:Hj false rest [] with
     | none=>rw[E3 (.inr (.inr (.inr hF)))] at h;cases h
     | some four=>
      rw[hR,hU,hO,hF,JP] at h
      split at h
      ·rename_i hc
       obtain rfl:=X25 h
       exact⟨hc.1,hc.2,s1,s2,w,b1,a,rest,h1,h2,h3,hR,hU,hO,hF⟩
      cases h
theorem bm {old gone four six:List JAC}(h:okN old gone four six=true):old.length+gone.length<=256/\four.length+six.length<=256/\¬ (0<four.length/\0<six.length):=by
 unfold okN at h
 simp only[X27,Bool.not_eq_true',decide_eq_true_eq,Bool.and_eq_false_iff,decide_eq_false_iff_not] at h
 omega
theorem be {α:Type}(l:List α):((l.length:Int)==0)=true↔l=[]:=by
 rw[beq_iff_eq,Int.natCast_eq_zero,List.length_eq_zero_iff]
theorem Ux {b:List UInt8}(hb:b.length<=400000):Fb b=some (cE b):=by
 unfold Fb cE
 obtain⟨r,hr,hq⟩:=Yb hb
 show Option.bind (CU p00 b) _=_
 rw[hr,AA]
 cases hP:JZ b with
 | none=>
  rw[hP] at hq
  obtain⟨r1,r2⟩:=r
  have hq:r1=false:=hq
  subst hq
  rfl
 | some P=>
  rw[hP] at hq
  have hq:r=(true,⟨P.l,P.next,P.old,P.gone,P.four,P.six⟩):=hq
  subst hq
  obtain⟨p1,p2,p3,p4,_⟩:=Su hb hP
  obtain⟨n1,n2,_⟩:=bm p1
  dsimp only
  rw[if_neg (by decide),TP (by omega) (by omega),AA,show Fg=some eA from rfl,AA,TP (by omega) (by omega),AA]
  by_cases h0:P.four++P.six=[]
  ·rw[if_pos ((be _).2 h0),if_pos h0]
  rw[if_neg (fun h=>h0 ((be _).1 h)),if_neg h0,VJ ⟨by omega,fun x hx=>by have:=p4 x hx;omega⟩,AA]
  rw[YW,AA]
  dsimp only
  by_cases hf:Yg P=true
  ·rw[if_pos hf,if_pos hf,AO (by decide) (by simp only[X11];omega),AA]
  rw[if_neg hf,if_neg hf,AB]
  by_cases h6:0<P.six.length
  ·rw[if_pos (by simp only[decide_eq_true_eq];omega),if_pos h6]
  rw[if_neg (by simp only[decide_eq_true_eq];omega),if_neg h6]
def wr (x:JAA)(n:Int):Bool:=decide (n > 0)&&(bt x.Flags 192 != 128)
end Go.AX.Q19
end
