/-
  Texts of one proof, packed.
-/
import Derived.Test.YtbohbnpaadcfmaaGreatDoorKB5
import Derived.Test.YtbohbnpaadcfmaaGreatDoorKB7
import Derived.KernelRfl
set_option linter.all false
set_option maxRecDepth 100000
set_option maxHeartbeats 4000000
open List renaming length_map→X10,length_append→X11,length_cons→X12,length_nil→X13,mem_singleton→X14,length_drop→X17,length_take→X18,mem_cons_of_mem→X19,length_replicate→X20,length_set→X21,length_singleton→X22,mem_append→X23
open Option.some renaming inj→X25
open Bool renaming and_eq_true→X27,eq_iff_iff→X28
open Nat renaming le_of_ble_eq_true→X29
section
namespace Go.AX.Q19
open Go Go.AX
theorem JF {α:Type}(l:List α):((l.length:Int) != (([]:List α).length:Int))=!decide (l=[]):=by
 cases l with
 | nil=>rfl
 | cons x t=>
  rw[decide_eq_false (by simp),Bool.not_false,bne_iff_ne]
  simp only[X12,X13]
  omega
theorem ff (l:List JAD):EW l []=some (decide (l=[])):=by
 unfold EW
 rw[JF]
 cases l with
 | nil=>rfl
 | cons x t=>rw[decide_eq_false (by simp)];rfl
theorem fK (l:List JAB):EU l []=some (decide (l=[])):=by
 unfold EU
 rw[JF]
 cases l with
 | nil=>rfl
 | cons x t=>rw[decide_eq_false (by simp)];rfl
theorem fV (l:List JAF):B5 l []=some (decide (l=[])):=by
 unfold B5
 rw[JF]
 cases l with
 | nil=>rfl
 | cons x t=>rw[decide_eq_false (by simp)];rfl
theorem fm (l:List JAA):CL l []=some (decide (l=[])):=by
 unfold CL
 rw[JF]
 cases l with
 | nil=>rfl
 | cons x t=>rw[decide_eq_false (by simp)];rfl
theorem X9 (a:JAC):isE a=((a.Origin==-1)&&(decide (a.Path=[])&&(Addr.eqd a.Next zAd&&((a.MED==-1)&&((a.Pref==-1)&&((a.OTC==-1)&&(decide (a.Communities=[])&&(decide (a.JAF=[])&&decide (a.Other=[]))))))))):=by
 have h:=Xd a
 unfold DJ at h
 have e :∀x:Bool,cond true x false=x:=fun x=>rfl
 rw[AH,show eA.Path=[] from rfl,show eA.Communities=[] from rfl,show eA.JAF=[] from rfl,show eA.Other=[] from rfl,ff,AC,fK,AC,fV,AC,fm,AC] at h
 have h2:(if (a.Origin==-1)=true then if decide (a.Path=[])=true then if Addr.eqd a.Next zAd=true then if (a.MED==-1)=true then if (a.Pref==-1)=true then if (a.OTC==-1)=true then if decide (a.Communities=[])=true then if decide (a.JAF=[])=true then some (decide (a.Other=[])) else some false else some false else some false else some false else some false else some false else some false else some false)=some (isE a):=h
 generalize isE a=r at h2 ⊢
 generalize (a.Origin==-1)=c1 at h2 ⊢
 generalize decide (a.Path=[])=c2 at h2 ⊢
 generalize Addr.eqd a.Next zAd=c3 at h2 ⊢
 generalize (a.MED==-1)=c4 at h2 ⊢
 generalize (a.Pref==-1)=c5 at h2 ⊢
 generalize (a.OTC==-1)=c6 at h2 ⊢
 generalize decide (a.Communities=[])=c7 at h2 ⊢
 generalize decide (a.JAF=[])=c8 at h2 ⊢
 generalize decide (a.Other=[])=c9 at h2 ⊢
 cases c1<;>cases c2<;>cases c3<;>cases c4<;>cases c5<;>cases c6<;>cases c7<;>cases c8<;>simpa using h2.symm
theorem US (a:JAC):isE a=true↔a=eA:=by
 constructor
 ·intro h
  rw[X9] at h
  simp only[X27,beq_iff_eq,decide_eq_true_eq] at h
  obtain⟨h1,h2,h3,h4,h5,h6,h7,h8,h9⟩:=h
  have h3:=(Addr.eqd_iff _ _).1 h3
  obtain⟨a1,a2,a3,a4,a5,a6,a7,a8,a9⟩:=a
  dsimp only at *
  subst h1 h2 h3 h4 h5 h6 h7 h8 h9
  rfl
 rintro rfl
 have:=Xd eA
 rw[Si] at this
 exact (X25 this).symm
theorem fi:VA eA:=O0.1 (by decide)
theorem dV:wrS eA=[]:=by
 unfold wrS
 rw[List.flatMap_eq_nil_iff]
 intro k _
 have:G eA (k:Int)=none:=by
  unfold G
  have n1:¬ (eA.Origin≠-1):=fun q=>q rfl
  have n2:¬ (eA.Origin≠-1\/eA.Path≠[]):=fun q=>q.elim (fun q=>q rfl) fun q=>q rfl
  have n3:¬ (Fz eA=true):=by decide
  have n4:¬ (eA.MED≠-1):=fun q=>q rfl
  have n5:¬ (eA.Pref≠-1):=fun q=>q rfl
  have n6:¬ (eA.Communities≠[]):=fun q=>q rfl
  have n7:¬ (eA.JAF≠[]):=fun q=>q rfl
  have n8:¬ (eA.OTC≠-1):=fun q=>q rfl
  rw[if_neg n1,if_neg n2,if_neg n3,if_neg n4,if_neg n5,if_neg n6,if_neg n7,if_neg n8]
  simp only[ite_self]
 unfold ent
 rw[this]
 rfl
theorem eI {x y:Nat}(hx:x<2^56):x ||| 2^56*y=2^56*y+x:=by
 rw[Nat.or_comm]
 exact (Nat.two_pow_add_eq_or_of_lt hx y).symm
theorem aB (lo hi:UInt64):(AT ((BitVec.ofInt 64 ((AT (Int.fdiv (lo.toNat:Int) (2^(min (Int.toNat 8) 64)))).toNat:Int) ||| BitVec.ofInt 64 ((AT ((hi.toNat:Int)*(2^(min (Int.toNat 56) 64)))).toNat:Int)).toNat:Int)).toNat=2^56*(hi.toNat%256)+lo.toNat/256/\
  (AT (Int.fdiv (hi.toNat:Int) (2^(min (Int.toNat 8) 64)))).toNat=hi.toNat/256:=by
 have hl:=lo.toNat_lt
 have hh:=hi.toNat_lt
 have e1:Int.fdiv (lo.toNat:Int) (2^(min (Int.toNat 8) 64))=((lo.toNat/256:Nat):Int):=fd lo.toNat 8
 have e2:Int.fdiv (hi.toNat:Int) (2^(min (Int.toNat 8) 64))=((hi.toNat/256:Nat):Int):=fd hi.toNat 8
 have e3:((hi.toNat:Int)*(2^(min (Int.toNat 56) 64)))=((hi.toNat*2^56:Nat):Int):=by
  rw[Int.natCast_mul]
  rfl
 rw[e1,e2,e3,BP,BP,BP,BP]
 have f1:(UInt64.ofNat (lo.toNat/256)).toNat=lo.toNat/256:=by rw[UInt64.toNat_ofNat'];omega
 have f2:(UInt64.ofNat (hi.toNat/256)).toNat=hi.toNat/256:=by rw[UInt64.toNat_ofNat'];omega
 have f3:(UInt64.ofNat (hi.toNat*2^56)).toNat=2^56*(hi.toNat%256):=by rw[UInt64.toNat_ofNat'];omega
 refine⟨?_,f2⟩
 rw[f1,f3,BitVec.ofInt_natCast,BitVec.ofInt_natCast,BitVec.toNat_or,BitVec.toNat_ofNat,BitVec.toNat_ofNat,Nat.mod_eq_of_lt (by omega),Nat.mod_eq_of_lt (by omega),eI (by omega),UInt64.toNat_ofNat']
 omega
theorem bV (x:Addr)(b:Bool):(Addr.n ⟨b,AT (Int.fdiv (x.Hi.toNat:Int) (2^(min (Int.toNat 8) 64))),AT ((BitVec.ofInt 64 ((AT (Int.fdiv (x.Lo.toNat:Int) (2^(min (Int.toNat 8) 64)))).toNat:Int) ||| BitVec.ofInt 64 ((AT ((x.Hi.toNat:Int)*(2^(min (Int.toNat 56) 64)))).toNat:Int)).toNat:Int)⟩)=x.n/256:=by
 obtain⟨s1,s2⟩:=aB x.Lo x.Hi
 unfold Addr.n
 rw[s1,s2]
 have hl:=x.Lo.toNat_lt
 omega
theorem bH (x:Addr):Aa (x.Lo.toNat:Int)=UInt8.ofNat x.n:=by
 rw[BU]
 apply Wq
 unfold Addr.n
 omega
theorem KD {a:Addr}(h:a.ok=true):BM a=some (byB a):=by
 have hB:=(Gi h).2
 have hL:a.L=16\/a.L=4:=by unfold Addr.L;split<;>omega
 unfold BM
 rw[Eh,AC,h,if_neg (by decide),AH]
 have key :∀n:Int,n=a.L->(Option.bind (chk (0<=n/\n<=n/\n<=1048576)) fun _=>
  AI (τ:=(List UInt8)) (fun k4=>
   A6 (σ:=Int×Addr×(List UInt8)) (fun next5 (v6,v7,v8)=>
    if (decide (v6 ≥ 0)) then
     Option.bind (geti v8 v6) fun v9=>
     Option.bind (seti v8 v6 (Aa (v7.Lo.toNat:Int))) fun v10=>
     next5 ((AN (v6-1)),(⟨v7.V6,(AT (Int.fdiv (v7.Hi.toNat:Int) (2^(min (Int.toNat 8) 64)))),(AT ((BitVec.ofInt 64 ((AT (Int.fdiv (v7.Lo.toNat:Int) (2^(min (Int.toNat 8) 64)))).toNat:Int) ||| BitVec.ofInt 64 ((AT ((v7.Hi.toNat:Int)*(2^(min (Int.toNat 56) 64)))).toNat:Int)).toNat:Int))⟩:Addr),v10)
    else
     k4 v8
   ) fuel ((AN (n-1)),a,(List.replicate (Int.toNat n) (0:UInt8)))
  ) fun v11=>
  some v11)=some (byB a):=by
  intro n hn
  have ck:chk (0<=n/\n<=n/\n<=1048576)=some ():=by unfold chk;rw[if_pos (by omega)]
  rw[ck,AC,AH]
  refine (DW (fun s:Int×Addr×List UInt8=>∃j:Nat,j<=a.L/\s.1=(a.L:Int)-1-(j:Int)/\s.2.1.n=a.n/256^j/\s.2.2.length=a.L/\∀k,a.L-j<=k->k<a.L->s.2.2[k]?=some (KE a (a.L-1-k))) (fun s=>(s.1+1).toNat) (fun s=>some (byB a)) ?_ fuel (AN (n-1),a,List.replicate (Int.toNat n) (0:UInt8)) ?_ ?_).trans rfl
  ·rintro next ⟨i,x,l⟩ ⟨j,hj,h1,h2,h3,h4⟩ hk
   dsimp only at h1 h2 h3 h4 ⊢
   subst h1
   rcases (by omega:j=a.L\/j<a.L) with e | hlt
   ·rw[if_neg (by simp only[decide_eq_true_eq];omega)]
    congr 1
    apply List.ext_getElem?
    intro k
    by_cases q:k<a.L
    ·rw[h4 k (by omega) q,Xs h q]
    rw[List.getElem?_eq_none (by omega),List.getElem?_eq_none (by omega)]
   obtain⟨y,hy,_⟩:=Ok.geti (l:=l) (i:=(a.L:Int)-1-(j:Int)) (by omega)
   have hs:seti l ((a.L:Int)-1-(j:Int)) (Aa (x.Lo.toNat:Int))=some (l.set (a.L-1-j) (UInt8.ofNat x.n)):=by
    unfold seti
    rw[if_pos (by omega),bH]
    congr 2
    omega
   rw[if_pos (by simp only[decide_eq_true_eq];omega),hy,AC,hs,AC,AP (by omega)]
   refine hk _ ⟨j+1,by omega,by dsimp only;omega,?_,by dsimp only;rw[X21];exact h3,?_⟩ (by dsimp only;omega)
   ·dsimp only
    rw[bV,h2,Nat.div_div_eq_div_mul,Nat.pow_succ]
   dsimp only
   intro k k1 k2
   rw[List.getElem?_set]
   by_cases q:a.L-1-j=k
   ·rw[if_pos q,if_pos (by omega),<- q]
    have e2:a.L-1-(a.L-1-j)=j:=by omega
    rw[e2,h2]
    unfold KE
    rw[Nat.pow_mul]
   rw[if_neg q]
   exact h4 k (by omega) k2
  ·refine⟨0,by omega,by dsimp only;rw[AP (by omega)];omega,by simp,?_,fun k k1 k2=>by omega⟩
   dsimp only
   rw[X20]
   omega
  dsimp only
  rw[AP (by omega)]
  exact B2 (by omega)
 unfold Addr.L at key
 by_cases h6:a.V6=true
 ·rw[if_pos h6]
  rw[if_pos h6] at key
  exact key 16 rfl
 rw[if_neg h6]
 rw[if_neg h6] at key
 exact key 4 rfl
theorem dq (d:List UInt8)(h:d.length<=2048):(CG [⟨128,15,d⟩]).2=0/\(CG [⟨128,15,d⟩]).1=Ci [⟨128,15,d⟩]\/2044<d.length:=by
 by_cases q:2044<d.length
 ·exact .inr q
 left
 have hj:Ci [⟨128,15,d⟩]=J4 ⟨128,15,d⟩:=by unfold Ci;rw[List.flatMap_cons,List.flatMap_nil,List.append_nil]
 have hl:=Qu ⟨128,15,d⟩
 have hk:([⟨128,15,d⟩]:List JAA).all okJ=true:=by
  unfold okJ
  simp only[List.all_cons,List.all_nil,Bool.and_true]
  simp
  omega
 dsimp only at hl
 unfold CG
 rw[if_pos hk,hj,if_neg (by omega)]
 exact⟨rfl,rfl⟩
theorem am {l:List JAE}(h :∀p∈l,DU p)(hl:l.length<=40):FX ⟨l,eA,[]⟩=true:=by
 have c1:=Bm (six:=true) h
 have c2:=Bm (six:=false) h
 have hlen :∀a:List UInt8,(Hk ⟨l,eA,[]⟩ a).length=4+(An false l).length+a.length:=fun a=>by
  unfold Hk
  have t :∀n,(two n).length=2:=fun n=>rfl
  have z:(An false ([]:List JAE)).length=0:=rfl
  simp only[X11,t]
  rw[z]
  omega
 have e2:Bj ⟨l,eA,[]⟩=if 0<(An true l).length then [x15 ⟨l,eA,[]⟩] else []:=by
  rw[QB,UJ]
  rfl
 have hp:(Do ⟨l,eA,[]⟩).2=0/\(Do ⟨l,eA,[]⟩).1.length<=4077:=by
  unfold Do
  rw[e2]
  split
  ·have hd:(x15 ⟨l,eA,[]⟩).Data.length=3+(An true l).length:=by unfold x15;simp only[X11,X12,X13]
   have hx:x15 ⟨l,eA,[]⟩=⟨128,15,(x15 ⟨l,eA,[]⟩).Data⟩:=rfl
   rw[hx]
   rcases dq (x15 ⟨l,eA,[]⟩).Data (by omega) with ⟨j1,j2⟩|q
   ·rw[j1,if_neg (by decide)]
    refine⟨rfl,?_⟩
    dsimp only
    rw[hlen,j2]
    have:=Qu (x15 ⟨l,eA,[]⟩)
    have e:Ci [⟨128,15,(x15 ⟨l,eA,[]⟩).Data⟩]=J4 (x15 ⟨l,eA,[]⟩):=by unfold Ci;rw[List.flatMap_cons,List.flatMap_nil,List.append_nil];rfl
    rw[e]
    omega
   omega
  have j:CG []=([],0):=rfl
  rw[j,if_neg (by decide)]
  refine⟨rfl,?_⟩
  dsimp only
  rw[hlen,X13]
  omega
 have hE:isE eA=true:=(US eA).2 rfl
 unfold FX XM
 rw[hp.1]
 dsimp only
 rw[decide_eq_true (p:=l.length<=256) (by omega),List.append_nil,List.all_eq_true.2 (fun p hp=>(JB p).2.2 (h p hp)),hE,decide_eq_true (p:=(Do ⟨l,eA,[]⟩).1.length<=4077) hp.2]
 rfl
theorem Xl {lo:UInt64}(h:lo.toNat<4294967296):(⟨false,0,lo⟩:Addr).ok=true:=
 X1 (x:=(((0:UInt64).toNat:Int)==0)) (y:=decide ((lo.toNat:Int)<4294967296)) (by simp) (decide_eq_true (by omega))
theorem ok6 (hi lo:UInt64):(⟨true,hi,lo⟩:Addr).ok=true:=by unfold Addr.ok;simp only[cond_true]
theorem PN {x:Int}(h0:0<=x)(h1:x<4294967296):(AT x).toNat<4294967296:=by
 obtain⟨k,rfl⟩ :∃k:Nat,x=k:=⟨x.toNat,by omega⟩
 rw[BP]
 simp only[UInt64.toNat_ofNat']
 omega
theorem P9 {d:JAI}(hd:Dk d):Ok (FG d) fun r=>r.1.ok=true/\Dk r.2:=by
 unfold FG
 refine .bind (AM hd (by omega)) ?_
 rintro⟨c,d⟩ ⟨c1,c2,hd⟩
 dsimp only at c1 c2 hd ⊢
 refine .ite (fun _=>.bind (AM hd (by omega)) ?_) fun _=>.ite (fun _=>.bind (AM hd (by omega)) ?_) fun _=>.ite (fun _=>.bind (AM hd (by omega)) ?_) fun _=>.ite (fun _=>.bind (AM hd (by omega)) ?_) fun _=>.ite (fun _=>.bind (AM hd (by omega)) ?_) fun _=>.bind (AM hd (by omega)) ?_
 ·rintro⟨v,d⟩ ⟨v1,v2,hd⟩
  dsimp only at v1 v2 hd ⊢
  refine .bind (AM hd (by omega)) ?_
  rintro⟨u,d⟩ ⟨u1,u2,hd⟩
  dsimp only at u1 u2 hd ⊢
  refine .ret ⟨Xl ?_,hd⟩
  have e1:v*(2^(min (Int.toNat 8) 64))=v*256:=rfl
  rw[e1,AP (x:=v*256) (by omega),AP (x:=167772160+v*256) (by omega),AP (by omega)]
  exact PN (by omega) (by omega)
 ·rintro⟨v,d⟩ ⟨v1,v2,hd⟩
  dsimp only at v1 v2 hd ⊢
  refine .bind (AM hd (by omega)) ?_
  rintro⟨u,d⟩ ⟨u1,u2,hd⟩
  exact .ret ⟨ok6 _ _,hd⟩
 ·rintro⟨v,d⟩ ⟨v1,v2,hd⟩
  dsimp only at v1 v2 hd ⊢
  refine .bind (.geti (by simp;omega)) fun x hx=>.ret ⟨Xl ?_,hd⟩
  have:=hx.1
  simp only[List.mem_cons,List.not_mem_nil,or_false] at this
  rcases this with rfl | rfl | rfl | rfl | rfl<;>decide
 ·rintro⟨v,d⟩ ⟨v1,v2,hd⟩
  dsimp only at v1 v2 hd ⊢
  refine .bind (.geti (by simp;omega)) fun x hx=>.bind (AM hd (by omega)) ?_
  rintro⟨u,d⟩ ⟨u1,u2,hd⟩
  dsimp only at u1 u2 hd ⊢
  exact .bind (.geti (by simp;omega)) fun y hy=>.ret ⟨ok6 _ _,hd⟩
 ·rintro⟨v,d⟩ ⟨v1,v2,hd⟩
  dsimp only at v1 v2 hd ⊢
  refine .bind (AM hd (by omega)) ?_
  rintro⟨u,d⟩ ⟨u1,u2,hd⟩
  dsimp only at u1 u2 hd ⊢
  refine .bind (AM hd (by omega)) ?_
  rintro⟨u,d⟩ ⟨u1,u2,hd⟩
  dsimp only at u1 u2 hd ⊢
  refine .bind (AM hd (by omega)) ?_
  rintro⟨u,d⟩ ⟨u1,u2,hd⟩
  exact .ret ⟨ok6 _ _,hd⟩
 rintro⟨v,d⟩ ⟨v1,v2,hd⟩
 dsimp only at v1 v2 hd ⊢
 exact .ret ⟨Xl (PN (by omega) (by omega)),hd⟩
theorem Ia {d:JAI}(hd:Dk d):Ok (DZ d) fun r=>DU r.1/\Dk r.2:=by
 unfold DZ
 refine .bind (P9 hd) ?_
 rintro⟨a,d⟩ ⟨ha,hd⟩
 dsimp only at ha hd ⊢
 rw[JC]
 have hw:(if a.V6=true then (128:Int) else 32)=a.w:=by unfold Addr.w;split<;>rfl
 have hwb:a.w=128\/a.w=32:=by unfold Addr.w;split<;>simp
 rw[hw]
 refine .bind (AM hd (by omega)) ?_
 rintro⟨c,d⟩ ⟨c1,c2,hd⟩
 dsimp only at c1 c2 hd ⊢
 refine .join (fun p:Int×JAI=>(0<=p.1/\p.1<=a.w)/\Dk p.2) (fun k hk=>?_) ?_
 ·refine .ite (fun _=>?_) fun _=>?_
  ·rw[AP (x:=(a.w:Int)+1) (by omega)]
   refine .bind (AM hd (by omega)) ?_
   rintro⟨v,d⟩ ⟨v1,v2,hd⟩
   exact hk _ ⟨by simp only at v1 v2 ⊢;omega,hd⟩
  refine .join (fun p:Int×JAI=>(0<=p.1/\p.1<=a.w)/\Dk p.2) (fun k2 hk2=>.ite (fun _=>.bind (AM hd (by omega)) ?_) fun _=>?_) ?_
  ·rintro⟨v,d⟩ ⟨v1,v2,hd⟩
   dsimp only at v1 v2 hd ⊢
   rw[AP (by omega)]
   exact hk2 _ ⟨by simp only;omega,hd⟩
  ·refine .join (fun p:Int×JAI=>(0<=p.1/\p.1<=a.w)/\Dk p.2) (fun k3 hk3=>.ite (fun _=>.bind (AM hd (by omega)) ?_) fun _=>hk3 _ ⟨by simp only;omega,hd⟩) ?_
   ·rintro⟨v,d⟩ ⟨v1,v2,hd⟩
    dsimp only at v1 v2 hd ⊢
    refine .bind (.geti (by simp;omega)) fun x hx=>hk3 _ ⟨?_,hd⟩
    have:=hx.1
    simp only[List.mem_cons,List.not_mem_nil,or_false] at this
    simp only
    rcases this with rfl | rfl | rfl | rfl | rfl<;>omega
   rintro⟨v,d⟩ h;exact hk2 _ h
  rintro⟨v,d⟩ h;exact hk _ h
 rintro⟨v,d⟩ ⟨⟨v1,v2⟩,hd⟩
 dsimp only at v1 v2 hd ⊢
 obtain⟨r,e,h1,h2⟩:=Ij a v
 rw[h1,AC]
 rcases h2 with ⟨_,rfl,rfl⟩|⟨h3,_⟩
 ·exact .ret ⟨Z0 ha v1 v2,hd⟩
 exact absurd ⟨ha,v1,v2⟩ h3
def WrJ {ρ:Type}(a:JAC)(K:Int×List JAA->Option ρ):Option ρ:=
 AI (τ:=Int×(List JAA)) (fun k1=>
  Option.bind (DI a) fun v2=>
  if (!v2) then
   k1 (1,[])
  else
   AI (τ:=(List JAA)) (fun k3=>
    AI (τ:=(List JAA)) (fun k4=>
     if (a.Origin != (-1)) then
      Option.bind (some (Option.getD (BB Bo 1) 0)) fun v5=>
      Option.bind (apnd (α:=JAA) 40 [] ([(⟨v5,1,([(Aa a.Origin)]:List UInt8)⟩:JAA)]:List JAA)) fun _=>
      k4 ([(⟨v5,1,([(Aa a.Origin)]:List UInt8)⟩:JAA)]:List JAA)
     else
      k4 []
    ) fun v6=>
    k3 v6
   ) fun v7=>
   AI (τ:=(List JAA)) (fun k8=>
    if (a.Origin != (-1)) then
     Option.bind (Be a.Path) fun v9=>
     AI (τ:=(List JAA)) (fun k10=>
      Option.bind (some (Option.getD (BB Bo 2) 0)) fun v11=>
      Option.bind (apnd (α:=JAA) 40 v7 ([(⟨v11,2,v9⟩:JAA)]:List JAA)) fun v12=>
      k10 v12
     ) fun v13=>
     k8 v13
    else
     Option.bind (Be a.Path) fun v14=>
     AI (τ:=(List JAA)) (fun k15=>
      AI (τ:=(List JAA)) (fun k16=>
       if (cond false true (decide ((a.Path.length:Int) > 0))) then
        Option.bind (some (Option.getD (BB Bo 2) 0)) fun v17=>
        Option.bind (apnd (α:=JAA) 40 v7 ([(⟨v17,2,v14⟩:JAA)]:List JAA)) fun v18=>
        k16 v18
       else
        k16 v7
      ) fun v19=>
      k15 v19
     ) fun v20=>
     k8 v20
   ) fun v21=>
   AI (τ:=(List JAA)) (fun k22=>
    if (!a.Next.V6) then
     Option.bind (BM a.Next) fun v23=>
     AI (τ:=(List JAA)) (fun k24=>
      AI (τ:=(List JAA)) (fun k25=>
       if (cond true (!(Addr.eqd a.Next (⟨false,(0:UInt64),(0:UInt64)⟩:Addr))) false) then
        Option.bind (some (Option.getD (BB Bo 3) 0)) fun v26=>
        Option.bind (apnd (α:=JAA) 40 v21 ([(⟨v26,3,v23⟩:JAA)]:List JAA)) fun v27=>
        k25 v27
       else
        k25 v21
      ) fun v28=>
      k24 v28
     ) fun v29=>
     k22 v29
    else
     Option.bind (BM a.Next) fun v30=>
     AI (τ:=Unit) (fun k31=>
      k31 ()
     ) fun _=>
     k22 v21
   ) fun v32=>
   Option.bind (BJ ([a.MED]:List Int)) fun v33=>
   AI (τ:=(List JAA)) (fun k34=>
    AI (τ:=(List JAA)) (fun k35=>
     if (a.MED != (-1)) then
      Option.bind (some (Option.getD (BB Bo 4) 0)) fun v36=>
      Option.bind (apnd (α:=JAA) 40 v32 ([(⟨v36,4,v33⟩:JAA)]:List JAA)) fun v37=>
      k35 v37
     else
      k35 v32
    ) fun v38=>
    k34 v38
   ) fun v39=>
   Option.bind (BJ ([a.Pref]:List Int)) fun v40=>
   AI (τ:=(List JAA)) (fun k41=>
    AI (τ:=(List JAA)) (fun k42=>
     if (a.Pref != (-1)) then
      Option.bind (some (Option.getD (BB Bo 5) 0)) fun v43=>
      Option.bind (apnd (α:=JAA) 40 v39 ([(⟨v43,5,v40⟩:JAA)]:List JAA)) fun v44=>
      k42 v44
     else
      k42 v39
    ) fun v45=>
    k41 v45
   ) fun v46=>
   Option.bind (Bv a.Communities) fun v47=>
   AI (τ:=(List JAA)) (fun k48=>
    AI (τ:=(List JAA)) (fun k49=>
     if (decide ((a.Communities.length:Int) > 0)) then
      Option.bind (some (Option.getD (BB Bo 8) 0)) fun v50=>
      Option.bind (apnd (α:=JAA) 40 v46 ([(⟨v50,8,v47⟩:JAA)]:List JAA)) fun v51=>
      k49 v51
     else
      k49 v46
    ) fun v52=>
    k48 v52
   ) fun v53=>
   Option.bind (Du a.JAF) fun v54=>
   AI (τ:=(List JAA)) (fun k55=>
    AI (τ:=(List JAA)) (fun k56=>
     if (decide ((a.JAF.length:Int) > 0)) then
      Option.bind (some (Option.getD (BB Bo 32) 0)) fun v57=>
      Option.bind (apnd (α:=JAA) 40 v53 ([(⟨v57,32,v54⟩:JAA)]:List JAA)) fun v58=>
      k56 v58
     else
      k56 v53
    ) fun v59=>
    k55 v59
   ) fun v60=>
   Option.bind (BJ ([a.OTC]:List Int)) fun v61=>
   AI (τ:=(List JAA)) (fun k62=>
    AI (τ:=(List JAA)) (fun k63=>
     if (a.OTC != (-1)) then
      Option.bind (some (Option.getD (BB Bo 35) 0)) fun v64=>
      Option.bind (apnd (α:=JAA) 40 v60 ([(⟨v64,35,v61⟩:JAA)]:List JAA)) fun v65=>
      k63 v65
     else
      k63 v60
    ) fun v66=>
    k62 v66
   ) fun v67=>
   AI (τ:=(List JAA)) (fun k68=>
    Ao (σ:=(List JAA)) (fun v69=>
     k68 v69
    ) (fun next70 (x71:JAA) i72 v69=>
     Option.bind (A7 x71.Data) fun v73=>
     Option.bind (apnd (α:=JAA) 40 v69 ([{ x71 with Data:=v73 }]:List JAA)) fun v74=>
     next70 v74
    ) a.Other 0 v67
   ) fun v75=>
   Option.bind (EO DC v75) fun v76=>
   k1 (0,v76)
 ) K
theorem Xr {a:JAC}(v:VA a){ρ:Type}(K:Int×List JAA->Option ρ):WrJ a K=K (0,wrS a):=by
 have hs:=HM v.p
 have hc:=(E8.1 v.c)
 have hl:=(Et.1 v.l).2.2
 unfold WrJ
 rw[AH,Q8 v.sm,AC,O0.2 v,if_neg (by decide)]
 have s1 :∀{ρ:Type} (q:List JAA->Option ρ),AI (τ:=(List JAA)) (fun k2=>
   AI (τ:=(List JAA)) (fun k3=>
    if (a.Origin != (-1))=true then
     Option.bind (some (Option.getD (BB Bo 1) 0)) fun v4=>
     Option.bind (apnd (α:=JAA) 40 [] ([(⟨v4,1,([(Aa a.Origin)]:List UInt8)⟩:JAA)]:List JAA)) fun _=>
     k3 ([(⟨v4,1,([(Aa a.Origin)]:List UInt8)⟩:JAA)]:List JAA)
    else
     k3 []
   ) fun v5=>
   k2 v5
  ) q=q (ent a 1):=by
  intro ρ q
  have hG:G a 1=if a.Origin≠-1 then some [Aa a.Origin] else none:=rfl
  unfold ent
  rw[AH,AH,LR,hG]
  by_cases h:a.Origin=-1
  ·rw[if_neg (by simp[h]),if_neg (by simp[h])]
  rw[if_pos (by simpa using h),if_pos h,AC,AO (by decide) (by simp),AC]
 rw[s1]
 have hpath:Be a.Path=some (Ft a.Path):=Yo (by omega)
 have s2 :∀{ρ:Type} (w:List JAA) (hw:w.length<=1) (q:List JAA->Option ρ),AI (τ:=(List JAA)) (fun k7=>
   if (a.Origin != (-1))=true then
    Option.bind (Be a.Path) fun v8=>
    AI (τ:=(List JAA)) (fun k9=>
     Option.bind (some (Option.getD (BB Bo 2) 0)) fun v10=>
     Option.bind (apnd (α:=JAA) 40 w ([(⟨v10,2,v8⟩:JAA)]:List JAA)) fun v11=>
     k9 v11
    ) fun v12=>
    k7 v12
   else
    Option.bind (Be a.Path) fun v13=>
    AI (τ:=(List JAA)) (fun k14=>
     AI (τ:=(List JAA)) (fun k15=>
      if (cond false true (decide ((a.Path.length:Int) > 0)))=true then
       Option.bind (some (Option.getD (BB Bo 2) 0)) fun v16=>
       Option.bind (apnd (α:=JAA) 40 w ([(⟨v16,2,v13⟩:JAA)]:List JAA)) fun v17=>
       k15 v17
      else
       k15 w
     ) fun v18=>
     k14 v18
    ) fun v19=>
    k7 v19
  ) q=q (w++ent a 2):=by
  intro ρ w hw q
  have hG:G a 2=if a.Origin≠-1\/a.Path≠[] then some (Ft a.Path) else none:=rfl
  have e:(a.Path≠[])↔0<a.Path.length:=List.length_pos_iff.symm
  unfold ent
  rw[AH,hpath,LR,hG]
  by_cases h:a.Origin=-1
  ·rw[if_neg (by simp[h]),AC,AH,AH,cond_false]
   by_cases h2:0<a.Path.length
   ·rw[if_pos (by simp only[decide_eq_true_eq];omega),if_pos (.inr (e.2 h2)),AC,AO (by decide) (by simp;omega),AC]
   rw[if_neg (by simp only[decide_eq_true_eq];omega),if_neg (by rw[e];omega),List.append_nil]
  rw[if_pos (by simpa using h),if_pos (.inl h),AC,AH,AC,AO (by decide) (by simp;omega),AC]
 have l1:=G6 a 1
 have l2:=G6 a 2
 have l3:=G6 a 3
 have l4:=G6 a 4
 have l5:=G6 a 5
 have l8:=G6 a 8
 have l32:=G6 a 32
 refine (s2 _ (by omega) _).trans ?_
 have s3 :∀{ρ:Type} (w:List JAA) (hw:w.length<=2) (q:List JAA->Option ρ),AI (τ:=(List JAA)) (fun k21=>
   if (!a.Next.V6)=true then
    Option.bind (BM a.Next) fun v22=>
    AI (τ:=(List JAA)) (fun k23=>
     AI (τ:=(List JAA)) (fun k24=>
      if (cond true (!(Addr.eqd a.Next (⟨false,(0:UInt64),(0:UInt64)⟩:Addr))) false)=true then
       Option.bind (some (Option.getD (BB Bo 3) 0)) fun v25=>
       Option.bind (apnd (α:=JAA) 40 w ([(⟨v25,3,v22⟩:JAA)]:List JAA)) fun v26=>
       k24 v26
      else
       k24 w
     ) fun v27=>
     k23 v27
    ) fun v28=>
    k21 v28
   else
    Option.bind (BM a.Next) fun v29=>
    AI (τ:=Unit) (fun k30=>
     k30 ()
    ) fun _=>
    k21 w
  ) q=q (w++ent a 3):=by
  intro ρ w hw q
  have hG:G a 3=if Fz a=true then some (b4 a.Next.Lo.toNat) else none:=rfl
  unfold ent
  rw[AH,LR,hG]
  unfold Fz
  cases h6:a.Next.V6
  ·rw[if_pos (by rfl),Wv v.n h6,AC,AH,AH]
   cases Addr.eqd a.Next ⟨false,0,0⟩
   ·rw[if_pos (by rfl),if_pos (by rfl),AC,AO (by decide) (by simp;omega),AC]
   rw[if_neg (by decide),if_neg (by decide),List.append_nil]
  obtain⟨r,hr⟩:=ad a.Next
  rw[if_neg (by decide),hr,AC,AH,if_neg (by simp),List.append_nil]
 refine (s3 _ (by rw[X11];omega) _).trans ?_
 rw[MP,AC]
 have en :∀(k:Int) (c:Bool) (d:List UInt8),G a k=(if c=true then some d else none)->(if c=true then [(⟨fl k,k,d⟩:JAA)] else [])=ent a k:=by
  intro k c d h
  unfold ent
  rw[h]
  cases c<;>rfl
 have c4:G a 4=if (a.MED != (-1))=true then some (w4 a.MED) else none:=by
  have:G a 4=if a.MED≠-1 then some (w4 a.MED) else none:=rfl
  rw[this];simp only[bne_iff_ne]
 have c5:G a 5=if (a.Pref != (-1))=true then some (w4 a.Pref) else none:=by
  have:G a 5=if a.Pref≠-1 then some (w4 a.Pref) else none:=rfl
  rw[this];simp only[bne_iff_ne]
 have c35:G a 35=if (a.OTC != (-1))=true then some (w4 a.OTC) else none:=by
  have:G a 35=if a.OTC≠-1 then some (w4 a.OTC) else none:=rfl
  rw[this];simp only[bne_iff_ne]
 have c8:G a 8=if decide ((a.Communities.length:Int) > 0)=true then some (a.Communities.flatMap IF) else none:=by
  have:G a 8=if a.Communities≠[] then some (a.Communities.flatMap IF) else none:=rfl
  rw[this]
  cases a.Communities with
  | nil=>rfl
  | cons x t=>rw[if_pos (by simp),if_pos (by simp)]
 have c32:G a 32=if decide ((a.JAF.length:Int) > 0)=true then some (a.JAF.flatMap Gg) else none:=by
  have:G a 32=if a.JAF≠[] then some (a.JAF.flatMap Gg) else none:=rfl
  rw[this]
  cases a.JAF with
  | nil=>rfl
  | cons x t=>rw[if_pos (by simp),if_pos (by simp)]
 refine (bG (f:=fl 4) rfl (by simp only[X11];omega)).trans ?_
 rw[en 4 _ _ c4,MP,AC]
 refine (bG (f:=fl 5) rfl (by simp only[X11];omega)).trans ?_
 rw[en 5 _ _ c5,XE hc.1 (by omega),AC]
 refine (bG (f:=fl 8) rfl (by simp only[X11];omega)).trans ?_
 rw[en 8 _ _ c8,XS (by omega),AC]
 refine (bG (f:=fl 32) rfl (by simp only[X11];omega)).trans ?_
 rw[en 32 _ _ c32,MP,AC]
 refine (bG (f:=fl 35) rfl (by simp only[X11];omega)).trans ?_
 rw[en 35 _ _ c35]
 have l35:=G6 a 35
 refine (dm (by have:=v.e;omega) v.sm.d (by simp only[X11];omega)).trans ?_
 have e:ent a 1++ent a 2++ent a 3++ent a 4++ent a 5++ent a 8++ent a 32++ent a 35++a.Other=P6 a:=by
  unfold P6 OD
  simp only[List.flatMap_cons,List.flatMap_nil,List.append_nil,List.append_assoc]
 rw[e,TV v.O (by unfold P6;rw[X11];have:=Q6 a;have:=v.e;omega),AC]
theorem Rx (p:JAE):Gk p=some (Hg p):=by
 have hg:=(JB p).2
 have no:¬ DU p->some false=some (Hg p):=fun q=>by
  have:Hg p=false:=by
   rw[Bool.eq_false_iff]
   exact fun e=>q (hg.1 e)
  rw[this]
 unfold Gk
 rw[AH,Eh,AC,Jz]
 simp only[AC,cond_true]
 by_cases ho:p.Addr.ok=true
 case neg=>
  rw[if_neg ho]
  exact no fun q=>ho q.1
 rw[if_pos ho]
 by_cases h0:0<=p.Len
 case neg=>
  rw[if_neg (by simpa using h0)]
  exact no fun q=>h0 q.2.1
 rw[if_pos (by simpa using h0)]
 by_cases h1:p.Len<=p.Addr.w
 case neg=>
  rw[if_neg (by simpa using h1)]
  exact no fun q=>h1 q.2.2.1
 rw[if_pos (by simpa using h1)]
 obtain⟨k,hk⟩ :∃k:Nat,p.Len=k:=⟨p.Len.toNat,by omega⟩
 have hf:=Jt p.Addr (n:=k) (by omega)
 rw[<- hk] at hf
 rw[hf,AC]
 congr 1
 rw[X28,hg,Addr.eqd_iff]
 have e:p.Len.toNat=k:=by omega
 exact⟨fun h=>⟨ho,h0,h1,by rw[e];exact h⟩,fun h=>by have:=h.2.2.2;rw[e] at this;exact this⟩
theorem Mc {acc:List UInt8}{l:List JAE}(ha:acc.length<=1000000)(hl:l.length<=100000)(hg :∀p∈l,DU p)(six:Bool):EX acc l six=some (acc++An six l):=by
 unfold EX
 rw[AH]
 refine (UK (fun (t:List JAE) _ (s:List UInt8)=>s.length+17*t.length<=10000000/\∀p∈t,DU p) (fun t _ s=>some (s++An six t)) ?_ ?_ l 0 acc ⟨by omega,hg⟩).trans rfl
 ·intro i s _
  show some s=some (s++[])
  rw[List.append_nil]
 rintro next p t i s ⟨h1,h2⟩ hn
 simp only[X12] at h1
 have hp:=h2 p (by simp)
 have hcl:=OS hp
 have ht :∀q∈t,DU q:=fun q hq=>h2 q (X19 _ hq)
 obtain⟨k1,k2,k3,_⟩:=hp
 have e2:=(Gi k1).2
 obtain⟨w1,w2⟩:=w_L p.Addr
 rw[AH,HQ]
 by_cases h6:(p.Addr.V6==six)=true
 ·obtain⟨k,hk⟩ :∃k:Nat,p.Len=k:=⟨p.Len.toNat,by omega⟩
  have e3:AN (Int.tdiv (AN (p.Len+7)) 8)=(((p.Len.toNat+7)/8:Nat):Int):=by
   rw[hk,Int.toNat_natCast,AP (x:=(k:Int)+7) (by omega),Int.tdiv_eq_ediv_of_nonneg (by omega),AP (by omega)]
   omega
  have e4:(p.Len.toNat+7)/8<=p.Addr.L:=by omega
  rw[if_pos h6,if_pos h6,AO (by decide) (by simp only[X22];omega),AC,KD k1,AC,e3,Q9 (by omega),AC,
   AO (by decide) (by simp only[X11,X22,X18];omega),AC]
  dsimp only
  rw[hn _ ⟨by
   simp only[X11,X22,X18]
   omega,ht⟩]
  unfold PI
  simp only[List.append_assoc,List.singleton_append,List.cons_append,List.nil_append]
 rw[if_neg h6,if_neg h6]
 dsimp only
 rw[hn _ ⟨by omega,ht⟩,List.nil_append]
theorem KH {l:List JAE}(hl:l.length<=100000)(hg :∀p∈l,DU p)(six:Bool):EI l six=some (An six l):=Mc (acc:=[]) (by simp) hl hg six
theorem Uo (n:Nat):E7 (n:Int)=some (two n):=by
 unfold E7
 rw[AO (by decide) (by simp),AC]
 rfl
theorem bD {b:List UInt8}(hb:b.length<=1000000)(n:Nat):ID b (n:Int)=some (b++two n):=by
 unfold ID
 rw[AO (by decide) (by simp only[X12,X13];omega),AC]
 rfl
theorem Zp (a b:JAA):Fp a b=some (Fb (HZ a) (HZ b)):=Ru a b
theorem W7 {u:JAG}(g:GoodU u):(Bj u).length<=18/\∀x∈Bj u,x.Data.length<=20000:=by
 have cw6:=Bm (six:=true) g.gw
 have ca6:=Bm (six:=true) g.ga
 have hw:=g.w;have hn:=g.n
 have h0:(lst0 u).length<=16/\∀x∈lst0 u,x.Data.length<=768:=by
  unfold lst0
  split
  ·exact (g.a ‹_›).2
  simp
 have hL:(byB u.JAC.Next).length<=16\/u.Announce.length=0:=by
  rcases Nat.eq_zero_or_pos u.Announce.length with h | h
  ·exact .inr h
  have:=(Gi (g.a h).1.n).2
  have:=(w_L u.JAC.Next).2
  exact .inl (by omega)
 have h1:(Hq u).length<=17/\∀x∈Hq u,x.Data.length<=20000:=by
  unfold Hq
  split
  ·refine⟨by rw[HG];omega,fun x hx=>?_⟩
   rcases D4.1 hx with hx | rfl
   ·have:=h0.2 x hx;omega
   have hl:(byB u.JAC.Next).length<=16:=hL.resolve_right (by omega)
   simp only[X11,X12,X13]
   omega
  exact⟨by omega,fun x hx=>by have:=h0.2 x hx;omega⟩
 unfold Bj
 split
 ·refine⟨by rw[HG];omega,fun x hx=>?_⟩
  rcases D4.1 hx with hx | rfl
  ·exact h1.2 x hx
  simp only[X11,X12,X13]
  omega
 exact⟨by omega,h1.2⟩
theorem ZL {u:JAG}(h:WrU u)(he:u.Announce=[]->u.JAC=eA):HS u=some (Bj u):=by
 have g:=h.g
 have hw:=g.w;have hn:=g.n
 have cw6:=Bm (six:=true) g.gw
 have ca6:=Bm (six:=true) g.ga
 have e00:u.Announce=[]↔¬ 0<u.Announce.length:=by rw[List.length_pos_iff];exact Decidable.not_not.symm
 have v:VA u.JAC:=by
  by_cases hp:0<u.Announce.length
  ·exact (g.a hp).1
  rw[he (e00.2 hp)];exact fi
 have e0:wrS u.JAC=lst0 u:=by
  unfold lst0
  by_cases hp:0<u.Announce.length
  ·rw[if_pos hp]
  rw[if_neg hp,he (e00.2 hp),dV]
 have l0:(lst0 u).length<=16:=e0 ▸ U5 v
 have c0:0<(An true u.Announce).length↔0<u.Announce.length/\u.JAC.Next.V6=true:=by
  rw[Tq]
  constructor
  ·intro q
   obtain⟨p,hp⟩:=List.exists_mem_of_ne_nil _ q
   rw[List.mem_filter] at hp
   refine⟨List.length_pos_of_mem hp.1,?_⟩
   rw[<- h.s p hp.1]
   simpa using hp.2
  rintro⟨q1,q2⟩
  obtain⟨p,hp⟩:=List.exists_mem_of_ne_nil _ (List.length_pos_iff.1 q1)
  refine List.ne_nil_of_mem (a:=p) (List.mem_filter.2 ⟨hp,?_⟩)
  rw[h.s p hp,q2];rfl
 have hL:=(Gi v.n).2
 have hL2:=(w_L u.JAC.Next).2
 unfold HS
 show WrJ u.JAC _=_
 rw[Xr v]
 dsimp only
 rw[e0]
 have e1 :∀{ρ:Type} (K:Bool->Option ρ),AI (τ:=Bool) (fun k79=>
  if (decide ((u.Announce.length:Int) > 0)) then
   k79 (cond true u.JAC.Next.V6 false)
  else
   k79 false) K=K (decide (0<(An true u.Announce).length)):=by
  intro ρ K
  rw[AH]
  by_cases hp:0<u.Announce.length
  ·rw[if_pos (by simp only[decide_eq_true_eq];omega)]
   congr 1
   rw[X28,decide_eq_true_eq,c0]
   exact⟨fun q=>⟨hp,q⟩,fun q=>q.2⟩
  rw[if_neg (by simp only[decide_eq_true_eq];omega)]
  congr 1
  rw[X28,decide_eq_true_eq,c0]
  exact⟨(fun q=>nomatch q),fun q=>absurd q.1 hp⟩
 rw[e1]
 have e2 :∀{ρ:Type} (K:List JAA->Option ρ),AI (τ:=(List JAA)) (fun k81=>
  if decide (0<(An true u.Announce).length) then
   Option.bind (BM u.JAC.Next) fun v82=>
   Option.bind (apnd (α:=UInt8) 1 ([(0:UInt8),(2:UInt8),(1:UInt8),(16:UInt8)]:List UInt8) v82) fun v83=>
   Option.bind (apnd (α:=UInt8) 1 v83 ([(0:UInt8)]:List UInt8)) fun v84=>
   Option.bind (EX v84 u.Announce true) fun v85=>
   Option.bind (apnd (α:=JAA) 40 (lst0 u) ([(⟨128,14,v85⟩:JAA)]:List JAA)) fun v86=>
   k81 v86
  else
   k81 (lst0 u)) K=K (lst0 u++if 0<(An true u.Announce).length then [x14 u] else []):=by
  intro ρ K
  rw[AH]
  by_cases hp:0<(An true u.Announce).length
  ·rw[if_pos (by simpa using hp),if_pos hp,KD v.n,AC,AO (by decide) (by simp only[X12,X13];omega),AC,
    AO (by decide) (by simp only[X11,X12,X13];omega),AC,
    Mc (by simp only[X11,X12,X13];omega) (by omega) g.ga,AC,AO (by decide) (by simp only[X12,X13];omega),AC]
   rfl
  rw[if_neg (by simpa using hp),if_neg hp,List.append_nil]
 rw[e2,KH (by omega) g.gw,AC]
 have e3 :∀{ρ:Type} (w:List JAA) (hw:w.length<=17) (K:List JAA->Option ρ),AI (τ:=(List JAA)) (fun k89=>
  if (decide (((An true u.Withdraw).length:Int) > 0)) then
   Option.bind (apnd (α:=UInt8) 1 ([(0:UInt8),(2:UInt8),(1:UInt8)]:List UInt8) (An true u.Withdraw)) fun v90=>
   Option.bind (apnd (α:=JAA) 40 w ([(⟨128,15,v90⟩:JAA)]:List JAA)) fun v91=>
   k89 v91
  else
   k89 w) K=K (w++if 0<(An true u.Withdraw).length then [x15 u] else []):=by
  intro ρ w hw K
  rw[AH]
  by_cases hp:0<(An true u.Withdraw).length
  ·rw[if_pos (by simp only[decide_eq_true_eq];omega),if_pos hp,AO (by decide) (by simp only[X12,X13];omega),AC,AO (by decide) (by simp only[X12,X13];omega),AC]
   rfl
  rw[if_neg (by simp only[decide_eq_true_eq];omega),if_neg hp,List.append_nil]
 have l1:(lst0 u++if 0<(An true u.Announce).length then [x14 u] else []).length<=17:=by
  rw[X11]
  split<;>simp only[X22,X13]<;>omega
 rw[e3 _ l1,List.append_assoc]
 show Option.bind (EO Fp (raw u)) _=_
 have l2:(raw u).length<=1000000:=by
  have q1:(if 0 < (An true u.Withdraw).length then [x15 u] else []).length<=1:=by split<;>simp
  unfold raw
  rw[<- List.append_assoc,X11]
  omega
 rw[aQ h Zp l2 (aF h),AC]
def bdP (u:JAG):List UInt8×Bool:=(Hk u (CG (Bj u)).1,((CG (Bj u)).2==0)&&decide ((Hk u (CG (Bj u)).1).length<=4077))
theorem O5 {u:JAG}(h:WrU u)(he:u.Announce=[]->u.JAC=eA):EQ u=some (bdP u):=by
 have g:=h.g
 have hw:=g.w;have hn:=g.n
 have cw4:=Bm (six:=false) g.gw
 have ca4:=Bm (six:=false) g.ga
 obtain⟨s1,s2⟩:=W7 g
 have hj:=TZ (l:=Bj u)
 unfold EQ bdP
 rw[ZL h he,AC,Yf (by omega) (fun x hx=>by have:=s2 x hx;omega),AC]
 dsimp only
 rw[KH (by omega) g.gw,AC,Uo,AC,AO (by decide) (by simp only[two,X12,X13];omega),AC,
  bD (by simp only[two,X11,X12,X13];omega),AC,
  AO (by decide) (by simp only[two,X11,X12,X13];omega),AC,
  Mc (by simp only[two,X11,X12,X13];omega) (by omega) g.ga,AC,AH]
 show (if ((CG (Bj u)).2==0)=true then some (Hk u (CG (Bj u)).1,cond true (decide (((Hk u (CG (Bj u)).1).length:Int)<=4077)) false) else some (Hk u (CG (Bj u)).1,false))=_
 have e:decide (((Hk u (CG (Bj u)).1).length:Int)<=4077)=decide ((Hk u (CG (Bj u)).1).length<=4077):=by rw[decide_eq_decide];omega
 rw[e]
 cases ((CG (Bj u)).2==0)<;>rfl
theorem eE (a b c d:Nat)(ha:a<=1000000)(hb:b<=1000000)(hc:c<=1000000)(hd:d<=1000000):(AN (AN (AN ((a:Int)+b)+c)+d)==0)=(decide (a=0)&&(decide (b=0)&&(decide (c=0)&&decide (d=0)))):=by
 rw[AP (x:=(a:Int)+b) (by omega),AP (x:=(a:Int)+b+c) (by omega),AP (x:=(a:Int)+b+c+d) (by omega)]
 rw[X28]
 simp only[beq_iff_eq,X27,decide_eq_true_eq]
 omega
theorem XO {a:JAC}(h:SmT a):GW a=some (isE a):=by
 unfold GW
 rw[X9,AH,AH,eE _ _ _ _ h.p h.c h.l h.o]
 have e :∀{α:Type} (l:List α),decide (l.length=0)=decide (l=[]):=fun l=>by rw[decide_eq_decide];exact List.length_eq_zero_iff
 rw[e,e,e,e]
 show (if (a.Origin==(-1))=true then _ else _)=_
 unfold zAd
 cases (a.Origin==(-1))<;>cases (a.MED==(-1))<;>cases (a.Pref==(-1))<;>cases (a.OTC==(-1))<;>cases (Addr.eqd a.Next ⟨false,0,0⟩)<;>simp
theorem TC (u:JAG) :∀(l:List JAE) (i:Nat),Ao (σ:=JAG) (fun v2=>some ((-1:Int),v2)) (fun next3 (x4:JAE) i5 v2=>Option.bind (Ei x4 v2) fun (v6,v7)=>if v6 then some ((i5:Int),v7) else next3 v7) l i u=some (match l.findIdx? (fun p=>!(p.Addr.V6==u.JAC.Next.V6)) with | some j=>((i+j:Nat):Int)|none=>-1,u)
 | [],_=>rfl
 | x::t,i=>by
  show Option.bind (Ei x u) (fun (v6,v7)=>if v6 then some ((i:Int),v7) else Ao (σ:=JAG) (fun v2=>some ((-1:Int),v2)) _ t (i+1) v7)=_
  rw[show Ei x u=some (!(x.Addr.V6==u.JAC.Next.V6),u) from rfl,AC,List.findIdx?_cons]
  dsimp only
  by_cases hq:(!(x.Addr.V6==u.JAC.Next.V6))=true
  ·rw[if_pos hq,if_pos hq];simp
  rw[if_neg hq,if_neg hq,TC u t]
  cases t.findIdx? _ with
  | none=>rfl
  | some j=>show some (((i+1+j:Nat):Int),u)=some (((i+(j+1):Nat):Int),u);rw[show i+1+j=i+(j+1) by omega]
theorem fits_any (u:JAG)(l:List JAE):Ad l u=some (l.any (fun p=>!(p.Addr.V6==u.JAC.Next.V6)),u):=by
 unfold Ad Aq
 rw[AH,TC,AC]
 dsimp only
 congr 2
 cases hf:l.findIdx? (fun p=>!(p.Addr.V6==u.JAC.Next.V6)) with
 | none=>
  rw[List.findIdx?_eq_none_iff] at hf
  have:l.any (fun p=>!(p.Addr.V6==u.JAC.Next.V6))=false:=by
   rw[List.any_eq_false]
   intro x hx
   rw[hf x hx];simp
  rw[this];rfl
 | some j=>
  obtain⟨h1,h2,_⟩:=List.findIdx?_eq_some_iff_getElem.1 hf
  have:l.any (fun p=>!(p.Addr.V6==u.JAC.Next.V6))=true:=List.any_eq_true.2 ⟨_,List.getElem_mem h1,h2⟩
  rw[this]
  simp
def TE (u:JAG):Bool:=(!(decide (u.Announce=[])) || isE u.JAC)&&u.Announce.all (Qf u.JAC)
theorem YJ {α:Type}{f:α->Bool}{c:Bool} :∀{l:List α},l≠[]->l.all (fun x=>f x&&c)=(l.all f&&c)
 | [x],_=>by simp
 | x::y::t,_=>by
  rw[List.all_cons,YJ (l:=y::t) (by simp),List.all_cons (l:=y::t)]
  cases f x<;>cases c<;>simp
theorem Y2 {u:JAG}(h:SmT u.JAC):HA u=some (TE u):=by
 unfold HA TE
 by_cases ha:u.Announce=[]
 ·rw[if_pos (by rw[ha];rfl),XO h,AC,ha]
  simp
 have hl:0<u.Announce.length:=List.length_pos_iff.2 ha
 rw[if_neg (by rw[beq_iff_eq];omega),AH,Q8 h,AC,fits_any,AC,decide_eq_false ha]
 have e:u.Announce.all (Qf u.JAC)=(u.Announce.all (fun p=>p.Addr.V6==u.JAC.Next.V6)&&((u.JAC.Origin != -1)&&(!(Addr.eqd u.JAC.Next zAd)&&Gp u.JAC))):=by
  rw[<- YJ ha];rfl
 have e2:u.Announce.any (fun p=>!(p.Addr.V6==u.JAC.Next.V6))=!u.Announce.all (fun p=>p.Addr.V6==u.JAC.Next.V6):=by
  rw[List.not_all_eq_any_not]
 rw[e,e2]
 show (if Gp u.JAC=true then _ else _)=_
 unfold zAd
 cases Gp u.JAC<;>cases (u.JAC.Origin != (-1))<;>cases (Addr.eqd u.JAC.Next ⟨false,0,0⟩)<;>cases u.Announce.all (fun p=>p.Addr.V6==u.JAC.Next.V6)<;>rfl
theorem TP (l:List JAE):AZ l=some (!l.all Hg):=by
 have h:=aO (f:=Ez) (q:=fun p=>!Hg p) (l:=l) fun x _=>by unfold Ez;rw[Rx,AC]
 rw[<- List.not_all_eq_any_not] at h
 exact h
theorem dN {u:JAG}(h1:u.Withdraw.length<=256)(h2:u.Announce.length<=256)(h3:(u.Withdraw++u.Announce).all Hg=true)(h5:u.Announce.all (Qf u.JAC)=true):WrU u:=by
 have hgood :∀p∈u.Withdraw++u.Announce,DU p:=fun p hp=>(JB p).2.1 (List.all_eq_true.1 h3 p hp)
 have hfit :∀p∈u.Announce,p.Addr.V6=u.JAC.Next.V6/\u.JAC.Origin≠-1/\u.JAC.Next≠zAd/\VA u.JAC:=fun p hp=>by
  have:=List.all_eq_true.1 h5 p hp
  unfold Qf at this
  simp only[X27,beq_iff_eq,bne_iff_ne,Bool.not_eq_true'] at this
  obtain⟨a1,a2,a3,a4⟩:=this
  exact⟨a1,a2,(fun q=>by rw[q,(Addr.eqd_iff _ _).2 rfl] at a3;cases a3),O0.1 a4⟩
 refine⟨⟨by omega,by omega,fun p hp=>hgood p (List.mem_append_left _ hp),fun p hp=>hgood p (List.mem_append_right _ hp),fun q=>?_⟩,h1,h2,fun p hp=>(hfit p hp).1,fun q=>?_⟩
 ·obtain⟨p,hp⟩:=List.exists_mem_of_ne_nil _ (List.length_pos_iff.1 q)
  have v:=(hfit p hp).2.2.2
  exact⟨v,U5 v,fun x hx=>Uk v hx⟩
 obtain⟨p,hp⟩:=List.exists_mem_of_ne_nil _ q
 exact⟨(hfit p hp).2.1,(hfit p hp).2.2.1⟩
theorem LP (u:JAG):XM u=(bdP u).2/\((bdP u).2=true->Do u=((bdP u).1,0)):=by
 unfold XM Do bdP
 by_cases hj:(CG (Bj u)).2=0
 ·have hne:¬ (CG (Bj u)).2≠0:=fun q=>q hj
  rw[if_neg hne]
  have:((CG (Bj u)).2==0)=true:=by rw[hj];rfl
  rw[this]
  exact⟨rfl,fun _=>rfl⟩
 rw[if_pos hj]
 have:((CG (Bj u)).2==0)=false:=by simpa using hj
 dsimp only
 rw[this]
 exact⟨rfl,fun q=>nomatch q⟩
theorem WT (u:JAG):FX u=(decide (u.Withdraw.length<=256)&&(decide (u.Announce.length<=256)&&((u.Withdraw++u.Announce).all Hg&&(TE u&&(bdP u).2)))):=by
 unfold FX TE
 rw[(LP u).1]
 simp only[Bool.and_assoc]
theorem NT {u:JAG}(hs:SmT u.JAC):FQ u=some (FX u):=by
 unfold FQ
 rw[AH,WT]
 by_cases h1:u.Withdraw.length<=256
 case neg=>
  rw[if_pos (by simp only[decide_eq_true_eq];omega),decide_eq_false h1]
  rfl
 rw[if_neg (by simp only[decide_eq_true_eq];omega),decide_eq_true h1]
 by_cases h2:u.Announce.length<=256
 case neg=>
  rw[if_pos (by rw[cond_false,decide_eq_true_eq];omega),decide_eq_false h2]
  rfl
 rw[if_neg (by rw[cond_false,decide_eq_true_eq];omega),decide_eq_true h2,TP,AC,TP,AC,Y2 hs,AC,List.all_append]
 cases k1:u.Withdraw.all Hg
 ·rfl
 cases k2:u.Announce.all Hg
 ·rfl
 cases k3:TE u
 ·rfl
 have k5:u.Announce.all (Qf u.JAC)=true/\(u.Announce=[]->u.JAC=eA):=by
  unfold TE at k3
  simp only[X27,Bool.or_eq_true,Bool.not_eq_true',decide_eq_false_iff_not] at k3
  exact⟨k3.2,fun q=>(US _).1 (k3.1.resolve_left fun w=>w q)⟩
 have hu:=dN h1 h2 (by rw[List.all_append,k1,k2];rfl) k5.1
 show Option.bind (EQ u) _=_
 rw[O5 hu k5.2,AC]
 rfl
theorem YF {u:JAG}(h:FX u=true):WrU u/\(u.Announce=[]->u.JAC=eA)/\(bdP u).2=true:=by
 obtain⟨h1,h2,h3⟩:=Ys h U5
 exact⟨h1,fun q=>(US _).1 (h3 q),(LP u).1 ▸ h2⟩
theorem Ly {u:JAG}(hs:SmT u.JAC):D9 u=some (encS u):=by
 unfold D9 encS
 rw[NT hs,AC]
 cases hv:FX u with
 | false=>rfl
 | true=>
  obtain⟨h1,h2,h3⟩:=YF hv
  rw[if_neg (by decide),if_pos rfl,O5 h1 h2,AC,(LP u).2 h3]
def Zm (u:JAG):Int:=if FX u=true then 19+((Do u).1.length:Int) else 0
theorem Td {u:JAG}(h:FX u=true):(Do u).1.length<=4077:=by
 obtain⟨h1,h2,h3⟩:=YF h
 rw[(LP u).2 h3]
 unfold bdP at h3 ⊢
 simp only[X27,decide_eq_true_eq] at h3
 exact h3.2
theorem VU {u:JAG}(hs:SmT u.JAC):GE u=some (Zm u):=by
 unfold GE Zm
 rw[NT hs,AC]
 cases hv:FX u with
 | false=>rfl
 | true=>
  obtain⟨h1,h2,h3⟩:=YF hv
  have:=Td hv
  rw[(LP u).2 h3] at this ⊢
  rw[if_neg (by decide),if_pos rfl,O5 h1 h2,AC]
  dsimp only at this ⊢
  rw[AP (by omega)]
structure UOk (u:JAG):Prop where
 v:FX u=true
 s:SmT u.JAC
 w:u.Withdraw.length<=4
 n:u.Announce.length<=5
theorem Zk:SmT eA:=⟨by decide,by decide,by decide,by decide,by decide,fun u hu=>by cases hu⟩
theorem UOk.few {l:List JAE}(h :∀p∈l,DU p)(hl:l.length<=4):UOk ⟨l,eA,[]⟩:=⟨am h (by omega),Zk,hl,Nat.zero_le _⟩
theorem VX {α:Type}{P:α->Prop}{l:List α}{x:α}(h :∀y∈l,P y)(hx:P x) :∀y∈l++[x],P y:=fun y hy=>by
 rcases X23.1 hy with hy | hy
 ·exact h y hy
 rw[X14] at hy
 rw[hy];exact hx
theorem M1 {d:JAI}(hd:Dk d):Ok (EN d) fun r=>UOk r.1/\Dk r.2:=by
 unfold EN
 rw[AH]
 refine .bind (AM hd (by omega)) ?_
 rintro⟨v,d⟩ ⟨v1,v2,hd⟩
 dsimp only at v1 v2 hd ⊢
 refine .join (fun p:JAI×List JAE=>(p.2.length<=4/\∀q∈p.2,DU q)/\Dk p.1) (fun k hk=>?_) ?_
 ·refine .whileI (fun s:Int×JAI×List JAE=>(0<=s.1/\s.1+s.2.2.length<=4/\∀q∈s.2.2,DU q)/\Dk s.2.1) (fun s=>s.1.toNat) ⟨⟨v1,by simp only[X13];omega,fun q hq=>by cases hq⟩,hd⟩ (B2 (by simp only;omega)) ?_
  rintro next ⟨c,d,p⟩ ⟨⟨h1,h2,h3⟩,hd⟩ hnx
  dsimp only at h1 h2 h3 hd ⊢
  refine .ite (fun h=>?_) fun h=>hk (d,p) ⟨⟨by dsimp only;omega,h3⟩,hd⟩
  simp only[decide_eq_true_eq] at h
  refine .bind (Ia hd) ?_
  rintro⟨x,d⟩ ⟨hx,hd⟩
  dsimp only at hx hd ⊢
  refine .bind (Ok.apnd (by decide) (by simp only[X22];omega)) fun r hr=>?_
  rw[AP (by omega),hr]
  exact hnx _ ⟨⟨by dsimp only;omega,by simp only[X11,X22];omega,VX h3 hx⟩,hd⟩ (by dsimp only;omega)
 rintro⟨d,W⟩ ⟨⟨w1,w2⟩,hd⟩
 dsimp only at w1 w2 hd ⊢
 refine .bind (AM hd (by omega)) ?_
 rintro⟨c,d⟩ ⟨c1,c2,hd⟩
 dsimp only at c1 c2 hd ⊢
 refine .ite (fun _=>.ret ⟨.few w2 w1,hd⟩) fun _=>?_
 refine .bind (AM hd (by omega)) ?_
 rintro⟨six,d⟩ ⟨-,-,hd⟩
 dsimp only at hd ⊢
 refine .bind (AM hd (by omega)) ?_
 rintro⟨v,d⟩ ⟨v1,v2,hd⟩
 dsimp only at v1 v2 hd ⊢
 refine .join (fun p:JAI×List JAE=>(p.2.length<=5/\∀q∈p.2,DU q)/\Dk p.1) (fun k hk=>?_) ?_
 ·refine .whileI (fun s:Int×JAI×List JAE=>(0<=s.1/\s.1+s.2.2.length<=5/\∀q∈s.2.2,DU q)/\Dk s.2.1) (fun s=>s.1.toNat) ⟨⟨v1,by simp only[X13];omega,fun q hq=>by cases hq⟩,hd⟩ (B2 (by simp only;omega)) ?_
  rintro next ⟨c,d,p⟩ ⟨⟨h1,h2,h3⟩,hd⟩ hnx
  dsimp only at h1 h2 h3 hd ⊢
  refine .ite (fun h=>?_) fun h=>hk (d,p) ⟨⟨by dsimp only;omega,h3⟩,hd⟩
  simp only[decide_eq_true_eq] at h
  refine .bind (Ia hd) ?_
  rintro⟨x,d⟩ ⟨hx,hd⟩
  dsimp only at hx hd ⊢
  refine .join (fun q:List JAE=>q.length<=p.length+1/\∀y∈q,DU y) (fun k27 hk27=>.ite (fun _=>.bind (Ok.apnd (by decide) (by simp only[X22];omega)) fun r hr=>hk27 _ ?_) fun _=>hk27 _ ⟨by omega,h3⟩) fun q hq=>?_
  ·rw[hr]
   exact⟨by simp only[X11,X22];omega,VX h3 hx⟩
  rw[AP (by omega)]
  exact hnx _ ⟨⟨by dsimp only;omega,by dsimp only;omega,hq.2⟩,hd⟩ (by dsimp only;omega)
 rintro⟨d,A⟩ ⟨⟨a1,a2⟩,hd⟩
 dsimp only at a1 a2 hd ⊢
 refine .ite (fun h=>?_) fun _=>?_
 ·have:A=[]:=List.eq_nil_of_length_eq_zero (by simp only[beq_iff_eq] at h;omega)
  subst this
  exact .ret ⟨.few w2 w1,hd⟩
 refine .bind (OO hd) ?_
 rintro⟨a,d⟩ ⟨⟨b1,b2,b3,b4,b5,b6,b7⟩,hd⟩
 dsimp only at b1 b2 b3 b4 b5 b6 b7 hd ⊢
 refine .bind (P:=fun _=>True) ⟨_,rfl,trivial⟩ fun f _=>?_
 refine .join (fun _=>True) (fun k hk=>.ite (fun _=>.bind (P:=fun _=>True) ⟨_,rfl,trivial⟩ fun f _=>hk _ trivial) fun _=>hk _ trivial) ?_
 rintro⟨x,y,z⟩ -
 dsimp only
 have hs :∀o n,SmT { a with Origin:=o,Next:=n }:=fun o n=>⟨by dsimp only;omega,by dsimp only;omega,by dsimp only;omega,by dsimp only;omega,by dsimp only;omega,fun u hu=>by have:=b7 u hu;omega⟩
 rw[VZ (hs _ _) (by dsimp only;omega) (by dsimp only;omega) U5,AC]
 refine .ite (fun _=>?_) fun h=>.ret ⟨⟨?_,hs _ _,w1,a1⟩,hd⟩
 ·rw[AH]
  exact .ret ⟨.few (fun q hq=>by cases hq) (Nat.zero_le _),hd⟩
 simpa using h
def p10:JAE:=⟨⟨false,(0:UInt64),(167772160:UInt64)⟩,8⟩
theorem eN:DU p10:=by
 unfold DU
 refine⟨by kernel_rfl,by decide,by decide,by kernel_rfl⟩
theorem fJ:encS ⟨[p10],eA,[]⟩=([0,2,8,10,0,0],0):=by
 unfold encS
 rw[if_pos (am (fun p hp=>by rw[X14] at hp;rw[hp];exact eN) (by decide))]
 kernel_rfl
theorem awake:HN=some true:=by
 unfold HN
 rw[show ES=some eA from rfl,AC]
 show Option.bind (D9 ⟨[p10],eA,[]⟩) _=_
 rw[Ly Zk,AC,fJ]
 dsimp only
 rw[(by kernel_rfl:Ic [0,0,0,0]=some (true,false)),AC]
 kernel_rfl
structure SmUp (u:JAG):Prop where
 s:SmT u.JAC
 w:u.Withdraw.length<=1000
 n:u.Announce.length<=1000
theorem UOk.sm {u:JAG}(h:UOk u):SmUp u:=⟨h.s,by have:=h.w;omega,by have:=h.n;omega⟩
theorem Za {u:JAG}:(encS u).1.length<=4077:=by
 unfold encS
 split
 ·exact Td ‹_›
 exact Nat.zero_le _
theorem P0 (p:JAE):JAE.eqd p p=true:=by
 unfold JAE.eqd
 simp only[(Addr.eqd_iff p.Addr p.Addr).2 rfl,beq_self_eq_true,Bool.and_self]
theorem QO (l:List JAE):EF l l=some true:=by
 unfold EF
 rw[bne_self_eq_false,if_neg (by decide),AH]
 exact TU fun next x i h=>by rw[h,AC,P0];rfl
theorem XL (u:JAG):Gu u u=some true:=by
 unfold Gu
 rw[AH,QO,AC,if_pos (by rfl),QO,AC,if_pos (by decide),Si,AC]
 rfl
theorem YY {ρ:Type}(b:Bool)(K:List JAE->Option ρ) :∀(l:List JAE) (i:Nat) (s:List JAE),s.length+l.length<=1000->
  Ao (σ:=List JAE) (fun v=>K v) (fun next16 (x17:JAE) i18 v15=>AI (τ:=(List JAE)) (fun k19=>
   if (x17.Addr.V6==b) then
    Option.bind (apnd (α:=JAE) 32 v15 ([x17]:List JAE)) fun v20=>
    k19 v20
   else
    k19 v15) fun v21=>next16 v21) l i s=K (s++l.filter fun p=>p.Addr.V6==b)
 | [],i,s,_=>by rw[List.filter_nil,List.append_nil];rfl
 | x::t,i,s,h=>by
  simp only[X12] at h
  rw[GF,AH,List.filter_cons]
  by_cases hx:(x.Addr.V6==b)=true
  ·rw[if_pos hx,if_pos hx,AO (by decide) (by simp only[X22];omega),AC]
   exact (YY b K t _ _ (by rw[X11,X22];omega)).trans (by rw[List.append_assoc,List.singleton_append])
  rw[if_neg hx,if_neg hx]
  exact YY b K t _ _ (by omega)
theorem UOk.enc {u:JAG}(h:UOk u) :∃a,encS u=(Hk u (CG (Bj u)).1,0)/\(CG (Bj u)).2=0/\a=WrU u/\WrU u/\(u.Announce=[]->u.JAC=eA):=by
 obtain⟨h1,h2,h3⟩:=YF h.v
 have e:=(LP u).2 h3
 unfold encS
 rw[if_pos h.v,e]
 unfold bdP at h3 ⊢
 simp only[X27,beq_iff_eq] at h3
 exact⟨_,rfl,h3.1,rfl,h1,h2⟩
theorem updateBack (l:List Int)(hl:l.length<=maxLen):DV l=some true:=by
 have hd:Dk ⟨l,0⟩:=⟨Int.le_refl _,Nat.le_trans hl (by decide)⟩
 have main:Ok (DV l) fun r=>r=true:=by
  unfold DV
  rw[de,AC]
  refine .bind (M1 hd) ?_
  rintro⟨u,d⟩ ⟨hu,hd⟩
  dsimp only at hu hd ⊢
  obtain⟨_,e1,e2,_,e3,e4⟩:=hu.enc
  have el:=Za (u:=u)
  have es:GE u=some (19+((Hk u (CG (Bj u)).1).length:Int)):=by
   rw[VU hu.s]
   unfold Zm
   rw[if_pos hu.v]
   have:encS u=Do u:=if_pos hu.v
   rw[<- this,e1]
  rw[Ly hu.s,AC]
  rw[e1] at el ⊢
  dsimp only at el ⊢
  rw[Vn (by omega),AC,cR e3 e2]
  dsimp only
  have hw:=hu.w
  have hfl :∀b,(u.Withdraw.filter fun p=>p.Addr.V6==b).length<=4:=fun b=>Nat.le_trans (List.length_filter_le _ _) hw
  rw[AH,GF,AH,AH,YY false _ _ _ _ (by simp only[X13];omega),List.nil_append]
  dsimp only
  rw[GF,AH,AH,YY true _ _ _ _ (by have:=hfl false;omega)]
  dsimp only
  rw[RE]
  have ea:(if u.Announce=[] then eA else u.JAC)=u.JAC:=by
   split
   ·exact (e4 ‹_›).symm
   rfl
  rw[AH,if_pos (by rfl),if_pos (by rfl),ea]
  show Ok (Option.bind (Gu ⟨(u.Withdraw.filter fun p=>p.Addr.V6==false)++(u.Withdraw.filter fun p=>p.Addr.V6==true),u.JAC,u.Announce⟩ ⟨(u.Withdraw.filter fun p=>p.Addr.V6==false)++(u.Withdraw.filter fun p=>p.Addr.V6==true),u.JAC,u.Announce⟩) _) _
  rw[XL,AC,if_pos (by rfl),es,AC,AP (by omega),beq_self_eq_true,if_pos (by rfl),awake,AC]
  exact .ret rfl
 obtain⟨r,h1,h2⟩:=main
 rw[h1,h2]
theorem YI {n:Nat}(h:n<65536) :∃a b:UInt8,two n=[a,b]/\a.toNat*256+b.toNat=n:=by
 have e1:Int.fdiv (n:Int) (2^(min (Int.toNat 8) 64))=((n/256:Nat):Int):=cu n
 refine⟨_,_,rfl,?_⟩
 rw[e1,BU,BU,UInt8.toNat_ofNat',UInt8.toNat_ofNat']
 omega
abbrev HL (l:List Int):Prop:=l.length<=maxLen/\l.length*8<=reachBytes/\∀a∈l,I64 a
theorem WO (l:List Int)(h:HL l):DV l=some true:=updateBack l h.1
end Go.AX.Q19
end
section
namespace Go.AX.Q19
open Go Go.AX Go.Proofs
variable {wl:Prop}
theorem VH {a0:List Int}{r:JAI}(h:NE a0=some r):yC wl 12 [AV.d (D.l 1 D.i a0)] [] (.ref 0 0) [.box (JAI.av r)]:=by
 refine oK Tryz.f12 ⟨rfl,?_⟩;unfold NE at h;cases h;exact⟨rfl,rfl⟩
theorem Kp {r:JAC}(h:ES=some r):yC wl 17 [] [] (.d (JAC.toD r)) []:=by
 refine oK Tryz.f17 ⟨rfl,?_⟩;unfold ES at h;cases h;exact⟨rfl,rfl⟩
theorem WM {a0:Int}{a1:Int}{r:Int}(h:KV a0 a1=some r):yC wl 14 [AV.d (D.i a0),AV.d (D.i a1)] [] (.d (D.i r)) []:=by
 refine oK Tryz.f14 ⟨rfl,?_⟩;unfold KV at h;obtain⟨_,g1,h⟩:=AB h;refine⟨Em g1,_,rfl,?_⟩;revert h;refine AG (fun v2=>⟨dd 5 (yi v2::dd 9 ([])),nn 15 ([])⟩) ?_ ?_
 ·intro k3 h;refine sJ h (fun h=>?_) fun h=>AA wk h;refine⟨_,rfl,?_⟩;exact AA wk h
 rintro v2 h;cases h;exact⟨rfl,rfl⟩
theorem AK {a0:JAI}{a1:Int}{r:Int×JAI}(h:AL a0 a1=some r):yC wl 25 [.ref 0 0,AV.d (D.i a1)] [.box (JAI.av a0)] (.d (D.i r.1)) [.box (JAI.av r.2)]:=by
 refine oK Tryz.f25 ⟨rfl,?_⟩;unfold AL at h;(conv=>whnf);refine .inl (dO ?_);refine⟨a0.L.length,X10 _,?_⟩;(conv=>whnf);refine cO ?_;(conv=>whnf);refine .go ?_;refine sJ h ?_ ?_<;>intro h
 ·cases h;exact⟨rfl,rfl⟩
 refine⟨_,rfl,?_⟩;(conv=>whnf);refine .inl (dO ?_);refine⟨_,rfl,?_⟩;obtain⟨v1,g2,h⟩:=AB h;refine⟨Ah (f:=D.i) g2,D.i v1,Aj (f:=D.i) g2,rfl,?_⟩;obtain⟨v3,g4,h⟩:=AB h;refine⟨_,_,WM g4,.inl rfl,?_⟩;(conv=>whnf);refine cO ?_;cases h;exact⟨rfl,rfl⟩
theorem NK {a0:Int}{r:Addr}(h:I2 a0=some r):yC wl 42 [AV.d (D.i a0)] [] (.d (Addr.toD r)) []:=by
 refine oK Tryz.f42 ⟨rfl,?_⟩;unfold I2 at h;refine⟨_,rfl,?_⟩;refine⟨_,Av _,?_⟩;refine⟨_,Av _,?_⟩;cases h;exact⟨rfl,rfl⟩
theorem PU {a0:Int}{r:Addr}(h:KN a0=some r):yC wl 43 [AV.d (D.i a0)] [] (.d (Addr.toD r)) []:=by
 refine oK Tryz.f43 ⟨rfl,?_⟩;unfold KN at h;refine⟨_,rfl,?_⟩;refine⟨_,Av _,?_⟩;cases h;exact⟨rfl,rfl⟩
theorem J6 {a0:List JAD}{r:Bool}(h:Eo a0=some r):yC wl 75 [AV.d (D.l 2 JAD.toD a0)] [] (.d (D.b r)) []:=by
 refine oK Tryz.f75 ⟨rfl,?_⟩;unfold Eo at h;refine⟨a0.length,X10 _,?_⟩;revert h;refine AG (fun v1=>⟨X::X::X::yi v1::dd 74 ([]),nn 78 ([])⟩) ?_ ?_
 ·intro k2 h;revert h;refine Ac 8 2 JAD.toD rfl (fun i3 v4=>⟨y0 a0::X::X::yi v4::dd 4 (y0 a0::yi (a0.length:Int)::yi (i3:Int)::dd 67 ([])),nn 78 ([])⟩) ?_ ?_ ?_
  ·exact wk
  ·rintro v4 K5 h;(conv=>whnf);refine .go ?_;(conv=>whnf);refine BI Cb ?_;exact AA wk h
  rintro next6 i3 x7 v4 K5 hii3 hxi3 hwi3 h hK8;(conv=>whnf);refine .go ?_;(conv=>whnf);refine BD (CQ hii3) ?_;revert h;refine AG (fun _=>⟨y0 a0::X::X::yi (AN (v4+(x7.ASNs.length:Int)))::dd 4 (y0 a0::yi (a0.length:Int)::yi (i3:Int)::dd 67 ([])),nn 78 ([])⟩) ?_ ?_
  ·intro k9 h;refine⟨BF (f:=JAD.toD) hii3,JAD.toD x7,hxi3,rfl,?_⟩;revert h;refine AG (fun v10=>⟨y0 a0::X::X::yi v4::X::yr 5 0::X::X::y0 a0::yi (a0.length:Int)::yi (i3:Int)::dd 25 (yb v10::dd 41 ([])),nn 5 (yB (JAD.av x7)::nn 72 ([]))⟩) ?_ ?_
   ·intro k11 h;refine⟨x7.ASNs.length,X10 _,?_⟩;refine sJ h (fun h=>AA wk h) fun h=>?_;refine sJ h (fun h=>?_) fun h=>AA wk h;refine sJ h (fun h=>?_) fun h=>AA wk h;refine⟨_,rfl,?_⟩;obtain⟨v12,g13,h⟩:=AB h;refine⟨Ah (f:=JAD.toD) g13,JAD.toD v12,Aj (f:=JAD.toD) g13,rfl,?_⟩;exact AA wk h
   rintro v10 h;(conv=>whnf);refine .go ?_;refine sJ h ?_ ?_<;>intro h
   ·cases h;exact⟨rfl,rfl⟩
   refine⟨x7.ASNs.length,X10 _,?_⟩;revert h;refine AG (fun _=>⟨y0 a0::X::X::yi v4::X::yr 5 0::X::X::y0 a0::yi (a0.length:Int)::yi (i3:Int)::dd 67 ([]),nn 5 (yB (JAD.av x7)::nn 72 ([]))⟩) ?_ ?_
   ·intro k14 h;revert h;refine Ac 38 1 D.i rfl (fun i15 _=>⟨y0 a0::X::X::yi v4::X::yr 5 0::X::X::y0 a0::yi (a0.length:Int)::yi (i3:Int)::dd 27 (AV.d (D.l 1 D.i x7.ASNs)::yi (x7.ASNs.length:Int)::yi (i15:Int)::dd 37 ([])),nn 5 (yB (JAD.av x7)::nn 72 ([]))⟩) ?_ ?_ ?_
    ·exact wk
    ·rintro _ K16 h;(conv=>whnf);refine .go ?_;(conv=>whnf);refine BI Cb ?_;exact AA wk h
    rintro next17 i15 x18 _ K16 hii15 hxi15 hwi15 h hK19;(conv=>whnf);refine .go ?_;(conv=>whnf);refine BD (CQ hii15) ?_;(conv=>whnf);refine .go ?_;refine⟨BF (f:=D.i) hii15,D.i x18,hxi15,rfl,?_⟩;revert h;refine AG (fun v20=>⟨y0 a0::X::X::yi v4::X::yr 5 0::X::X::y0 a0::yi (a0.length:Int)::yi (i3:Int)::dd 27 (AV.d (D.l 1 D.i x7.ASNs)::yi (x7.ASNs.length:Int)::yi (i15:Int)::dd 27 (yb v20::dd 9 ([]))),nn 5 (yB (JAD.av x7)::nn 72 ([]))⟩) ?_ ?_
    ·intro k21 h;refine sJ h (fun h=>AA wk h) fun h=>?_;refine sJ h (fun h=>AA wk h) fun h=>?_;refine sJ h (fun h=>?_) fun h=>AA wk h;refine sJ h (fun h=>?_) fun h=>AA wk h;refine⟨_,rfl,?_⟩;obtain⟨v22,g23,h⟩:=AB h;refine⟨Ah (f:=D.i) g23,D.i v22,Aj (f:=D.i) g23,rfl,?_⟩;exact AA wk h
    rintro v20 h;(conv=>whnf);refine .go ?_;refine sJ h ?_ ?_<;>intro h
    ·cases h;exact⟨rfl,rfl⟩
    refine⟨_,hwi15,?_⟩;exact hK19 _ _ wk h
   rintro _ h;refine⟨x7.ASNs.length,X10 _,?_⟩;refine⟨_,rfl,?_⟩;exact AA wk h
  rintro _ h;refine⟨_,hwi3,?_⟩;exact hK8 _ _ wk h
 rintro v1 h;cases h;exact⟨rfl,rfl⟩
theorem Ob {a0:JAI}{r:Int×JAI}(h:Fq a0=some r):yC wl 88 [.ref 0 0] [.box (JAI.av a0)] (.d (D.i r.1)) [.box (JAI.av r.2)]:=by
 refine oK Tryz.f88 ⟨rfl,?_⟩;unfold Fq at h;obtain⟨⟨v1,v2⟩,g3,h⟩:=AB h;refine⟨_,_,some [],AK g3,?_⟩;refine⟨_,rfl,?_⟩;obtain⟨⟨v4,v5⟩,g6,h⟩:=AB h;refine⟨_,_,some [],AK g6,?_⟩;refine⟨_,rfl,?_⟩;obtain⟨⟨v7,v8⟩,g9,h⟩:=AB h;refine⟨_,_,some [],AK g9,?_⟩;obtain⟨v10,g11,h⟩:=AB h;refine⟨rfl,Ah (f:=D.i) g11,?_⟩;refine⟨rfl,D.i v10,(Aj (f:=D.i) g11),?_⟩;cases h;exact⟨rfl,rfl⟩
theorem Nz {a0:JAI}{r:(List JAD)×JAI}(h:FA a0=some r):yC wl 44 [.ref 0 0] [.box (JAI.av a0)] (.d (D.l 2 JAD.toD r.1)) [.box (JAI.av r.2)]:=by
 refine oK Tryz.f44 ⟨rfl,?_⟩;unfold FA at h;obtain⟨⟨v1,v2⟩,g3,h⟩:=AB h;refine⟨_,_,some [],AK g3,?_⟩;revert h;refine AG (fun (v4,v5)=>⟨X::X::X::yO 4 JAD.toD v5::dd 106 ([]),yB (JAI.av v4)::N::N::N::yR 132 2 JAD.toD v5::nn 106 ([])⟩) ?_ ?_
 ·intro k6 h;revert h;refine Aw (fun (v7,v8,v9)=>⟨yr 0 0::X::X::yO 4 JAD.toD v9::yi v7::dd 105 ([]),yB (JAI.av v8)::N::N::N::yR 132 2 JAD.toD v9::nn 106 ([])⟩) ?_ ?_
  ·exact wk
  rintro next10 ⟨v7,v8,v9⟩ K11 h hK12;(conv=>whnf);refine .go ?_;refine sJ h (fun h=>?_) fun h=>AA wk h;revert h;refine AG (fun (v13,v14)=>⟨yr 0 0::X::X::yO 109 JAD.toD v14::yi v7::dd 105 ([]),yB (JAI.av v13)::nn 108 (yR 132 2 JAD.toD v14::N::[])⟩) ?_ ?_
  ·intro k15 h;revert h;refine AG (fun (v16,v17)=>⟨yr 0 0::X::X::yO 4 JAD.toD v9::yi v7::yb v16::dd 104 ([]),yB (JAI.av v17)::N::N::N::yR 132 2 JAD.toD v9::nn 106 ([])⟩) ?_ ?_
   ·intro k18 h;refine⟨v9.length,by first | exact X10 _ | rfl | (simp only[X10];omega),?_⟩;refine sJ h ?_ ?_<;>intro h
    ·refine⟨v9.length,by first | exact X10 _ | rfl | (simp only[X10];omega),?_⟩;refine⟨_,rfl,?_⟩;obtain⟨v19,g20,h⟩:=AB h;refine⟨rfl,Ah (f:=JAD.toD) g20,?_⟩;refine⟨rfl,?_⟩;refine⟨rfl,JAD.toD v19,(Aj (f:=JAD.toD) g20),?_⟩;refine sJ h (fun h=>AA wk h) fun h=>?_;obtain⟨⟨v21,v22⟩,g23,h⟩:=AB h;refine⟨_,_,some [],AK g23,?_⟩;exact AA wk h
    obtain⟨⟨v24,v25⟩,g26,h⟩:=AB h;refine⟨_,_,some [],AK g26,?_⟩;exact AA wk h
   rintro⟨v16,v17⟩ h;obtain⟨⟨v27,v28⟩,g29,h⟩:=AB h;refine⟨_,_,some [],AK g29,?_⟩;refine⟨_,rfl,?_⟩;revert h;refine AG (fun (v30,v31)=>⟨yr 0 0::X::X::yO 4 JAD.toD v9::yi v7::X::yr 7 0::dd 103 ([]),yB (JAI.av v30)::N::N::N::yR 132 2 JAD.toD v9::N::N::yB [yb v16,yO 52 D.i v31]::nn 44 (yR 3 1 D.i v31::nn 58 ([]))⟩) ?_ ?_
   ·intro k32 h;revert h;refine Aw (fun (v33,v34,v35)=>⟨yr 0 0::X::X::yO 4 JAD.toD v9::yi v7::yb v16::yr 7 0::yi v33::dd 102 ([]),yB (JAI.av v34)::N::N::N::yR 132 2 JAD.toD v9::N::N::yB [yb v16,yO 52 D.i v35]::nn 44 (yR 3 1 D.i v35::nn 58 ([]))⟩) ?_ ?_
    ·exact wk
    rintro next36 ⟨v33,v34,v35⟩ K37 h hK38;(conv=>whnf);refine .go ?_;refine sJ h (fun h=>?_) fun h=>AA wk h;revert h;refine AG (fun (v39,v40)=>⟨yr 0 0::X::X::yO 4 JAD.toD v9::yi v7::yb v16::yr 7 0::yi v33::dd 102 ([]),yB (JAI.av v39)::N::N::N::yR 132 2 JAD.toD v9::N::N::yB [yb v16,yO 52 D.i v40]::nn 44 (yR 3 1 D.i v40::nn 58 ([]))⟩) ?_ ?_
    ·intro k41 h;obtain⟨⟨v42,v43⟩,g44,h⟩:=AB h;refine⟨_,_,some [],Ob g44,?_⟩;(conv=>whnf);refine .go ?_;refine sJ h ?_ ?_<;>intro h
     ·refine⟨rfl,?_⟩;obtain⟨v45,g46,h⟩:=AB h;refine⟨rfl,Ab (f:=D.i) (g:=D.i) g46,_,Ag (f:=D.i) g46,?_⟩;exact AA wk h
     revert h;refine AG (fun v47=>⟨yr 0 0::X::X::yO 4 JAD.toD v9::yi v7::yb v16::yr 7 0::yi v33::yi v42::yi v47::dd 100 ([]),yB (JAI.av v43)::N::N::N::yR 132 2 JAD.toD v9::N::N::yB [yb v16,yO 52 D.i v35]::nn 44 (yR 3 1 D.i v35::nn 58 ([]))⟩) ?_ ?_
     ·intro k48 h;revert h;refine Aw (fun v49=>⟨yr 0 0::X::X::yO 4 JAD.toD v9::yi v7::yb v16::yr 7 0::yi v33::yi v42::yi v49::dd 100 ([]),yB (JAI.av v43)::N::N::N::yR 132 2 JAD.toD v9::N::N::yB [yb v16,yO 52 D.i v35]::nn 44 (yR 3 1 D.i v35::nn 58 ([]))⟩) ?_ ?_
      ·exact wk
      rintro next50 v49 K51 h hK52;revert h;refine AG (fun v53=>⟨yr 0 0::X::X::yO 4 JAD.toD v9::yi v7::yb v16::yr 7 0::yi v33::yi v42::yi v49::dd 56 (yb v53::dd 43 ([])),yB (JAI.av v43)::N::N::N::yR 132 2 JAD.toD v9::N::N::yB [yb v16,yO 52 D.i v35]::nn 44 (yR 3 1 D.i v35::nn 58 ([]))⟩) ?_ ?_
      ·intro k54 h;refine⟨v35.length,by first | exact X10 _ | rfl | (simp only[X10];omega),?_⟩;refine sJ h (fun h=>?_) fun h=>AA wk h;obtain⟨v55,g56,h⟩:=AB h;refine⟨rfl,Ah (f:=D.i) g56,?_⟩;refine⟨rfl,D.i v55,(Aj (f:=D.i) g56),?_⟩;exact AA wk h
      rintro v53 h;(conv=>whnf);refine .go ?_;refine sJ h (fun h=>?_) fun h=>AA wk h;(conv=>whnf);refine .go ?_;refine⟨_,rfl,?_⟩;exact hK52 _ _ wk h
     rintro v47 h;revert h;refine AG (fun v57=>⟨yr 0 0::X::X::yO 4 JAD.toD v9::yi v7::yb v16::yr 7 0::yi v33::yi v42::yi v47::dd 72 (yb v57::dd 27 ([])),yB (JAI.av v43)::N::N::N::yR 132 2 JAD.toD v9::N::N::yB [yb v16,yO 52 D.i v35]::nn 44 (yR 3 1 D.i v35::nn 58 ([]))⟩) ?_ ?_
     ·intro k58 h;refine⟨v35.length,by first | exact X10 _ | rfl | (simp only[X10];omega),?_⟩;refine sJ h (fun h=>AA wk h) fun h=>?_;obtain⟨v59,g60,h⟩:=AB h;refine⟨rfl,Ah (f:=D.i) g60,?_⟩;refine⟨rfl,D.i v59,(Aj (f:=D.i) g60),?_⟩;exact AA wk h
     rintro v57 h;revert h;refine AG (fun v61=>⟨yr 0 0::X::X::yO 4 JAD.toD v9::yi v7::yb v16::yr 7 0::yi v33::dd 102 ([]),yB (JAI.av v43)::N::N::N::yR 132 2 JAD.toD v9::N::N::yB [yb v16,yO 88 D.i v61]::nn 80 (yR 3 1 D.i v61::nn 22 ([]))⟩) ?_ ?_
     ·intro k62 h;refine sJ h ?_ ?_<;>intro h
      ·(conv=>whnf);refine .inl (dO ?_);(conv=>whnf);refine .inr (.inl ?_);obtain⟨_,g63,h⟩:=AB h;have g169c:=Em g63;refine⟨bR (f:=D.i) g63,rfl,(Int.toNat 0),(Int.toNat v47-Int.toNat 0),rfl,rfl,?_⟩;refine⟨(by first | rfl | (simp only[X10,X21];omega)|(simp only[cpy,X10,X21,X11,X18,X17,X20];omega)),List.map D.i (List.take (Int.toNat v47-Int.toNat 0) (List.drop (Int.toNat 0) v35)),XF,?_⟩;obtain⟨_,g64,h⟩:=AB h;refine⟨F2 (g:=D.i) g64,?_⟩;refine⟨rfl,?_⟩;obtain⟨v65,g66,h⟩:=AB h;refine⟨rfl,Ab (f:=D.i) (g:=D.i) g66,_,Ag (f:=D.i) g66,?_⟩;(conv=>whnf);refine .inr (.inl ?_);obtain⟨_,g67,h⟩:=AB h;have g175c:=Em g67;refine⟨JY (f:=D.i) g67,rfl,(Int.toNat v47),(Int.toNat (v35.length:Int)-Int.toNat v47),rfl,(by rw[X10]),?_⟩;refine⟨(by first | rfl | (simp only[X10,X21];omega)|(simp only[cpy,X10,X21,X11,X18,X17,X20];omega)),List.map D.i (List.take (Int.toNat (v35.length:Int)-Int.toNat v47) (List.drop (Int.toNat v47) v35)),XF,?_⟩;obtain⟨v68,g69,h⟩:=AB h;refine⟨rfl,Ab (f:=D.i) (g:=D.i) g69,_,Ag (f:=D.i) g69,?_⟩;(conv=>whnf);refine cO ?_;exact AA wk h
      exact AA (.swap 52 88 rfl rfl rfl wk) h
     rintro v61 h;exact AA (.swap 88 52 rfl rfl rfl wk) h
    rintro⟨v39,v40⟩ h;refine⟨_,rfl,?_⟩;exact hK38 _ _ wk h
   rintro⟨v30,v31⟩ h;(conv=>whnf);refine .inl ?_;refine⟨rfl,?_⟩;refine⟨rfl,?_⟩;obtain⟨v70,g71,h⟩:=AB h;refine⟨rfl,Ab (f:=JAD.toD) (g:=JAD.toD) g71,_,Ag (f:=JAD.toD) g71,?_⟩;refine⟨rfl,?_⟩;obtain⟨v72,g73,h⟩:=AB h;refine⟨_,_,none,J6 g73,?_⟩;revert h;refine AG (fun v74=>⟨yr 0 0::X::X::yO 109 JAD.toD v74::yi v7::dd 105 ([]),yB (JAI.av v30)::nn 108 (yR 132 2 JAD.toD v74::N::[])⟩) ?_ ?_
   ·intro k75 h;refine sJ h ?_ ?_<;>intro h
    ·refine⟨v70.length,by first | exact X10 _ | rfl | (simp only[X10];omega),?_⟩;refine⟨_,rfl,?_⟩;(conv=>whnf);refine .inr (.inr ?_);obtain⟨v76,g77,h⟩:=AB h;refine⟨QW (f:=JAD.toD) g77,rfl,_,EL (f:=JAD.toD) g77,?_⟩;exact AA wk h
    exact AA (.swap 4 109 rfl rfl rfl wk) h
   rintro v74 h;exact AA wk h
  rintro⟨v13,v14⟩ h;refine⟨_,rfl,?_⟩;exact hK12 _ _ (.swap 109 4 rfl rfl rfl wk) h
 rintro⟨v4,v5⟩ h;(conv=>whnf);refine .inl ?_;(conv=>whnf);refine .inl ?_;refine⟨rfl,?_⟩;cases h;exact⟨rfl,rfl⟩
theorem Kx {a0:JAB}{r:Bool}(h:EP a0=some r):yC wl 127 [AV.d (JAB.toD a0)] [] (.d (D.b r)) []:=by
 refine oK Tryz.f127 ⟨rfl,?_⟩;unfold EP at h;revert h;refine AG (fun v1=>⟨X::X::yb v1::dd 18 ([]),nn 21 ([])⟩) ?_ ?_
 ·intro k2 h;refine sJ h (fun h=>?_) fun h=>AA wk h;refine sJ h (fun h=>?_) fun h=>AA wk h;exact sJ h (fun h=>AA wk h) fun h=>AA wk h
 rintro v1 h;cases h;exact⟨rfl,rfl⟩
theorem Lp {a0:JAB}{a1:JAB}{r:Bool}(h:EV a0 a1=some r):yC wl 128 [AV.d (JAB.toD a0),AV.d (JAB.toD a1)] [] (.d (D.b r)) []:=by
 refine oK Tryz.f128 ⟨rfl,?_⟩;unfold EV at h;revert h;refine AG (fun v1=>⟨dd 4 (yb v1::dd 19 ([])),nn 24 ([])⟩) ?_ ?_
 ·intro k2 h;refine sJ h (fun h=>AA wk h) fun h=>?_;exact sJ h (fun h=>AA wk h) fun h=>AA wk h
 rintro v1 h;cases h;exact⟨rfl,rfl⟩
theorem H7 {a0:List JAB}{r:Bool}(h:E1 a0=some r):yC wl 77 [AV.d (D.l 2 JAB.toD a0)] [] (.d (D.b r)) []:=by
 refine oK Tryz.f77 ⟨rfl,?_⟩;unfold E1 at h;refine⟨a0.length,X10 _,?_⟩;revert h;refine AG (fun _=>⟨y1 a0::dd 32 ([]),nn 33 ([])⟩) ?_ ?_
 ·intro k1 h;revert h;refine Ac 5 2 JAB.toD rfl (fun i2 _=>⟨y1 a0::dd 4 (y1 a0::yi (a0.length:Int)::yi (i2:Int)::dd 25 ([])),nn 33 ([])⟩) ?_ ?_ ?_
  ·exact wk
  ·rintro _ K3 h;(conv=>whnf);refine .go ?_;(conv=>whnf);refine BI Cb ?_;exact AA wk h
  rintro next4 i2 x5 _ K3 hii2 hxi2 hwi2 h hK6;(conv=>whnf);refine .go ?_;(conv=>whnf);refine BD (CQ hii2) ?_;(conv=>whnf);refine .go ?_;refine⟨BF (f:=JAB.toD) hii2,JAB.toD x5,hxi2,rfl,?_⟩;revert h;refine AG (fun v7=>⟨y1 a0::dd 4 (y1 a0::yi (a0.length:Int)::yi (i2:Int)::dd 20 (yb v7::dd 4 ([]))),nn 33 ([])⟩) ?_ ?_
  ·intro k8 h;(conv=>whnf);refine .inl (dO ?_);obtain⟨v9,g10,h⟩:=AB h;refine⟨_,_,Kx g10,.inl rfl,?_⟩;refine sJ h ?_ ?_<;>intro h
   ·(conv=>whnf);refine cO ?_;exact AA wk h
   refine sJ h ?_ ?_<;>intro h
   ·refine⟨_,rfl,?_⟩;obtain⟨v11,g12,h⟩:=AB h;refine⟨Ah (f:=JAB.toD) g12,JAB.toD v11,Aj (f:=JAB.toD) g12,rfl,?_⟩;obtain⟨v13,g14,h⟩:=AB h;refine⟨_,_,Lp g14,.inl rfl,?_⟩;(conv=>whnf);refine cO ?_;exact AA wk h
   (conv=>whnf);refine cO ?_;exact AA wk h
  rintro v7 h;(conv=>whnf);refine .go ?_;refine sJ h ?_ ?_<;>intro h
  ·cases h;exact⟨rfl,rfl⟩
  refine⟨_,hwi2,?_⟩;exact hK6 _ _ wk h
 rintro _ h;refine⟨a0.length,X10 _,?_⟩;cases h;exact⟨rfl,rfl⟩
theorem UX {a0:List JAB}{a1:JAB}{r:Bool}(h:Gv a0 a1=some r):yC wl 132 [AV.d (D.l 2 JAB.toD a0),AV.d (JAB.toD a1)] [] (.d (D.b r)) []:=by
 refine oK Tryz.f132 ⟨rfl,?_⟩;unfold Gv at h;refine⟨a0.length,X10 _,?_⟩;revert h;refine AG (fun _=>⟨dd 17 ([]),nn 17 ([])⟩) ?_ ?_
 ·intro k1 h;revert h;refine Ac 7 2 JAB.toD rfl (fun i2 _=>⟨X::X::X::yr 3 0::X::X::X::y1 a0::yi (a0.length:Int)::yi (i2:Int)::dd 7 ([]),N::N::N::yB (JAB.av a1)::nn 13 ([])⟩) ?_ ?_ ?_
  ·exact wk
  ·rintro _ K3 h;(conv=>whnf);refine .go ?_;(conv=>whnf);refine BI Cb ?_;exact AA wk h
  rintro next4 i2 x5 _ K3 hii2 hxi2 hwi2 h hK6;(conv=>whnf);refine .go ?_;(conv=>whnf);refine BD (CQ hii2) ?_;(conv=>whnf);refine .go ?_;refine⟨BF (f:=JAB.toD) hii2,JAB.toD x5,hxi2,rfl,?_⟩;(conv=>whnf);refine .go ?_;refine sJ h ?_ ?_<;>intro h
  ·cases h;exact⟨rfl,rfl⟩
  refine⟨_,hwi2,?_⟩;exact hK6 _ _ wk h
 rintro _ h;cases h;exact⟨rfl,rfl⟩
theorem Uf {a0:List JAB}{a1:JAB}{r:(List JAB)×Int}(h:Ix a0 a1=some r):yC wl 89 [AV.d (D.l 2 JAB.toD a0),AV.d (JAB.toD a1)] [] (.tup [.d (D.l 2 JAB.toD r.1),.d (D.i r.2)]) []:=by
 refine oK Tryz.f89 ⟨rfl,?_⟩;unfold Ix at h;(conv=>whnf);refine .go ?_;revert h;refine AG (fun v1=>⟨y1 a0::X::X::yr 3 0::X::X::X::yb v1::dd 43 ([]),N::N::N::yB (JAB.av a1)::nn 47 ([])⟩) ?_ ?_
 ·intro k2 h;obtain⟨v3,g4,h⟩:=AB h;refine⟨_,_,some [],H7 g4,?_⟩;refine sJ h (fun h=>AA wk h) fun h=>?_;obtain⟨v5,g6,h⟩:=AB h;refine⟨_,_,some [],Kx g6,?_⟩;exact AA wk h
 rintro v1 h;(conv=>whnf);refine .go ?_;refine sJ h ?_ ?_<;>intro h
 ·(conv=>whnf);refine .inl ?_;refine⟨rfl,?_⟩;cases h;exact⟨rfl,rfl⟩
 obtain⟨v7,g8,h⟩:=AB h;refine⟨_,_,some [],UX g8,?_⟩;(conv=>whnf);refine .go ?_;refine sJ h ?_ ?_<;>intro h
 ·obtain⟨_,g9,h⟩:=AB h;refine⟨F2 (g:=JAB.toD) g9,?_⟩;(conv=>whnf);refine .inl ?_;refine⟨rfl,?_⟩;cases h;exact⟨rfl,rfl⟩
 refine⟨a0.length,X10 _,?_⟩;(conv=>whnf);refine .go ?_;refine sJ h ?_ ?_<;>intro h
 ·(conv=>whnf);refine .inl ?_;refine⟨rfl,?_⟩;cases h;exact⟨rfl,rfl⟩
 revert h;refine AG (fun v10=>⟨y1 a0::X::X::yr 3 0::X::X::yi v10::dd 44 ([]),N::N::N::yB (JAB.av a1)::nn 47 ([])⟩) ?_ ?_
 ·intro k11 h;revert h;refine Aw (fun v12=>⟨y1 a0::X::X::yr 3 0::X::X::yi v12::dd 44 ([]),N::N::N::yB (JAB.av a1)::nn 47 ([])⟩) ?_ ?_
  ·exact wk
  rintro next13 v12 K14 h hK15;revert h;refine AG (fun v16=>⟨y1 a0::X::X::yr 3 0::X::X::yi v12::dd 30 (yb v16::dd 13 ([])),N::N::N::yB (JAB.av a1)::nn 47 ([])⟩) ?_ ?_
  ·intro k17 h;(conv=>whnf);refine .inl (dO ?_);refine⟨a0.length,X10 _,?_⟩;refine sJ h ?_ ?_<;>intro h
   ·obtain⟨v18,g19,h⟩:=AB h;refine⟨Ah (f:=JAB.toD) g19,JAB.toD v18,Aj (f:=JAB.toD) g19,rfl,?_⟩;obtain⟨v20,g21,h⟩:=AB h;refine⟨_,_,Lp g21,.inl rfl,?_⟩;(conv=>whnf);refine cO ?_;exact AA wk h
   (conv=>whnf);refine cO ?_;exact AA wk h
  rintro v16 h;(conv=>whnf);refine .go ?_;refine sJ h (fun h=>?_) fun h=>AA wk h;(conv=>whnf);refine .go ?_;refine⟨_,rfl,?_⟩;exact hK15 _ _ wk h
 rintro v10 h;(conv=>whnf);refine .inl (dO ?_);obtain⟨v22,g23,h⟩:=AB h;refine⟨Fe (f:=JAB.toD) g23,_,EL (f:=JAB.toD) g23,?_⟩;obtain⟨_,g24,h⟩:=AB h;refine⟨F2 (g:=JAB.toD) g24,?_⟩;refine⟨rfl,?_⟩;obtain⟨v25,g26,h⟩:=AB h;refine⟨rfl,Ab (f:=JAB.toD) (g:=JAB.toD) g26,_,Ag (f:=JAB.toD) g26,?_⟩;obtain⟨v27,g28,h⟩:=AB h;refine⟨Gj (f:=JAB.toD) g28,_,Gf (f:=JAB.toD) g28,?_⟩;obtain⟨v29,g30,h⟩:=AB h;refine⟨rfl,Ab (f:=JAB.toD) (g:=JAB.toD) g30,_,Ag (f:=JAB.toD) g30,?_⟩;(conv=>whnf);refine cO ?_;(conv=>whnf);refine .inl ?_;refine⟨rfl,?_⟩;cases h;exact⟨rfl,rfl⟩
theorem Hl {a0:JAF}{r:Bool}(h:B9 a0=some r):yC wl 129 [AV.d (JAF.toD a0)] [] (.d (D.b r)) []:=by
 refine oK Tryz.f129 ⟨rfl,?_⟩;unfold B9 at h;revert h;refine AG (fun v1=>⟨X::X::yb v1::dd 28 ([]),nn 31 ([])⟩) ?_ ?_
 ·intro k2 h;refine sJ h (fun h=>?_) fun h=>AA wk h;refine sJ h (fun h=>?_) fun h=>AA wk h;refine sJ h (fun h=>?_) fun h=>AA wk h;refine sJ h (fun h=>?_) fun h=>AA wk h;exact sJ h (fun h=>AA wk h) fun h=>AA wk h
 rintro v1 h;cases h;exact⟨rfl,rfl⟩
theorem H2 {a0:JAF}{a1:JAF}{r:Bool}(h:B6 a0 a1=some r):yC wl 130 [AV.d (JAF.toD a0),AV.d (JAF.toD a1)] [] (.d (D.b r)) []:=by
 refine oK Tryz.f130 ⟨rfl,?_⟩;unfold B6 at h;revert h;refine AG (fun v1=>⟨dd 4 (yb v1::dd 33 ([])),nn 38 ([])⟩) ?_ ?_
 ·intro k2 h;refine sJ h (fun h=>AA wk h) fun h=>?_;refine sJ h (fun h=>?_) fun h=>AA wk h;refine sJ h (fun h=>AA wk h) fun h=>?_;exact sJ h (fun h=>AA wk h) fun h=>AA wk h
 rintro v1 h;cases h;exact⟨rfl,rfl⟩
theorem Fa {a0:List JAF}{r:Bool}(h:Cf a0=some r):yC wl 78 [AV.d (D.l 3 JAF.toD a0)] [] (.d (D.b r)) []:=by
 refine oK Tryz.f78 ⟨rfl,?_⟩;unfold Cf at h;refine⟨a0.length,X10 _,?_⟩;revert h;refine AG (fun _=>⟨y2 a0::dd 32 ([]),nn 33 ([])⟩) ?_ ?_
 ·intro k1 h;revert h;refine Ac 5 3 JAF.toD rfl (fun i2 _=>⟨y2 a0::dd 4 (y2 a0::yi (a0.length:Int)::yi (i2:Int)::dd 25 ([])),nn 33 ([])⟩) ?_ ?_ ?_
  ·exact wk
  ·rintro _ K3 h;(conv=>whnf);refine .go ?_;(conv=>whnf);refine BI Cb ?_;exact AA wk h
  rintro next4 i2 x5 _ K3 hii2 hxi2 hwi2 h hK6;(conv=>whnf);refine .go ?_;(conv=>whnf);refine BD (CQ hii2) ?_;(conv=>whnf);refine .go ?_;refine⟨BF (f:=JAF.toD) hii2,JAF.toD x5,hxi2,rfl,?_⟩;revert h;refine AG (fun v7=>⟨y2 a0::dd 4 (y2 a0::yi (a0.length:Int)::yi (i2:Int)::dd 20 (yb v7::dd 4 ([]))),nn 33 ([])⟩) ?_ ?_
  ·intro k8 h;(conv=>whnf);refine .inl (dO ?_);obtain⟨v9,g10,h⟩:=AB h;refine⟨_,_,Hl g10,.inl rfl,?_⟩;refine sJ h ?_ ?_<;>intro h
   ·(conv=>whnf);refine cO ?_;exact AA wk h
   refine sJ h ?_ ?_<;>intro h
   ·refine⟨_,rfl,?_⟩;obtain⟨v11,g12,h⟩:=AB h;refine⟨Ah (f:=JAF.toD) g12,JAF.toD v11,Aj (f:=JAF.toD) g12,rfl,?_⟩;obtain⟨v13,g14,h⟩:=AB h;refine⟨_,_,H2 g14,.inl rfl,?_⟩;(conv=>whnf);refine cO ?_;exact AA wk h
   (conv=>whnf);refine cO ?_;exact AA wk h
  rintro v7 h;(conv=>whnf);refine .go ?_;refine sJ h ?_ ?_<;>intro h
  ·cases h;exact⟨rfl,rfl⟩
  refine⟨_,hwi2,?_⟩;exact hK6 _ _ wk h
 rintro _ h;refine⟨a0.length,X10 _,?_⟩;cases h;exact⟨rfl,rfl⟩
theorem N2 {a0:List JAF}{a1:JAF}{r:Bool}(h:Dh a0 a1=some r):yC wl 133 [AV.d (D.l 3 JAF.toD a0),AV.d (JAF.toD a1)] [] (.d (D.b r)) []:=by
 refine oK Tryz.f133 ⟨rfl,?_⟩;unfold Dh at h;refine⟨a0.length,X10 _,?_⟩;revert h;refine AG (fun _=>⟨dd 17 ([]),nn 17 ([])⟩) ?_ ?_
 ·intro k1 h;revert h;refine Ac 7 3 JAF.toD rfl (fun i2 _=>⟨X::X::X::yr 3 0::X::X::X::y2 a0::yi (a0.length:Int)::yi (i2:Int)::dd 7 ([]),N::N::N::yB (JAF.av a1)::nn 13 ([])⟩) ?_ ?_ ?_
  ·exact wk
  ·rintro _ K3 h;(conv=>whnf);refine .go ?_;(conv=>whnf);refine BI Cb ?_;exact AA wk h
  rintro next4 i2 x5 _ K3 hii2 hxi2 hwi2 h hK6;(conv=>whnf);refine .go ?_;(conv=>whnf);refine BD (CQ hii2) ?_;(conv=>whnf);refine .go ?_;refine⟨BF (f:=JAF.toD) hii2,JAF.toD x5,hxi2,rfl,?_⟩;(conv=>whnf);refine .go ?_;refine sJ h ?_ ?_<;>intro h
  ·cases h;exact⟨rfl,rfl⟩
  refine⟨_,hwi2,?_⟩;exact hK6 _ _ wk h
 rintro _ h;cases h;exact⟨rfl,rfl⟩
theorem M3 {a0:List JAF}{a1:JAF}{r:(List JAF)×Int}(h:Ey a0 a1=some r):yC wl 90 [AV.d (D.l 3 JAF.toD a0),AV.d (JAF.toD a1)] [] (.tup [.d (D.l 3 JAF.toD r.1),.d (D.i r.2)]) []:=by
 refine oK Tryz.f90 ⟨rfl,?_⟩;unfold Ey at h;(conv=>whnf);refine .go ?_;revert h;refine AG (fun v1=>⟨y2 a0::X::X::yr 3 0::X::X::X::yb v1::dd 43 ([]),N::N::N::yB (JAF.av a1)::nn 47 ([])⟩) ?_ ?_
 ·intro k2 h;obtain⟨v3,g4,h⟩:=AB h;refine⟨_,_,some [],Fa g4,?_⟩;refine sJ h (fun h=>AA wk h) fun h=>?_;obtain⟨v5,g6,h⟩:=AB h;refine⟨_,_,some [],Hl g6,?_⟩;exact AA wk h
 rintro v1 h;(conv=>whnf);refine .go ?_;refine sJ h ?_ ?_<;>intro h
 ·(conv=>whnf);refine .inl ?_;refine⟨rfl,?_⟩;cases h;exact⟨rfl,rfl⟩
 obtain⟨v7,g8,h⟩:=AB h;refine⟨_,_,some [],N2 g8,?_⟩;(conv=>whnf);refine .go ?_;refine sJ h ?_ ?_<;>intro h
 ·obtain⟨_,g9,h⟩:=AB h;refine⟨F2 (g:=JAF.toD) g9,?_⟩;(conv=>whnf);refine .inl ?_;refine⟨rfl,?_⟩;cases h;exact⟨rfl,rfl⟩
 refine⟨a0.length,X10 _,?_⟩;(conv=>whnf);refine .go ?_;refine sJ h ?_ ?_<;>intro h
 ·(conv=>whnf);refine .inl ?_;refine⟨rfl,?_⟩;cases h;exact⟨rfl,rfl⟩
 revert h;refine AG (fun v10=>⟨y2 a0::X::X::yr 3 0::X::X::yi v10::dd 44 ([]),N::N::N::yB (JAF.av a1)::nn 47 ([])⟩) ?_ ?_
 ·intro k11 h;revert h;refine Aw (fun v12=>⟨y2 a0::X::X::yr 3 0::X::X::yi v12::dd 44 ([]),N::N::N::yB (JAF.av a1)::nn 47 ([])⟩) ?_ ?_
  ·exact wk
  rintro next13 v12 K14 h hK15;revert h;refine AG (fun v16=>⟨y2 a0::X::X::yr 3 0::X::X::yi v12::dd 30 (yb v16::dd 13 ([])),N::N::N::yB (JAF.av a1)::nn 47 ([])⟩) ?_ ?_
  ·intro k17 h;(conv=>whnf);refine .inl (dO ?_);refine⟨a0.length,X10 _,?_⟩;refine sJ h ?_ ?_<;>intro h
   ·obtain⟨v18,g19,h⟩:=AB h;refine⟨Ah (f:=JAF.toD) g19,JAF.toD v18,Aj (f:=JAF.toD) g19,rfl,?_⟩;obtain⟨v20,g21,h⟩:=AB h;refine⟨_,_,H2 g21,.inl rfl,?_⟩;(conv=>whnf);refine cO ?_;exact AA wk h
   (conv=>whnf);refine cO ?_;exact AA wk h
  rintro v16 h;(conv=>whnf);refine .go ?_;refine sJ h (fun h=>?_) fun h=>AA wk h;(conv=>whnf);refine .go ?_;refine⟨_,rfl,?_⟩;exact hK15 _ _ wk h
 rintro v10 h;(conv=>whnf);refine .inl (dO ?_);obtain⟨v22,g23,h⟩:=AB h;refine⟨Fe (f:=JAF.toD) g23,_,EL (f:=JAF.toD) g23,?_⟩;obtain⟨_,g24,h⟩:=AB h;refine⟨F2 (g:=JAF.toD) g24,?_⟩;refine⟨rfl,?_⟩;obtain⟨v25,g26,h⟩:=AB h;refine⟨rfl,Ab (f:=JAF.toD) (g:=JAF.toD) g26,_,Ag (f:=JAF.toD) g26,?_⟩;obtain⟨v27,g28,h⟩:=AB h;refine⟨Gj (f:=JAF.toD) g28,_,Gf (f:=JAF.toD) g28,?_⟩;obtain⟨v29,g30,h⟩:=AB h;refine⟨rfl,Ab (f:=JAF.toD) (g:=JAF.toD) g30,_,Ag (f:=JAF.toD) g30,?_⟩;(conv=>whnf);refine cO ?_;(conv=>whnf);refine .inl ?_;refine⟨rfl,?_⟩;cases h;exact⟨rfl,rfl⟩
theorem Ih {a0:JAI}{r:(List JAB)×(List JAF)×JAI}(h:CV a0=some r):yC wl 45 [.ref 0 0] [.box (JAI.av a0)] (.tup [.d (D.l 2 JAB.toD r.1),.d (D.l 3 JAF.toD r.2.1)]) [.box (JAI.av r.2.2)]:=by
 refine oK Tryz.f45 ⟨rfl,?_⟩;unfold CV at h;obtain⟨⟨v1,v2⟩,g3,h⟩:=AB h;refine⟨_,_,some [],AK g3,?_⟩;revert h;refine AG (fun (v4,v5)=>⟨yr 0 0::X::X::X::y1 v4::AV.own 6 (List.map JAF.toD []).length::dd 50 ([]),yB (JAI.av v5)::nn 5 (some (OB.row 141 3 (List.map JAF.toD []) .no)::nn 50 ([]))⟩) ?_ ?_
 ·intro k6 h;revert h;refine Aw (fun (v7,v8,v9)=>⟨yr 0 0::X::X::X::y1 v7::AV.own 6 (List.map JAF.toD []).length::yi v8::dd 49 ([]),yB (JAI.av v9)::nn 5 (some (OB.row 141 3 (List.map JAF.toD []) .no)::nn 50 ([]))⟩) ?_ ?_
  ·exact wk
  rintro next10 ⟨v7,v8,v9⟩ K11 h hK12;(conv=>whnf);refine .go ?_;refine sJ h (fun h=>?_) fun h=>AA wk h;(conv=>whnf);refine .go ?_;(conv=>whnf);refine .inl (dO ?_);obtain⟨⟨v13,v14⟩,g15,h⟩:=AB h;refine⟨_,_,AK g15,.inl rfl,?_⟩;obtain⟨v16,g17,h⟩:=AB h;refine⟨rfl,Ah (f:=D.i) g17,?_⟩;refine⟨rfl,D.i v16,(Aj (f:=D.i) g17),?_⟩;obtain⟨⟨v18,v19⟩,g20,h⟩:=AB h;refine⟨_,_,AK g20,.inl rfl,?_⟩;refine⟨_,rfl,?_⟩;obtain⟨⟨v21,v22⟩,g23,h⟩:=AB h;refine⟨_,_,AK g23,.inl rfl,?_⟩;obtain⟨v24,g25,h⟩:=AB h;refine⟨rfl,Ah (f:=D.i) g25,?_⟩;refine⟨rfl,D.i v24,(Aj (f:=D.i) g25),?_⟩;obtain⟨⟨v26,v27⟩,g28,h⟩:=AB h;refine⟨_,_,Uf g28,.inl rfl,?_⟩;(conv=>whnf);refine cO ?_;refine⟨_,rfl,?_⟩;exact hK12 _ _ wk h
 rintro⟨v4,v5⟩ h;obtain⟨⟨v29,v30⟩,g31,h⟩:=AB h;refine⟨_,_,some [],AK g31,?_⟩;revert h;refine AG (fun (v32,v33)=>⟨dd 4 (y1 v4::y2 v32::dd 50 ([])),yB (JAI.av v33)::nn 56 ([])⟩) ?_ ?_
 ·intro k34 h;revert h;refine Aw (fun (v35,v36,v37)=>⟨yr 0 0::X::X::X::y1 v4::y2 v35::X::yi v36::dd 48 ([]),yB (JAI.av v37)::nn 56 ([])⟩) ?_ ?_
  ·exact wk
  rintro next38 ⟨v35,v36,v37⟩ K39 h hK40;(conv=>whnf);refine .go ?_;refine sJ h (fun h=>?_) fun h=>AA wk h;(conv=>whnf);refine .go ?_;(conv=>whnf);refine .inl (dO ?_);obtain⟨⟨v41,v42⟩,g43,h⟩:=AB h;refine⟨_,_,AK g43,.inl rfl,?_⟩;obtain⟨v44,g45,h⟩:=AB h;refine⟨rfl,Ah (f:=D.i) g45,?_⟩;refine⟨rfl,D.i v44,(Aj (f:=D.i) g45),?_⟩;obtain⟨⟨v46,v47⟩,g48,h⟩:=AB h;refine⟨_,_,AK g48,.inl rfl,?_⟩;obtain⟨⟨v49,v50⟩,g51,h⟩:=AB h;refine⟨_,_,AK g51,.inl rfl,?_⟩;obtain⟨⟨v52,v53⟩,g54,h⟩:=AB h;refine⟨_,_,M3 g54,.inl rfl,?_⟩;(conv=>whnf);refine cO ?_;refine⟨_,rfl,?_⟩;exact hK40 _ _ wk h
 rintro⟨v32,v33⟩ h;cases h;exact⟨rfl,rfl⟩
theorem MM {a0:JAI}{a1:Int}{r:(List UInt8)×JAI}(h:Ec a0 a1=some r):yC wl 46 [.ref 0 0,AV.d (D.i a1)] [.box (JAI.av a0)] (.d (D.l 1 D.u8 r.1)) [.box (JAI.av r.2)]:=by
 refine oK Tryz.f46 ⟨rfl,?_⟩;unfold Ec at h;refine⟨_,rfl,?_⟩;obtain⟨⟨v1,v2⟩,g3,h⟩:=AB h;refine⟨_,_,some [],AK g3,?_⟩;revert h;refine AG (fun (v4,v5)=>⟨dd 5 (yO 6 D.u8 v5::dd 16 ([])),yB (JAI.av v4)::nn 5 (yR 5 1 D.u8 v5::nn 16 ([]))⟩) ?_ ?_
 ·intro k6 h;revert h;refine Aw (fun (v7,v8,v9)=>⟨yr 0 0::dd 4 (yO 6 D.u8 v9::yi v7::dd 15 ([])),yB (JAI.av v8)::nn 5 (yR 5 1 D.u8 v9::nn 16 ([]))⟩) ?_ ?_
  ·exact wk
  rintro next10 ⟨v7,v8,v9⟩ K11 h hK12;(conv=>whnf);refine .go ?_;refine sJ h (fun h=>?_) fun h=>AA wk h;(conv=>whnf);refine .go ?_;obtain⟨⟨v13,v14⟩,g15,h⟩:=AB h;refine⟨_,_,some [],AK g15,?_⟩;refine⟨_,As _,?_⟩;refine⟨rfl,?_⟩;obtain⟨v16,g17,h⟩:=AB h;refine⟨rfl,Ab (f:=D.u8) (g:=D.u8) g17,_,Ag (f:=D.u8) g17,?_⟩;refine⟨_,rfl,?_⟩;exact hK12 _ _ wk h
 rintro⟨v4,v5⟩ h;(conv=>whnf);refine .inl ?_;(conv=>whnf);refine .inl ?_;refine⟨rfl,?_⟩;cases h;exact⟨rfl,rfl⟩
theorem MH {a0:JAI}{r:JAC×JAI}(h:Eb a0=some r):yC wl 15 [.ref 0 0] [.box (JAI.av a0)] (.d (JAC.toD r.1)) [.box (JAI.av r.2)]:=by
 refine okx 2 Tryz.f15 (by kernel_rfl) (by kernel_rfl) ⟨rfl,?_⟩;unfold Eb at h;revert h;refine AG (fun _=>⟨yr 0 0::X::yr 3 0::dd 4 (AV.d (D.agg [D.i (-1),D.nil 2,D.b false,D.u64 (0:UInt64),D.u64 (0:UInt64),D.i (-1),D.i (-1),D.i (-1),D.nil 2,D.nil 3,D.nil 3])::dd 62 ([])),yB (JAI.av a0)::N::N::yB JAC.zv::nn 69 ([])⟩) ?_ ?_
 ·intro k1 h;(conv=>whnf);refine inl Tryz.f17 71 (by kernel_rfl) (by kernel_rfl) ⟨rfl,?_⟩;exact AA wk h
 rintro _ h;obtain⟨⟨v2,v3⟩,g4,h⟩:=AB h;refine⟨_,_,some [],AK g4,?_⟩;refine⟨_,rfl,?_⟩;obtain⟨⟨v5,v6⟩,g7,h⟩:=AB h;refine⟨_,_,some [],Nz g7,?_⟩;obtain⟨v8,g9,h⟩:=AB h;refine⟨_,_,some [],NK g9,?_⟩;obtain⟨v10,g11,h⟩:=AB h;refine⟨_,_,some [],PU g11,?_⟩;obtain⟨⟨v12,v13⟩,g14,h⟩:=AB h;refine⟨_,_,some [],AK g14,?_⟩;obtain⟨v15,g16,h⟩:=AB h;refine⟨rfl,Ah (f:=Addr.toD) g16,?_⟩;refine⟨rfl,Addr.toD v15,(Aj (f:=Addr.toD) g16),?_⟩;(conv=>whnf);refine .inl (dO ?_);obtain⟨⟨v17,v18⟩,g19,h⟩:=AB h;refine⟨_,_,AK g19,.inl rfl,?_⟩;obtain⟨v20,g21,h⟩:=AB h;refine⟨rfl,Ah (f:=D.i) g21,?_⟩;refine⟨rfl,D.i v20,(Aj (f:=D.i) g21),?_⟩;obtain⟨⟨v22,v23⟩,g24,h⟩:=AB h;refine⟨_,_,AK g24,.inl rfl,?_⟩;obtain⟨v25,g26,h⟩:=AB h;refine⟨rfl,Ah (f:=D.i) g26,?_⟩;refine⟨rfl,D.i v25,(Aj (f:=D.i) g26),?_⟩;(conv=>whnf);refine cO ?_;obtain⟨⟨v27,v28⟩,g29,h⟩:=AB h;refine⟨_,_,some [],AK g29,?_⟩;obtain⟨v30,g31,h⟩:=AB h;refine⟨rfl,Ah (f:=D.i) g31,?_⟩;refine⟨rfl,D.i v30,(Aj (f:=D.i) g31),?_⟩;obtain⟨⟨v32,v33,v34⟩,g35,h⟩:=AB h;refine⟨_,_,some [],Ih g35,?_⟩;refine⟨([6,7,16,34,200,255]:List Int).length,by first | exact X10 _ | rfl | (simp only[X10];omega),?_⟩;revert h;refine AG (fun (v36,v37)=>⟨X::X::yr 3 0::yr 4 0::dd 66 ([]),yB (JAI.av v36)::N::N::yB JAC.zv::yB [yi (AN (v2-1)),y0 v5,AV.d (D.b v15.V6),AV.d (D.u64 v15.Hi),AV.d (D.u64 v15.Lo),yi v20,yi v25,yi v30,y1 v32,y2 v33,yO 67 JAA.toD v37]::nn 62 (yR 88 3 JAA.toD v37::nn 5 ([]))⟩) ?_ ?_
 ·intro k38 h;revert h;refine Nr 51 3 1 .no D.i rfl (fun i39 (v40,v41)=>⟨yr 0 0::X::yr 3 0::yr 4 0::dd 46 (yO 51 D.i ([6,7,16,34,200,255]:List Int)::yi (([6,7,16,34,200,255]:List Int).length:Int)::yi (i39:Int)::dd 17 ([])),yB (JAI.av v40)::N::N::yB JAC.zv::yB [yi (AN (v2-1)),y0 v5,AV.d (D.b v15.V6),AV.d (D.u64 v15.Hi),AV.d (D.u64 v15.Lo),yi v20,yi v25,yi v30,y1 v32,y2 v33,yO 67 JAA.toD v41]::nn 46 (yR 3 1 D.i ([6,7,16,34,200,255]:List Int)::nn 15 (yR 88 3 JAA.toD v41::nn 5 ([])))⟩) ?_ ?_ ?_
  ·exact wk
  ·rintro⟨v40,v41⟩ K42 h;(conv=>whnf);refine .go ?_;exact AA wk h
  rintro next43 i39 x44 ⟨v40,v41⟩ K42 hii39 hxi39 hwi39 h hK45;(conv=>whnf);refine .go ?_;(conv=>whnf);refine BD (CQ hii39) ?_;(conv=>whnf);refine .go ?_;refine⟨rfl,BF (f:=D.i) hii39,?_⟩;refine⟨rfl,D.i x44,hxi39,?_⟩;obtain⟨⟨v46,v47⟩,g48,h⟩:=AB h;refine⟨_,_,some [],AK g48,?_⟩;revert h;refine AG (fun (v49,v50)=>⟨yr 0 0::X::yr 3 0::yr 4 0::dd 46 (yO 51 D.i ([6,7,16,34,200,255]:List Int)::yi (([6,7,16,34,200,255]:List Int).length:Int)::yi (i39:Int)::dd 17 ([])),yB (JAI.av v49)::N::N::yB JAC.zv::yB [yi (AN (v2-1)),y0 v5,AV.d (D.b v15.V6),AV.d (D.u64 v15.Hi),AV.d (D.u64 v15.Lo),yi v20,yi v25,yi v30,y1 v32,y2 v33,yO 67 JAA.toD v50]::nn 46 (yR 3 1 D.i ([6,7,16,34,200,255]:List Int)::nn 15 (yR 88 3 JAA.toD v50::nn 5 ([])))⟩) ?_ ?_
  ·intro k51 h;refine sJ h (fun h=>?_) fun h=>AA wk h;(conv=>whnf);refine .inl (dO ?_);obtain⟨⟨v52,v53⟩,g54,h⟩:=AB h;refine⟨_,_,MM g54,.inl rfl,?_⟩;refine⟨rfl,?_⟩;obtain⟨v55,g56,h⟩:=AB h;refine⟨rfl,Ab (f:=JAA.toD) (g:=JAA.toD) g56,_,Ag (f:=JAA.toD) g56,?_⟩;(conv=>whnf);refine cO ?_;exact AA wk h
  rintro⟨v49,v50⟩ h;refine⟨_,hwi39,?_⟩;exact hK45 _ _ wk h
 rintro⟨v36,v37⟩ h;(conv=>whnf);refine .inl ?_;refine⟨rfl,?_⟩;cases h;exact⟨rfl,rfl⟩
theorem NR {a0:JAI}{r:Addr×JAI}(h:FG a0=some r):yC wl 47 [.ref 0 0] [.box (JAI.av a0)] (.d (Addr.toD r.1)) [.box (JAI.av r.2)]:=by
 refine oK Tryz.f47 ⟨rfl,?_⟩;unfold FG at h;obtain⟨⟨v1,v2⟩,g3,h⟩:=AB h;refine⟨_,_,some [],AK g3,?_⟩;(conv=>whnf);refine .go ?_;(conv=>whnf);refine .go ?_;refine sJ h ?_ ?_<;>intro h
 ·obtain⟨⟨v4,v5⟩,g6,h⟩:=AB h;refine⟨_,_,some [],AK g6,?_⟩;refine⟨by decide,_,rfl,?_⟩;refine⟨_,rfl,?_⟩;obtain⟨⟨v7,v8⟩,g9,h⟩:=AB h;refine⟨_,_,some [],AK g9,?_⟩;refine⟨_,rfl,?_⟩;refine⟨_,Av _,?_⟩;cases h;exact⟨rfl,rfl⟩
 (conv=>whnf);refine .go ?_;refine sJ h ?_ ?_<;>intro h
 ·obtain⟨⟨v10,v11⟩,g12,h⟩:=AB h;refine⟨_,_,some [],AK g12,?_⟩;refine⟨_,Av _,?_⟩;refine⟨_,Av _,?_⟩;obtain⟨⟨v13,v14⟩,g15,h⟩:=AB h;refine⟨_,_,some [],AK g15,?_⟩;refine⟨_,Av _,?_⟩;cases h;exact⟨rfl,rfl⟩
 (conv=>whnf);refine .go ?_;refine sJ h ?_ ?_<;>intro h
 ·obtain⟨⟨v16,v17⟩,g18,h⟩:=AB h;refine⟨_,_,some [],AK g18,?_⟩;obtain⟨v19,g20,h⟩:=AB h;refine⟨rfl,Ah (f:=D.u64) g20,?_⟩;refine⟨rfl,D.u64 v19,(Aj (f:=D.u64) g20),?_⟩;cases h;exact⟨rfl,rfl⟩
 (conv=>whnf);refine .go ?_;refine sJ h ?_ ?_<;>intro h
 ·(conv=>whnf);refine .inl (dO ?_);obtain⟨⟨v21,v22⟩,g23,h⟩:=AB h;refine⟨_,_,AK g23,.inl rfl,?_⟩;obtain⟨v24,g25,h⟩:=AB h;refine⟨rfl,Ah (f:=D.u64) g25,?_⟩;refine⟨rfl,D.u64 v24,(Aj (f:=D.u64) g25),?_⟩;obtain⟨⟨v26,v27⟩,g28,h⟩:=AB h;refine⟨_,_,AK g28,.inl rfl,?_⟩;obtain⟨v29,g30,h⟩:=AB h;refine⟨rfl,Ah (f:=D.u64) g30,?_⟩;refine⟨rfl,D.u64 v29,(Aj (f:=D.u64) g30),?_⟩;(conv=>whnf);refine cO ?_;cases h;exact⟨rfl,rfl⟩
 (conv=>whnf);refine .go ?_;refine sJ h ?_ ?_<;>intro h
 ·obtain⟨⟨v31,v32⟩,g33,h⟩:=AB h;refine⟨_,_,some [],AK g33,?_⟩;refine⟨_,Av _,?_⟩;obtain⟨⟨v34,v35⟩,g36,h⟩:=AB h;refine⟨_,_,some [],AK g36,?_⟩;refine⟨_,rfl,?_⟩;refine⟨_,Av _,?_⟩;refine⟨Int.natCast_nonneg _,_,Av _,?_⟩;obtain⟨⟨v37,v38⟩,g39,h⟩:=AB h;refine⟨_,_,some [],AK g39,?_⟩;refine⟨_,Av _,?_⟩;obtain⟨⟨v40,v41⟩,g42,h⟩:=AB h;refine⟨_,_,some [],AK g42,?_⟩;refine⟨_,rfl,?_⟩;refine⟨_,Av _,?_⟩;refine⟨Int.natCast_nonneg _,_,Av _,?_⟩;cases h;exact⟨rfl,rfl⟩
 obtain⟨⟨v43,v44⟩,g45,h⟩:=AB h;refine⟨_,_,some [],AK g45,?_⟩;refine⟨_,Av _,?_⟩;cases h;exact⟨rfl,rfl⟩
theorem H5 {a0:Addr}{r:Bool}(h:Dx a0=some r):yC wl 76 [AV.d (Addr.toD a0)] [] (.d (D.b r)) []:=by
 refine oK Tryz.f76 ⟨rfl,?_⟩;unfold Dx at h;revert h;refine AG (fun v1=>⟨X::X::yb v1::dd 12 ([]),nn 15 ([])⟩) ?_ ?_
 ·intro k2 h;refine sJ h (fun h=>AA wk h) fun h=>?_;exact sJ h (fun h=>AA wk h) fun h=>AA wk h
 rintro v1 h;cases h;exact⟨rfl,rfl⟩
theorem Qj {a0:Addr}{r:Int}(h:Dv a0=some r):yC wl 91 [AV.d (Addr.toD a0)] [] (.d (D.i r)) []:=by
 refine oK Tryz.f91 ⟨rfl,?_⟩;unfold Dv at h;(conv=>whnf);refine .go ?_;refine sJ h ?_ ?_<;>intro h
 ·cases h;exact⟨rfl,rfl⟩
 cases h;exact⟨rfl,rfl⟩
theorem GZ {a0:Addr}{r:(List UInt8)}(h:Bg a0=some r):yC wl 92 [AV.d (Addr.toD a0)] [] (AV.own 0 (List.map D.u8 r).length) [.row 5 1 (List.map D.u8 r) .no]:=by
 refine oK Tryz.f92 ⟨rfl,?_⟩;unfold Bg at h;obtain⟨v1,g2,h⟩:=AB h;refine⟨_,_,some [],H5 g2,?_⟩;(conv=>whnf);refine .go ?_;refine sJ h ?_ ?_<;>intro h
 ·(conv=>whnf);refine .inr ⟨X29 rfl,5,?_⟩;cases h;exact⟨rfl,rfl⟩
 revert h;refine AG (fun v3=>⟨X::yr 1 0::X::yi v3::dd 31 ([]),N::yB (Addr.av a0)::nn 33 ([])⟩) ?_ ?_
 ·intro k4 h;exact sJ h (fun h=>AA wk h) fun h=>AA wk h
 rintro v3 h;refine⟨_,rfl,?_⟩;revert h;refine AG (fun v5=>⟨dd 4 (yO 4 D.u8 v5::dd 30 ([])),nn 4 (yR 5 1 D.u8 v5::nn 30 ([]))⟩) ?_ ?_
 ·intro k6 h;revert h;refine Aw (fun (v7,v8)=>⟨X::yr 1 0::X::X::yO 4 D.u8 v8::yi v7::dd 29 ([]),N::yB (Addr.av a0)::N::N::yR 5 1 D.u8 v8::nn 30 ([])⟩) ?_ ?_
  ·exact wk
  rintro next9 ⟨v7,v8⟩ K10 h hK11;(conv=>whnf);refine .go ?_;refine sJ h (fun h=>?_) fun h=>AA wk h;(conv=>whnf);refine .go ?_;revert h;refine AG (fun v12=>⟨X::yr 1 0::X::X::yO 4 D.u8 v8::yi v7::yu v12::dd 28 ([]),N::yB (Addr.av a0)::N::N::yR 5 1 D.u8 v8::nn 30 ([])⟩) ?_ ?_
  ·intro k13 h;exact sJ h (fun h=>AA wk h) fun h=>AA wk h
  rintro v12 h;refine⟨by decide,_,rfl,?_⟩;refine⟨_,Av _,?_⟩;refine⟨_,Av _,?_⟩;refine⟨Int.natCast_nonneg _,_,Np v12 _,?_⟩;refine⟨_,As _,?_⟩;refine⟨rfl,?_⟩;obtain⟨v14,g15,h⟩:=AB h;refine⟨rfl,Ab (f:=D.u8) (g:=D.u8) g15,_,Ag (f:=D.u8) g15,?_⟩;refine⟨_,rfl,?_⟩;exact hK11 _ _ wk h
 rintro v5 h;(conv=>whnf);refine .inl ?_;(conv=>whnf);refine .inr ?_;cases h;exact⟨rfl,rfl⟩
theorem MZ {a0:List UInt8}{r:Addr×Int}(h:CP a0=some r):yC wl 93 [AV.d (D.l 1 D.u8 a0)] [] (.tup [.d (Addr.toD r.1),.d (D.i r.2)]) []:=by
 refine oK Tryz.f93 ⟨rfl,?_⟩;unfold CP at h;revert h;refine AG (fun v1=>⟨y3 a0::X::yr 2 0::dd 11 (yb v1::dd 28 ([])),N::N::yB Addr.zv::nn 40 ([])⟩) ?_ ?_
 ·intro k2 h;refine⟨a0.length,X10 _,?_⟩;refine sJ h (fun h=>?_) fun h=>AA wk h;refine⟨a0.length,X10 _,?_⟩;exact AA wk h
 rintro v1 h;(conv=>whnf);refine .go ?_;refine sJ h ?_ ?_<;>intro h
 ·cases h;exact⟨rfl,rfl⟩
 refine⟨a0.length,X10 _,?_⟩;refine⟨a0.length,X10 _,?_⟩;revert h;refine AG (fun v3=>⟨X::X::yr 2 0::X::yr 4 0::dd 38 ([]),N::N::yB Addr.zv::N::yB (Addr.av v3)::nn 38 ([])⟩) ?_ ?_
 ·intro k4 h;revert h;refine Ac 20 1 D.u8 rfl (fun i5 v6=>⟨X::X::yr 2 0::X::yr 4 0::dd 15 (y3 a0::yi (a0.length:Int)::yi (i5:Int)::dd 20 ([])),N::N::yB Addr.zv::N::yB (Addr.av v6)::nn 38 ([])⟩) ?_ ?_ ?_
  ·exact wk
  ·rintro v6 K7 h;(conv=>whnf);refine .go ?_;(conv=>whnf);refine BI Cb ?_;exact AA wk h
  rintro next8 i5 x9 v6 K7 hii5 hxi5 hwi5 h hK10;(conv=>whnf);refine .go ?_;(conv=>whnf);refine BD (CQ hii5) ?_;(conv=>whnf);refine .go ?_;refine⟨BF (f:=D.u8) hii5,D.u8 x9,hxi5,rfl,?_⟩;refine⟨by decide,_,Av _,?_⟩;refine⟨by decide,_,Np v6.Lo _,?_⟩;refine⟨_,Av _,?_⟩;refine⟨by decide,_,Av _,?_⟩;refine⟨_,Av _,?_⟩;refine⟨_,Av _,?_⟩;refine⟨_,hwi5,?_⟩;exact hK10 _ _ wk h
 rintro v3 h;cases h;exact⟨rfl,rfl⟩
theorem Lu {a0:Addr}{a1:Int}{r:JAE×Int}(h:D8 a0 a1=some r):yC wl 48 [AV.d (Addr.toD a0),AV.d (D.i a1)] [] (.tup [.d (JAE.toD r.1),.d (D.i r.2)]) []:=by
 refine oK Tryz.f48 ⟨rfl,?_⟩;unfold D8 at h;(conv=>whnf);refine .go ?_;obtain⟨v1,g2,h⟩:=AB h;refine⟨_,_,some [],H5 g2,?_⟩;(conv=>whnf);refine .go ?_;refine sJ h ?_ ?_<;>intro h
 ·cases h;exact⟨rfl,rfl⟩
 revert h;refine AG (fun v3=>⟨X::yi a1::yr 2 0::X::yr 4 0::dd 10 (yb v3::dd 38 ([])),N::N::yB (Addr.av a0)::N::yB JAE.zv::nn 49 ([])⟩) ?_ ?_
 ·intro k4 h;refine sJ h (fun h=>AA wk h) fun h=>?_;obtain⟨v5,g6,h⟩:=AB h;refine⟨_,_,some [],Qj g6,?_⟩;exact AA wk h
 rintro v3 h;(conv=>whnf);refine .go ?_;refine sJ h ?_ ?_<;>intro h
 ·cases h;exact⟨rfl,rfl⟩
 obtain⟨v7,g8,h⟩:=AB h;refine⟨_,_,some [26],GZ g8,?_⟩;revert h;refine AG (fun v9=>⟨X::yi a1::X::X::yr 4 0::X::yO 26 D.u8 v9::dd 47 ([]),nn 4 (yB JAE.zv::nn 21 (yR 5 1 D.u8 v9::nn 27 ([])))⟩) ?_ ?_
 ·intro k10 h;revert h;refine Aw (fun (v11,v12)=>⟨X::yi a1::X::X::yr 4 0::X::yO 26 D.u8 v12::yi v11::dd 46 ([]),nn 4 (yB JAE.zv::nn 21 (yR 5 1 D.u8 v12::nn 27 ([])))⟩) ?_ ?_
  ·exact wk
  rintro next13 ⟨v11,v12⟩ K14 h hK15;refine⟨v12.length,by first | exact X10 _ | rfl | (simp only[X10];omega),?_⟩;refine⟨_,rfl,?_⟩;(conv=>whnf);refine .go ?_;refine sJ h (fun h=>?_) fun h=>AA wk h;(conv=>whnf);refine .go ?_;refine⟨by decide,_,rfl,?_⟩;obtain⟨v16,g17,h⟩:=AB h;refine⟨rfl,Ah (f:=D.u8) g17,?_⟩;refine⟨rfl,D.u8 v16,(Aj (f:=D.u8) g17),?_⟩;refine⟨by decide,_,rfl,?_⟩;refine⟨_,Av _,?_⟩;refine⟨Int.natCast_nonneg _,_,dX (128:UInt8) _,?_⟩;refine⟨_,As _,?_⟩;obtain⟨v18,g19,h⟩:=AB h;refine⟨rfl,Ah (f:=D.u8) g19,?_⟩;obtain⟨v20,g21,h⟩:=AB h;have g21l:=I6 g21;refine⟨rfl,rfl,D.u8 v18,(Aj (f:=D.u8) g19),?_⟩;refine⟨_,O2 (f:=D.u8) g21,?_⟩;refine⟨_,rfl,?_⟩;exact hK15 _ _ wk h
 rintro v9 h;refine⟨rfl,?_⟩;obtain⟨⟨v22,v23⟩,g24,h⟩:=AB h;refine⟨_,_,none,MZ g24,?_⟩;cases h;exact⟨rfl,rfl⟩
theorem Hh {a0:JAI}{r:JAE×JAI}(h:DZ a0=some r):yC wl 16 [.ref 0 0] [.box (JAI.av a0)] (.d (JAE.toD r.1)) [.box (JAI.av r.2)]:=by
 refine oK Tryz.f16 ⟨rfl,?_⟩;unfold DZ at h;obtain⟨⟨v1,v2⟩,g3,h⟩:=AB h;refine⟨_,_,some [],NR g3,?_⟩;revert h;refine AG (fun v4=>⟨yr 0 0::X::yr 3 0::yr 4 0::yi v4::dd 34 ([]),yB (JAI.av v2)::N::N::yB JAE.zv::yB (Addr.av v1)::nn 35 ([])⟩) ?_ ?_
 ·intro k5 h;exact sJ h (fun h=>AA wk h) fun h=>AA wk h
 rintro v4 h;obtain⟨⟨v6,v7⟩,g8,h⟩:=AB h;refine⟨_,_,some [],AK g8,?_⟩;(conv=>whnf);refine .go ?_;revert h;refine AG (fun (v9,v10)=>⟨X::X::yr 3 0::yr 4 0::yi v9::dd 34 ([]),yB (JAI.av v10)::N::N::yB JAE.zv::yB (Addr.av v1)::nn 35 ([])⟩) ?_ ?_
 ·intro k11 h;refine sJ h ?_ ?_<;>intro h
  ·refine⟨_,rfl,?_⟩;obtain⟨⟨v12,v13⟩,g14,h⟩:=AB h;refine⟨_,_,some [],AK g14,?_⟩;exact AA wk h
  revert h;refine AG (fun (v15,v16)=>⟨X::X::yr 3 0::yr 4 0::yi v15::dd 34 ([]),yB (JAI.av v16)::N::N::yB JAE.zv::yB (Addr.av v1)::nn 35 ([])⟩) ?_ ?_
  ·intro k17 h;refine sJ h ?_ ?_<;>intro h
   ·obtain⟨⟨v18,v19⟩,g20,h⟩:=AB h;refine⟨_,_,some [],AK g20,?_⟩;refine⟨_,rfl,?_⟩;exact AA wk h
   revert h;refine AG (fun (v21,v22)=>⟨X::X::yr 3 0::yr 4 0::yi v21::dd 34 ([]),yB (JAI.av v22)::N::N::yB JAE.zv::yB (Addr.av v1)::nn 35 ([])⟩) ?_ ?_
   ·intro k23 h;refine sJ h (fun h=>?_) fun h=>AA wk h;obtain⟨⟨v24,v25⟩,g26,h⟩:=AB h;refine⟨_,_,some [],AK g26,?_⟩;obtain⟨v27,g28,h⟩:=AB h;refine⟨rfl,Ah (f:=D.i) g28,?_⟩;refine⟨rfl,D.i v27,(Aj (f:=D.i) g28),?_⟩;exact AA wk h
   rintro⟨v21,v22⟩ h;exact AA wk h
  rintro⟨v15,v16⟩ h;exact AA wk h
 rintro⟨v9,v10⟩ h;obtain⟨⟨v29,v30⟩,g31,h⟩:=AB h;refine⟨_,_,some [],Lu g31,?_⟩;cases h;exact⟨rfl,rfl⟩
theorem QI {a0:JAE}{r:Bool}(h:Dz a0=some r):yC wl 34 [AV.d (JAE.toD a0)] [] (.d (D.b r)) []:=by
 refine oK Tryz.f34 ⟨rfl,?_⟩;unfold Dz at h;obtain⟨⟨v1,v2⟩,g3,h⟩:=AB h;refine⟨_,_,some [],Lu g3,?_⟩;revert h;refine AG (fun v4=>⟨X::X::yb v4::dd 17 ([]),nn 20 ([])⟩) ?_ ?_
 ·intro k5 h;exact sJ h (fun h=>AA wk h) fun h=>AA wk h
 rintro v4 h;cases h;exact⟨rfl,rfl⟩
theorem LH {a0:Int}{r:Int}(h:Bc a0=some r):yC wl 107 [AV.d (D.i a0)] [] (.d (D.i r)) []:=by
 refine oK Tryz.f107 ⟨rfl,?_⟩;unfold Bc at h;(conv=>whnf);refine .go ?_;revert h;refine AG (fun v1=>⟨X::X::X::yi a0::yb v1::dd 10 ([]),nn 15 ([])⟩) ?_ ?_
 ·intro k2 h;refine sJ h (fun h=>AA wk h) fun h=>?_;revert h;refine AG (fun v3=>⟨X::X::X::yi a0::yb v3::dd 10 ([]),nn 15 ([])⟩) ?_ ?_
  ·intro k4 h;refine sJ h (fun h=>AA wk h) fun h=>?_;revert h;refine AG (fun v5=>⟨X::X::X::yi a0::yb v5::dd 10 ([]),nn 15 ([])⟩) ?_ ?_
   ·intro k6 h;exact sJ h (fun h=>AA wk h) fun h=>AA wk h
   rintro v5 h;exact AA wk h
  rintro v3 h;exact AA wk h
 rintro v1 h;(conv=>whnf);refine .go ?_;refine sJ h ?_ ?_<;>intro h
 ·cases h;exact⟨rfl,rfl⟩
 (conv=>whnf);refine .go ?_;refine sJ h ?_ ?_<;>intro h
 ·cases h;exact⟨rfl,rfl⟩
 revert h;refine AG (fun v7=>⟨dd 11 (yb v7::X::X::X::[]),nn 15 ([])⟩) ?_ ?_
 ·intro k8 h;refine sJ h (fun h=>AA wk h) fun h=>?_;revert h;refine AG (fun v9=>⟨dd 11 (yb v9::X::X::X::[]),nn 15 ([])⟩) ?_ ?_
  ·intro k10 h;exact sJ h (fun h=>AA wk h) fun h=>AA wk h
  rintro v9 h;exact AA wk h
 rintro v7 h;(conv=>whnf);refine .go ?_;refine sJ h ?_ ?_<;>intro h
 ·cases h;exact⟨rfl,rfl⟩
 cases h;exact⟨rfl,rfl⟩
theorem N9 {a0:Int}{r:Bool}(h:DT a0=some r):yC wl 74 [AV.d (D.i a0)] [] (.d (D.b r)) []:=by
 refine oK Tryz.f74 ⟨rfl,?_⟩;unfold DT at h;revert h;refine AG (fun v1=>⟨X::X::yb v1::dd 11 ([]),nn 14 ([])⟩) ?_ ?_
 ·intro k2 h;obtain⟨v3,g4,h⟩:=AB h;refine⟨_,_,some [],LH g4,?_⟩;refine sJ h (fun h=>?_) fun h=>AA wk h;exact sJ h (fun h=>AA wk h) fun h=>AA wk h
 rintro v1 h;cases h;exact⟨rfl,rfl⟩
theorem KR {a0:JAC}{r:Bool}(h:GP a0=some r):yC wl 35 [AV.d (JAC.toD a0)] [] (.d (D.b r)) []:=by
 refine oK Tryz.f35 ⟨rfl,?_⟩;unfold GP at h;refine⟨a0.Other.length,X10 _,?_⟩;revert h;refine AG (fun _=>⟨X::yr 1 0::dd 122 ([]),N::yB (JAC.av a0)::nn 122 ([])⟩) ?_ ?_
 ·intro k1 h;revert h;refine Ac 6 3 JAA.toD rfl (fun i2 _=>⟨X::yr 1 0::dd 4 (AV.d (D.l 3 JAA.toD a0.Other)::yi (a0.Other.length:Int)::yi (i2:Int)::dd 115 ([])),N::yB (JAC.av a0)::nn 122 ([])⟩) ?_ ?_ ?_
  ·exact wk
  ·rintro _ K3 h;(conv=>whnf);refine .go ?_;(conv=>whnf);refine BI Cb ?_;exact AA wk h
  rintro next4 i2 x5 _ K3 hii2 hxi2 hwi2 h hK6;(conv=>whnf);refine .go ?_;(conv=>whnf);refine BD (CQ hii2) ?_;(conv=>whnf);refine .go ?_;refine⟨BF (f:=JAA.toD) hii2,JAA.toD x5,hxi2,rfl,?_⟩;revert h;refine AG (fun v7=>⟨X::yr 1 0::dd 4 (AV.d (D.l 3 JAA.toD a0.Other)::yi (a0.Other.length:Int)::yi (i2:Int)::dd 44 (yb v7::dd 70 ([]))),N::yB (JAC.av a0)::nn 122 ([])⟩) ?_ ?_
  ·intro k8 h;(conv=>whnf);refine .inl (dO ?_);refine sJ h ?_ ?_<;>intro h
   ·(conv=>whnf);refine cO ?_;exact AA wk h
   refine sJ h ?_ ?_<;>intro h
   ·(conv=>whnf);refine cO ?_;exact AA wk h
   obtain⟨v9,g10,h⟩:=AB h;refine⟨_,_,N9 g10,.inl rfl,?_⟩;refine sJ h ?_ ?_<;>intro h
   ·(conv=>whnf);refine cO ?_;exact AA wk h
   refine sJ h ?_ ?_<;>intro h
   ·(conv=>whnf);refine cO ?_;exact AA wk h
   refine⟨x5.Data.length,X10 _,?_⟩;refine sJ h ?_ ?_<;>intro h
   ·(conv=>whnf);refine cO ?_;exact AA wk h
   refine sJ h ?_ ?_<;>intro h
   ·refine⟨_,rfl,?_⟩;obtain⟨v11,g12,h⟩:=AB h;refine⟨Ah (f:=JAA.toD) g12,JAA.toD v11,Aj (f:=JAA.toD) g12,rfl,?_⟩;(conv=>whnf);refine cO ?_;exact AA wk h
   (conv=>whnf);refine cO ?_;exact AA wk h
  rintro v7 h;(conv=>whnf);refine .go ?_;refine sJ h ?_ ?_<;>intro h
  ·cases h;exact⟨rfl,rfl⟩
  refine⟨_,hwi2,?_⟩;exact hK6 _ _ wk h
 rintro _ h;revert h;refine AG (fun v13=>⟨X::X::yb v13::dd 121 ([]),nn 124 ([])⟩) ?_ ?_
 ·intro k14 h;refine sJ h (fun h=>?_) fun h=>AA wk h;refine sJ h (fun h=>?_) fun h=>AA wk h;obtain⟨v15,g16,h⟩:=AB h;refine⟨_,_,some [],J6 g16,?_⟩;refine sJ h (fun h=>?_) fun h=>AA wk h;obtain⟨v17,g18,h⟩:=AB h;refine⟨_,_,some [],H5 g18,?_⟩;refine sJ h (fun h=>?_) fun h=>AA wk h;refine sJ h (fun h=>?_) fun h=>AA wk h;refine sJ h (fun h=>?_) fun h=>AA wk h;refine sJ h (fun h=>?_) fun h=>AA wk h;refine sJ h (fun h=>?_) fun h=>AA wk h;refine sJ h ?_ ?_<;>intro h
  ·obtain⟨v19,g20,h⟩:=AB h;refine⟨_,_,some [],H7 g20,?_⟩;refine sJ h (fun h=>?_) fun h=>AA wk h;obtain⟨v21,g22,h⟩:=AB h;refine⟨_,_,some [],Fa g22,?_⟩;refine sJ h (fun h=>?_) fun h=>AA wk h;refine⟨a0.Other.length,X10 _,?_⟩;exact AA wk h
  refine sJ h (fun h=>?_) fun h=>AA wk h;refine sJ h (fun h=>?_) fun h=>AA wk h;obtain⟨v23,g24,h⟩:=AB h;refine⟨_,_,some [],H7 g24,?_⟩;refine sJ h (fun h=>?_) fun h=>AA wk h;obtain⟨v25,g26,h⟩:=AB h;refine⟨_,_,some [],Fa g26,?_⟩;refine sJ h (fun h=>?_) fun h=>AA wk h;refine⟨a0.Other.length,X10 _,?_⟩;exact AA wk h
 rintro v13 h;cases h;exact⟨rfl,rfl⟩
theorem SL {a0:List JAD}{a1:List JAD}{r:Bool}(h:EW a0 a1=some r):yC wl 79 [AV.d (D.l 2 JAD.toD a0),AV.d (D.l 2 JAD.toD a1)] [] (.d (D.b r)) []:=by
 refine oK Tryz.f79 ⟨rfl,?_⟩;unfold EW at h;refine⟨a0.length,X10 _,?_⟩;refine⟨a1.length,X10 _,?_⟩;(conv=>whnf);refine .go ?_;refine sJ h ?_ ?_<;>intro h
 ·cases h;exact⟨rfl,rfl⟩
 refine⟨a0.length,X10 _,?_⟩;revert h;refine AG (fun _=>⟨dd 61 ([]),nn 61 ([])⟩) ?_ ?_
 ·intro k1 h;revert h;refine Ac 14 2 JAD.toD rfl (fun i2 _=>⟨X::y0 a1::dd 12 (y0 a0::yi (a0.length:Int)::yi (i2:Int)::dd 44 ([])),nn 61 ([])⟩) ?_ ?_ ?_
  ·exact wk
  ·rintro _ K3 h;(conv=>whnf);refine .go ?_;(conv=>whnf);refine BI Cb ?_;exact AA wk h
  rintro next4 i2 x5 _ K3 hii2 hxi2 hwi2 h hK6;(conv=>whnf);refine .go ?_;(conv=>whnf);refine BD (CQ hii2) ?_;revert h;refine AG (fun _=>⟨X::y0 a1::dd 12 (y0 a0::yi (a0.length:Int)::yi (i2:Int)::dd 44 ([])),nn 61 ([])⟩) ?_ ?_
  ·intro k7 h;refine⟨BF (f:=JAD.toD) hii2,JAD.toD x5,hxi2,rfl,?_⟩;revert h;refine AG (fun v8=>⟨X::y0 a1::X::X::X::yi (i2:Int)::yr 6 0::dd 7 (y0 a0::yi (a0.length:Int)::yi (i2:Int)::dd 23 (yb v8::dd 20 ([]))),nn 6 (yB (JAD.av x5)::nn 54 ([]))⟩) ?_ ?_
   ·intro k9 h;(conv=>whnf);refine .inl (dO ?_);obtain⟨v10,g11,h⟩:=AB h;refine⟨Ah (f:=JAD.toD) g11,JAD.toD v10,Aj (f:=JAD.toD) g11,rfl,?_⟩;refine sJ h ?_ ?_<;>intro h
    ·(conv=>whnf);refine cO ?_;exact AA wk h
    refine⟨x5.ASNs.length,X10 _,?_⟩;obtain⟨v12,g13,h⟩:=AB h;refine⟨Ah (f:=JAD.toD) g13,JAD.toD v12,Aj (f:=JAD.toD) g13,rfl,?_⟩;refine⟨v12.ASNs.length,X10 _,?_⟩;(conv=>whnf);refine cO ?_;exact AA wk h
   rintro v8 h;(conv=>whnf);refine .go ?_;refine sJ h ?_ ?_<;>intro h
   ·cases h;exact⟨rfl,rfl⟩
   refine⟨x5.ASNs.length,X10 _,?_⟩;revert h;refine AG (fun _=>⟨X::y0 a1::dd 12 (y0 a0::yi (a0.length:Int)::yi (i2:Int)::dd 44 ([])),nn 61 ([])⟩) ?_ ?_
   ·intro k14 h;revert h;refine Ac 42 1 D.i rfl (fun i15 _=>⟨X::y0 a1::X::X::X::yi (i2:Int)::dd 8 (y0 a0::yi (a0.length:Int)::yi (i2:Int)::dd 25 (AV.d (D.l 1 D.i x5.ASNs)::yi (x5.ASNs.length:Int)::yi (i15:Int)::dd 16 ([]))),nn 61 ([])⟩) ?_ ?_ ?_
    ·exact wk
    ·rintro _ K16 h;(conv=>whnf);refine .go ?_;(conv=>whnf);refine BI Cb ?_;exact AA wk h
    rintro next17 i15 x18 _ K16 hii15 hxi15 hwi15 h hK19;(conv=>whnf);refine .go ?_;(conv=>whnf);refine BD (CQ hii15) ?_;(conv=>whnf);refine .go ?_;refine⟨BF (f:=D.i) hii15,D.i x18,hxi15,rfl,?_⟩;obtain⟨v20,g21,h⟩:=AB h;refine⟨Ah (f:=JAD.toD) g21,JAD.toD v20,Aj (f:=JAD.toD) g21,rfl,?_⟩;obtain⟨v22,g23,h⟩:=AB h;refine⟨Ah (f:=D.i) g23,D.i v22,Aj (f:=D.i) g23,rfl,?_⟩;(conv=>whnf);refine .go ?_;refine sJ h ?_ ?_<;>intro h
    ·cases h;exact⟨rfl,rfl⟩
    refine⟨_,hwi15,?_⟩;exact hK19 _ _ wk h
   rintro _ h;exact AA wk h
  rintro _ h;refine⟨_,hwi2,?_⟩;exact hK6 _ _ wk h
 rintro _ h;cases h;exact⟨rfl,rfl⟩
theorem SV {a0:List JAB}{a1:List JAB}{r:Bool}(h:EU a0 a1=some r):yC wl 80 [AV.d (D.l 2 JAB.toD a0),AV.d (D.l 2 JAB.toD a1)] [] (.d (D.b r)) []:=by
 refine oK Tryz.f80 ⟨rfl,?_⟩;unfold EU at h;refine⟨a0.length,X10 _,?_⟩;refine⟨a1.length,X10 _,?_⟩;(conv=>whnf);refine .go ?_;refine sJ h ?_ ?_<;>intro h
 ·cases h;exact⟨rfl,rfl⟩
 refine⟨a0.length,X10 _,?_⟩;revert h;refine AG (fun _=>⟨dd 26 ([]),nn 26 ([])⟩) ?_ ?_
 ·intro k1 h;revert h;refine Ac 12 2 JAB.toD rfl (fun i2 _=>⟨X::y1 a1::dd 10 (y1 a0::yi (a0.length:Int)::yi (i2:Int)::dd 11 ([])),nn 26 ([])⟩) ?_ ?_ ?_
  ·exact wk
  ·rintro _ K3 h;(conv=>whnf);refine .go ?_;(conv=>whnf);refine BI Cb ?_;exact AA wk h
  rintro next4 i2 x5 _ K3 hii2 hxi2 hwi2 h hK6;(conv=>whnf);refine .go ?_;(conv=>whnf);refine BD (CQ hii2) ?_;(conv=>whnf);refine .go ?_;refine⟨BF (f:=JAB.toD) hii2,JAB.toD x5,hxi2,rfl,?_⟩;(conv=>whnf);refine .inl (dO ?_);obtain⟨v7,g8,h⟩:=AB h;refine⟨Ah (f:=JAB.toD) g8,JAB.toD v7,Aj (f:=JAB.toD) g8,rfl,?_⟩;(conv=>whnf);refine cO ?_;(conv=>whnf);refine .go ?_;refine sJ h ?_ ?_<;>intro h
  ·cases h;exact⟨rfl,rfl⟩
  refine⟨_,hwi2,?_⟩;exact hK6 _ _ wk h
 rintro _ h;cases h;exact⟨rfl,rfl⟩
theorem MQ {a0:List JAF}{a1:List JAF}{r:Bool}(h:B5 a0 a1=some r):yC wl 81 [AV.d (D.l 3 JAF.toD a0),AV.d (D.l 3 JAF.toD a1)] [] (.d (D.b r)) []:=by
 refine oK Tryz.f81 ⟨rfl,?_⟩;unfold B5 at h;refine⟨a0.length,X10 _,?_⟩;refine⟨a1.length,X10 _,?_⟩;(conv=>whnf);refine .go ?_;refine sJ h ?_ ?_<;>intro h
 ·cases h;exact⟨rfl,rfl⟩
 refine⟨a0.length,X10 _,?_⟩;revert h;refine AG (fun _=>⟨dd 26 ([]),nn 26 ([])⟩) ?_ ?_
 ·intro k1 h;revert h;refine Ac 12 3 JAF.toD rfl (fun i2 _=>⟨X::y2 a1::dd 10 (y2 a0::yi (a0.length:Int)::yi (i2:Int)::dd 11 ([])),nn 26 ([])⟩) ?_ ?_ ?_
  ·exact wk
  ·rintro _ K3 h;(conv=>whnf);refine .go ?_;(conv=>whnf);refine BI Cb ?_;exact AA wk h
  rintro next4 i2 x5 _ K3 hii2 hxi2 hwi2 h hK6;(conv=>whnf);refine .go ?_;(conv=>whnf);refine BD (CQ hii2) ?_;(conv=>whnf);refine .go ?_;refine⟨BF (f:=JAF.toD) hii2,JAF.toD x5,hxi2,rfl,?_⟩;(conv=>whnf);refine .inl (dO ?_);obtain⟨v7,g8,h⟩:=AB h;refine⟨Ah (f:=JAF.toD) g8,JAF.toD v7,Aj (f:=JAF.toD) g8,rfl,?_⟩;(conv=>whnf);refine cO ?_;(conv=>whnf);refine .go ?_;refine sJ h ?_ ?_<;>intro h
  ·cases h;exact⟨rfl,rfl⟩
  refine⟨_,hwi2,?_⟩;exact hK6 _ _ wk h
 rintro _ h;cases h;exact⟨rfl,rfl⟩
theorem NF {a0:List JAA}{a1:List JAA}{r:Bool}(h:CL a0 a1=some r):yC wl 82 [AV.d (D.l 3 JAA.toD a0),AV.d (D.l 3 JAA.toD a1)] [] (.d (D.b r)) []:=by
 refine oK Tryz.f82 ⟨rfl,?_⟩;unfold CL at h;refine⟨a0.length,X10 _,?_⟩;refine⟨a1.length,X10 _,?_⟩;(conv=>whnf);refine .go ?_;refine sJ h ?_ ?_<;>intro h
 ·cases h;exact⟨rfl,rfl⟩
 refine⟨a0.length,X10 _,?_⟩;revert h;refine AG (fun _=>⟨dd 50 ([]),nn 50 ([])⟩) ?_ ?_
 ·intro k1 h;revert h;refine Ac 12 3 JAA.toD rfl (fun i2 _=>⟨X::y4 a1::dd 10 (y4 a0::yi (a0.length:Int)::yi (i2:Int)::dd 35 ([])),nn 50 ([])⟩) ?_ ?_ ?_
  ·exact wk
  ·rintro _ K3 h;(conv=>whnf);refine .go ?_;(conv=>whnf);refine BI Cb ?_;exact AA wk h
  rintro next4 i2 x5 _ K3 hii2 hxi2 hwi2 h hK6;(conv=>whnf);refine .go ?_;(conv=>whnf);refine BD (CQ hii2) ?_;(conv=>whnf);refine .go ?_;refine⟨BF (f:=JAA.toD) hii2,JAA.toD x5,hxi2,rfl,?_⟩;revert h;refine AG (fun v7=>⟨X::y4 a1::dd 10 (y4 a0::yi (a0.length:Int)::yi (i2:Int)::dd 33 (yb v7::X::[])),nn 50 ([])⟩) ?_ ?_
  ·intro k8 h;(conv=>whnf);refine .inl (dO ?_);obtain⟨v9,g10,h⟩:=AB h;refine⟨Ah (f:=JAA.toD) g10,JAA.toD v9,Aj (f:=JAA.toD) g10,rfl,?_⟩;refine sJ h ?_ ?_<;>intro h
   ·(conv=>whnf);refine cO ?_;exact AA wk h
   obtain⟨v11,g12,h⟩:=AB h;refine⟨Ah (f:=JAA.toD) g12,JAA.toD v11,Aj (f:=JAA.toD) g12,rfl,?_⟩;refine sJ h ?_ ?_<;>intro h
   ·(conv=>whnf);refine cO ?_;exact AA wk h
   refine⟨x5.Data,rfl,?_⟩;obtain⟨v13,g14,h⟩:=AB h;refine⟨Ah (f:=JAA.toD) g14,JAA.toD v13,Aj (f:=JAA.toD) g14,rfl,?_⟩;refine⟨v13.Data,rfl,?_⟩;(conv=>whnf);refine cO ?_;exact AA wk h
  rintro v7 h;(conv=>whnf);refine .go ?_;refine sJ h ?_ ?_<;>intro h
  ·cases h;exact⟨rfl,rfl⟩
  refine⟨_,hwi2,?_⟩;exact hK6 _ _ wk h
 rintro _ h;cases h;exact⟨rfl,rfl⟩
theorem L1 {a0:JAC}{a1:JAC}{r:Bool}(h:DJ a0 a1=some r):yC wl 36 [AV.d (JAC.toD a0),AV.d (JAC.toD a1)] [] (.d (D.b r)) []:=by
 refine oK Tryz.f36 ⟨rfl,?_⟩;unfold DJ at h;revert h;refine AG (fun v1=>⟨dd 4 (yb v1::dd 61 ([])),nn 66 ([])⟩) ?_ ?_
 ·intro k2 h;refine sJ h (fun h=>?_) fun h=>AA wk h;obtain⟨v3,g4,h⟩:=AB h;refine⟨_,_,some [],SL g4,?_⟩;refine sJ h (fun h=>?_) fun h=>AA wk h;refine sJ h (fun h=>?_) fun h=>AA wk h;refine sJ h (fun h=>?_) fun h=>AA wk h;refine sJ h (fun h=>?_) fun h=>AA wk h;refine sJ h (fun h=>?_) fun h=>AA wk h;obtain⟨v5,g6,h⟩:=AB h;refine⟨_,_,some [],SV g6,?_⟩;refine sJ h (fun h=>?_) fun h=>AA wk h;obtain⟨v7,g8,h⟩:=AB h;refine⟨_,_,some [],MQ g8,?_⟩;refine sJ h (fun h=>?_) fun h=>AA wk h;obtain⟨v9,g10,h⟩:=AB h;refine⟨_,_,some [],NF g10,?_⟩;exact AA wk h
 rintro v1 h;cases h;exact⟨rfl,rfl⟩
theorem Cm {a0:Int}{a1:Int}{r:(List UInt8)}(h:AS a0 a1=some r):yC wl 106 [AV.d (D.i a0),AV.d (D.i a1)] [] (.d (D.l 1 D.u8 r)) []:=by
 refine oK Tryz.f106 ⟨rfl,?_⟩;unfold AS at h;refine⟨_,rfl,?_⟩;revert h;refine AG (fun v1=>⟨dd 5 (yO 5 D.u8 v1::dd 17 ([])),nn 5 (yR 5 1 D.u8 v1::nn 17 ([]))⟩) ?_ ?_
 ·intro k2 h;revert h;refine Aw (fun (v3,v4)=>⟨yi a0::dd 4 (yO 5 D.u8 v4::yi v3::dd 16 ([])),nn 5 (yR 5 1 D.u8 v4::nn 17 ([]))⟩) ?_ ?_
  ·exact wk
  rintro next5 ⟨v3,v4⟩ K6 h hK7;(conv=>whnf);refine .go ?_;refine sJ h (fun h=>?_) fun h=>AA wk h;(conv=>whnf);refine .go ?_;refine⟨_,Av _,?_⟩;refine⟨_,Av _,?_⟩;refine⟨Int.natCast_nonneg _,_,rfl,?_⟩;refine⟨_,As _,?_⟩;refine⟨rfl,?_⟩;obtain⟨v8,g9,h⟩:=AB h;refine⟨rfl,Ab (f:=D.u8) (g:=D.u8) g9,_,Ag (f:=D.u8) g9,?_⟩;refine⟨_,rfl,?_⟩;exact hK7 _ _ wk h
 rintro v1 h;(conv=>whnf);refine .inl ?_;(conv=>whnf);refine .inl ?_;refine⟨rfl,?_⟩;cases h;exact⟨rfl,rfl⟩
theorem Qb {a0:JAC}{r:(List JAA)×Int}(h:GG a0=some r):yC wl 55 [AV.d (JAC.toD a0)] [] (.tup [.d (D.l 3 JAA.toD r.1),.d (D.i r.2)]) []:=by
 refine oK Tryz.f55 ⟨rfl,?_⟩;unfold GG at h;obtain⟨v1,g2,h⟩:=AB h;refine⟨_,_,some [],KR g2,?_⟩;(conv=>whnf);refine .go ?_;refine sJ h ?_ ?_<;>intro h
 ·cases h;exact⟨rfl,rfl⟩
 revert h;refine AG (fun v3=>⟨X::yr 1 0::X::X::AV.own 4 (List.map JAA.toD []).length::AV.mp 24::dd 189 ([]),N::yB (JAC.av a0)::N::N::some (OB.row 88 3 (List.map JAA.toD []) .no)::nn 19 (some (OB.map 3 44 (Bn D.i (D.l 1 D.u8) v3))::nn 170 ([]))⟩) ?_ ?_
 ·intro k4 h;refine sJ h (fun h=>?_) fun h=>AA wk h;refine⟨_,As _,?_⟩;(conv=>whnf);refine .inl ?_;refine⟨rfl,?_⟩;refine⟨_,Ej (ek:=D.i) (ev:=(D.l 1 D.u8)) (l:=[]) (k:=1) (v:=([(Aa a0.Origin)]:List UInt8)) BL,?_⟩;exact AA wk h
 rintro v3 h;revert h;refine AG (fun v5=>⟨X::yr 1 0::X::X::AV.own 4 (List.map JAA.toD []).length::AV.mp 24::dd 35 (yb v5::dd 153 ([])),N::yB (JAC.av a0)::N::N::some (OB.row 88 3 (List.map JAA.toD []) .no)::nn 19 (some (OB.map 3 44 (Bn D.i (D.l 1 D.u8) v3))::nn 170 ([]))⟩) ?_ ?_
 ·intro k6 h;refine sJ h (fun h=>AA wk h) fun h=>?_;refine⟨a0.Path.length,X10 _,?_⟩;exact AA wk h
 rintro v5 h;revert h;refine AG (fun v7=>⟨X::yr 1 0::X::X::AV.own 4 (List.map JAA.toD []).length::AV.mp 24::dd 189 ([]),N::yB (JAC.av a0)::N::N::some (OB.row 88 3 (List.map JAA.toD []) .no)::nn 19 (some (OB.map 3 44 (Bn D.i (D.l 1 D.u8) v7))::nn 170 ([]))⟩) ?_ ?_
 ·intro k8 h;refine sJ h (fun h=>?_) fun h=>AA wk h;refine⟨a0.Path.length,X10 _,?_⟩;revert h;refine AG (fun v9=>⟨X::yr 1 0::X::X::AV.own 4 (List.map JAA.toD []).length::AV.mp 24::yO 42 D.u8 v9::dd 188 ([]),N::yB (JAC.av a0)::N::N::some (OB.row 88 3 (List.map JAA.toD []) .no)::nn 19 (some (OB.map 3 44 (Bn D.i (D.l 1 D.u8) v3))::nn 17 (yR 5 1 D.u8 v9::nn 152 ([])))⟩) ?_ ?_
  ·intro k10 h;revert h;refine Ac 44 2 JAD.toD rfl (fun i11 v12=>⟨X::yr 1 0::X::X::AV.own 4 (List.map JAA.toD []).length::AV.mp 24::yO 42 D.u8 v12::dd 37 (AV.d (D.l 2 JAD.toD a0.Path)::yi (a0.Path.length:Int)::yi (i11:Int)::dd 148 ([])),N::yB (JAC.av a0)::N::N::some (OB.row 88 3 (List.map JAA.toD []) .no)::nn 19 (some (OB.map 3 44 (Bn D.i (D.l 1 D.u8) v3))::nn 17 (yR 5 1 D.u8 v12::nn 152 ([])))⟩) ?_ ?_ ?_
   ·exact wk
   ·rintro v12 K13 h;(conv=>whnf);refine .go ?_;(conv=>whnf);refine BI Cb ?_;exact AA wk h
   rintro next14 i11 x15 v12 K13 hii11 hxi11 hwi11 h hK16;(conv=>whnf);refine .go ?_;(conv=>whnf);refine BD (CQ hii11) ?_;revert h;refine AG (fun v17=>⟨X::yr 1 0::X::X::AV.own 4 (List.map JAA.toD []).length::AV.mp 24::yO 42 D.u8 v17::dd 37 (AV.d (D.l 2 JAD.toD a0.Path)::yi (a0.Path.length:Int)::yi (i11:Int)::dd 148 ([])),N::yB (JAC.av a0)::N::N::some (OB.row 88 3 (List.map JAA.toD []) .no)::nn 19 (some (OB.map 3 44 (Bn D.i (D.l 1 D.u8) v3))::nn 17 (yR 5 1 D.u8 v17::nn 152 ([])))⟩) ?_ ?_
   ·intro k18 h;refine⟨BF (f:=JAD.toD) hii11,JAD.toD x15,hxi11,rfl,?_⟩;revert h;refine AG (fun v19=>⟨X::yr 1 0::X::X::AV.own 4 (List.map JAA.toD []).length::AV.mp 24::yO 42 D.u8 v12::X::yr 8 0::yv v19::dd 34 (AV.d (D.l 2 JAD.toD a0.Path)::yi (a0.Path.length:Int)::yi (i11:Int)::dd 148 ([])),N::yB (JAC.av a0)::N::N::some (OB.row 88 3 (List.map JAA.toD []) .no)::N::N::N::yB (JAD.av x15)::nn 15 (some (OB.map 3 44 (Bn D.i (D.l 1 D.u8) v3))::nn 17 (yR 5 1 D.u8 v12::nn 152 ([])))⟩) ?_ ?_
    ·intro k20 h;exact sJ h (fun h=>AA wk h) fun h=>AA wk h
    rintro v19 h;refine⟨x15.ASNs.length,X10 _,?_⟩;refine⟨_,As _,?_⟩;refine⟨rfl,?_⟩;obtain⟨v21,g22,h⟩:=AB h;refine⟨rfl,Ab (f:=D.u8) (g:=D.u8) g22,_,Ag (f:=D.u8) g22,?_⟩;refine⟨x15.ASNs.length,X10 _,?_⟩;revert h;refine AG (fun v23=>⟨X::yr 1 0::X::X::AV.own 4 (List.map JAA.toD []).length::AV.mp 24::yO 42 D.u8 v23::dd 37 (AV.d (D.l 2 JAD.toD a0.Path)::yi (a0.Path.length:Int)::yi (i11:Int)::dd 148 ([])),N::yB (JAC.av a0)::N::N::some (OB.row 88 3 (List.map JAA.toD []) .no)::nn 19 (some (OB.map 3 44 (Bn D.i (D.l 1 D.u8) v3))::nn 17 (yR 5 1 D.u8 v23::nn 152 ([])))⟩) ?_ ?_
    ·intro k24 h;revert h;refine Ac 61 1 D.i rfl (fun i25 v26=>⟨X::yr 1 0::X::X::AV.own 4 (List.map JAA.toD []).length::AV.mp 24::yO 42 D.u8 v26::dd 37 (AV.d (D.l 2 JAD.toD a0.Path)::yi (a0.Path.length:Int)::yi (i11:Int)::dd 14 (AV.d (D.l 1 D.i x15.ASNs)::yi (x15.ASNs.length:Int)::yi (i25:Int)::dd 131 ([]))),N::yB (JAC.av a0)::N::N::some (OB.row 88 3 (List.map JAA.toD []) .no)::nn 19 (some (OB.map 3 44 (Bn D.i (D.l 1 D.u8) v3))::nn 17 (yR 5 1 D.u8 v26::nn 152 ([])))⟩) ?_ ?_ ?_
     ·exact wk
     ·rintro v26 K27 h;(conv=>whnf);refine .go ?_;(conv=>whnf);refine BI Cb ?_;exact AA wk h
     rintro next28 i25 x29 v26 K27 hii25 hxi25 hwi25 h hK30;(conv=>whnf);refine .go ?_;(conv=>whnf);refine BD (CQ hii25) ?_;(conv=>whnf);refine .go ?_;refine⟨BF (f:=D.i) hii25,D.i x29,hxi25,rfl,?_⟩;obtain⟨v31,g32,h⟩:=AB h;refine⟨_,_,some [],Cm g32,?_⟩;obtain⟨v33,g34,h⟩:=AB h;refine⟨rfl,Ab (f:=D.u8) (g:=D.u8) g34,_,Ag (f:=D.u8) g34,?_⟩;refine⟨_,hwi25,?_⟩;exact hK30 _ _ wk h
    rintro v23 h;exact AA wk h
   rintro v17 h;refine⟨_,hwi11,?_⟩;exact hK16 _ _ wk h
  rintro v9 h;(conv=>whnf);refine .inl ?_;refine⟨rfl,?_⟩;refine⟨_,Ej (ek:=D.i) (ev:=(D.l 1 D.u8)) (l:=v3) (k:=2) (v:=v9) BL,?_⟩;exact AA wk h
 rintro v7 h;revert h;refine AG (fun v35=>⟨X::yr 1 0::X::X::AV.own 4 (List.map JAA.toD []).length::AV.mp 24::dd 78 (yb v35::dd 110 ([])),N::yB (JAC.av a0)::N::N::some (OB.row 88 3 (List.map JAA.toD []) .no)::nn 19 (some (OB.map 3 44 (Bn D.i (D.l 1 D.u8) v7))::nn 170 ([]))⟩) ?_ ?_
 ·intro k36 h;exact sJ h (fun h=>AA wk h) fun h=>AA wk h
 rintro v35 h;revert h;refine AG (fun v37=>⟨X::yr 1 0::X::X::AV.own 4 (List.map JAA.toD []).length::AV.mp 24::dd 189 ([]),N::yB (JAC.av a0)::N::N::some (OB.row 88 3 (List.map JAA.toD []) .no)::nn 19 (some (OB.map 3 44 (Bn D.i (D.l 1 D.u8) v37))::nn 170 ([]))⟩) ?_ ?_
 ·intro k38 h;refine sJ h (fun h=>?_) fun h=>AA wk h;obtain⟨v39,g40,h⟩:=AB h;refine⟨_,_,some [88],GZ g40,?_⟩;(conv=>whnf);refine .inl ?_;refine⟨rfl,?_⟩;refine⟨_,Ej (ek:=D.i) (ev:=(D.l 1 D.u8)) (l:=v7) (k:=3) (v:=v39) BL,?_⟩;exact AA wk h
 rintro v37 h;revert h;refine AG (fun v41=>⟨X::yr 1 0::X::X::AV.own 4 (List.map JAA.toD []).length::AV.mp 24::dd 189 ([]),N::yB (JAC.av a0)::N::N::some (OB.row 88 3 (List.map JAA.toD []) .no)::nn 19 (some (OB.map 3 44 (Bn D.i (D.l 1 D.u8) v41))::nn 170 ([]))⟩) ?_ ?_
 ·intro k42 h;refine sJ h (fun h=>?_) fun h=>AA wk h;obtain⟨v43,g44,h⟩:=AB h;refine⟨_,_,some [],Cm g44,?_⟩;refine⟨_,Ej (ek:=D.i) (ev:=(D.l 1 D.u8)) (l:=v37) (k:=4) (v:=v43) BL,?_⟩;exact AA wk h
 rintro v41 h;revert h;refine AG (fun v45=>⟨X::yr 1 0::X::X::AV.own 4 (List.map JAA.toD []).length::AV.mp 24::dd 189 ([]),N::yB (JAC.av a0)::N::N::some (OB.row 88 3 (List.map JAA.toD []) .no)::nn 19 (some (OB.map 3 44 (Bn D.i (D.l 1 D.u8) v45))::nn 170 ([]))⟩) ?_ ?_
 ·intro k46 h;refine sJ h (fun h=>?_) fun h=>AA wk h;obtain⟨v47,g48,h⟩:=AB h;refine⟨_,_,some [],Cm g48,?_⟩;refine⟨_,Ej (ek:=D.i) (ev:=(D.l 1 D.u8)) (l:=v41) (k:=5) (v:=v47) BL,?_⟩;exact AA wk h
 rintro v45 h;refine⟨a0.Communities.length,X10 _,?_⟩;revert h;refine AG (fun (v49,v50)=>⟨X::yr 1 0::X::X::AV.own 4 (List.map JAA.toD []).length::AV.mp 24::dd 189 ([]),N::yB (JAC.av a0)::N::N::some (OB.row 88 3 (List.map JAA.toD []) .no)::nn 19 (some (OB.amap 3 44 (Bn D.i (D.l 1 D.u8) v49) (.int .i64 8) 112 (List.map D.u8 v50).length)::nn 87 (some (OB.row 5 1 (List.map D.u8 v50) .yes)::nn 82 ([])))⟩) ?_ ?_
 ·intro k51 h;obtain⟨_,g52,h⟩:=AB h;revert h;refine Ac 104 2 JAB.toD rfl (fun i53 (v54,v55)=>⟨X::yr 1 0::X::X::AV.own 4 (List.map JAA.toD []).length::AV.mp 24::dd 98 (AV.d (D.l 2 JAB.toD a0.Communities)::yi (a0.Communities.length:Int)::yi (i53:Int)::dd 88 ([])),N::yB (JAC.av a0)::N::N::some (OB.row 88 3 (List.map JAA.toD []) .no)::nn 19 (some (OB.amap 3 44 (Bn D.i (D.l 1 D.u8) v54) (.int .i64 8) 112 (List.map D.u8 v55).length)::nn 87 (some (OB.row 5 1 (List.map D.u8 v55) .yes)::nn 82 ([])))⟩) ?_ ?_ ?_
  ·exact (.mk rfl (And.intro (.refl _) (And.intro (.refl _) (And.intro (.refl _) (And.intro (.refl _) (And.intro (.refl _) (And.intro (.refl _) True.intro)))))) (And.intro ⟨_,rfl,And.intro ⟨rfl,.refl _⟩ (And.intro ⟨rfl,.refl _⟩ (And.intro ⟨rfl,.refl _⟩ (And.intro ⟨rfl,.refl _⟩ (And.intro ⟨rfl,.refl _⟩ (And.intro ⟨rfl,.refl _⟩ (And.intro ⟨rfl,.refl _⟩ (And.intro ⟨rfl,.refl _⟩ (And.intro ⟨rfl,.refl _⟩ (And.intro ⟨rfl,.refl _⟩ (And.intro ⟨rfl,.refl _⟩ (True.intro)))))))))))⟩ (And.intro (.inl ⟨_,rfl,⟨id,trivial⟩⟩) (And.intro (.inr ⟨.inl rfl,⟨_,Pn BL g52⟩,rfl,rfl,_,_,_,rfl⟩) (And.intro (.inr ⟨rfl,rfl,by decide⟩) (True.intro))))) rfl)
  ·rintro⟨v54,v55⟩ K56 h;(conv=>whnf);refine .go ?_;(conv=>whnf);refine BI Cb ?_;exact AA wk h
  rintro next57 i53 x58 ⟨v54,v55⟩ K56 hii53 hxi53 hwi53 h hK59;(conv=>whnf);refine .go ?_;(conv=>whnf);refine BD (CQ hii53) ?_;(conv=>whnf);refine .go ?_;refine⟨BF (f:=JAB.toD) hii53,JAB.toD x58,hxi53,rfl,?_⟩;(conv=>whnf);refine .inl (dO ?_);(conv=>whnf);refine .inr ⟨rfl,rfl,⟨_,BX (ek:=D.i) (ev:=(D.l 1 D.u8)) (l:=v54) (k:=8) BL⟩,rfl,?_⟩;obtain⟨v60,g61,h⟩:=AB h;refine⟨_,_,Cm g61,.inl rfl,?_⟩;obtain⟨v62,g63,h⟩:=AB h;refine⟨rfl,Ab (f:=D.u8) (g:=D.u8) g63,_,Ag (f:=D.u8) g63,?_⟩;obtain⟨v64,g65,h⟩:=AB h;refine⟨_,_,Cm g65,.inl rfl,?_⟩;obtain⟨v66,g67,h⟩:=AB h;refine⟨rfl,Ab (f:=D.u8) (g:=D.u8) g67,_,Ag (f:=D.u8) g67,?_⟩;(conv=>whnf);refine .inr ?_;refine⟨rfl,?_⟩;refine⟨_,Ej (ek:=D.i) (ev:=(D.l 1 D.u8)) (l:=v54) (k:=8) (v:=v66) BL,?_⟩;(conv=>whnf);refine cO ?_;refine⟨_,hwi53,?_⟩;exact hK59 _ _ wk h
 rintro⟨v49,v50⟩ h;refine⟨a0.JAF.length,X10 _,?_⟩;revert h;refine AG (fun (v68,v69)=>⟨X::yr 1 0::X::X::AV.own 4 (List.map JAA.toD []).length::AV.mp 24::dd 189 ([]),N::yB (JAC.av a0)::N::N::some (OB.row 88 3 (List.map JAA.toD []) .no)::nn 19 (some (OB.amap 3 44 (Bn D.i (D.l 1 D.u8) v68) (.int .i64 32) 131 (List.map D.u8 v69).length)::nn 106 (some (OB.row 5 1 (List.map D.u8 v69) .yes)::nn 63 ([])))⟩) ?_ ?_
 ·intro k70 h;obtain⟨_,g71,h⟩:=AB h;revert h;refine Ac 123 3 JAF.toD rfl (fun i72 (v73,v74)=>⟨X::yr 1 0::X::X::AV.own 4 (List.map JAA.toD []).length::AV.mp 24::dd 117 (AV.d (D.l 3 JAF.toD a0.JAF)::yi (a0.JAF.length:Int)::yi (i72:Int)::dd 69 ([])),N::yB (JAC.av a0)::N::N::some (OB.row 88 3 (List.map JAA.toD []) .no)::nn 19 (some (OB.amap 3 44 (Bn D.i (D.l 1 D.u8) v73) (.int .i64 32) 131 (List.map D.u8 v74).length)::nn 106 (some (OB.row 5 1 (List.map D.u8 v74) .yes)::nn 63 ([])))⟩) ?_ ?_ ?_
  ·exact (.mk rfl (And.intro (.refl _) (And.intro (.refl _) (And.intro (.refl _) (And.intro (.refl _) (And.intro (.refl _) (And.intro (.refl _) True.intro)))))) (And.intro ⟨_,rfl,And.intro ⟨rfl,.refl _⟩ (And.intro ⟨rfl,.refl _⟩ (And.intro ⟨rfl,.refl _⟩ (And.intro ⟨rfl,.refl _⟩ (And.intro ⟨rfl,.refl _⟩ (And.intro ⟨rfl,.refl _⟩ (And.intro ⟨rfl,.refl _⟩ (And.intro ⟨rfl,.refl _⟩ (And.intro ⟨rfl,.refl _⟩ (And.intro ⟨rfl,.refl _⟩ (And.intro ⟨rfl,.refl _⟩ (True.intro)))))))))))⟩ (And.intro (.inl ⟨_,rfl,⟨id,trivial⟩⟩) (And.intro (.inr ⟨.inr ⟨_,_,_,rfl⟩,⟨_,Pn BL g71⟩,rfl,rfl,_,_,_,rfl⟩) (And.intro (.inr ⟨rfl,rfl,by decide⟩) (True.intro))))) rfl)
  ·rintro⟨v73,v74⟩ K75 h;(conv=>whnf);refine .go ?_;(conv=>whnf);refine BI Cb ?_;exact AA wk h
  rintro next76 i72 x77 ⟨v73,v74⟩ K75 hii72 hxi72 hwi72 h hK78;(conv=>whnf);refine .go ?_;(conv=>whnf);refine BD (CQ hii72) ?_;(conv=>whnf);refine .go ?_;refine⟨BF (f:=JAF.toD) hii72,JAF.toD x77,hxi72,rfl,?_⟩;(conv=>whnf);refine .inl (dO ?_);(conv=>whnf);refine .inr ⟨rfl,rfl,⟨_,BX (ek:=D.i) (ev:=(D.l 1 D.u8)) (l:=v73) (k:=32) BL⟩,rfl,?_⟩;obtain⟨v79,g80,h⟩:=AB h;refine⟨_,_,Cm g80,.inl rfl,?_⟩;obtain⟨v81,g82,h⟩:=AB h;refine⟨rfl,Ab (f:=D.u8) (g:=D.u8) g82,_,Ag (f:=D.u8) g82,?_⟩;obtain⟨v83,g84,h⟩:=AB h;refine⟨_,_,Cm g84,.inl rfl,?_⟩;obtain⟨v85,g86,h⟩:=AB h;refine⟨rfl,Ab (f:=D.u8) (g:=D.u8) g86,_,Ag (f:=D.u8) g86,?_⟩;obtain⟨v87,g88,h⟩:=AB h;refine⟨_,_,Cm g88,.inl rfl,?_⟩;obtain⟨v89,g90,h⟩:=AB h;refine⟨rfl,Ab (f:=D.u8) (g:=D.u8) g90,_,Ag (f:=D.u8) g90,?_⟩;(conv=>whnf);refine .inr ?_;refine⟨rfl,?_⟩;refine⟨_,Ej (ek:=D.i) (ev:=(D.l 1 D.u8)) (l:=v73) (k:=32) (v:=v89) BL,?_⟩;(conv=>whnf);refine cO ?_;refine⟨_,hwi72,?_⟩;exact hK78 _ _ wk h
 rintro⟨v68,v69⟩ h;revert h;refine AG (fun v91=>⟨X::yr 1 0::X::X::AV.own 4 (List.map JAA.toD []).length::AV.mp 24::dd 189 ([]),N::yB (JAC.av a0)::N::N::some (OB.row 88 3 (List.map JAA.toD []) .no)::nn 19 (some (OB.map 3 44 (Bn D.i (D.l 1 D.u8) v91))::nn 170 ([]))⟩) ?_ ?_
 ·intro k92 h;refine sJ h (fun h=>?_) fun h=>AA wk h;obtain⟨v93,g94,h⟩:=AB h;refine⟨_,_,some [],Cm g94,?_⟩;refine⟨_,Ej (ek:=D.i) (ev:=(D.l 1 D.u8)) (l:=v68) (k:=35) (v:=v93) BL,?_⟩;exact AA wk h
 rintro v91 h;revert h;refine AG (fun v95=>⟨dd 4 (yO 4 JAA.toD v95::dd 190 ([])),nn 4 (yR 88 3 JAA.toD v95::nn 190 ([]))⟩) ?_ ?_
 ·intro k96 h;revert h;refine Aw (fun (v97,v98)=>⟨X::yr 1 0::X::X::yO 4 JAA.toD v98::AV.mp 24::dd 146 (yi v97::dd 42 ([])),N::yB (JAC.av a0)::N::N::yR 88 3 JAA.toD v98::nn 19 (some (OB.map 3 44 (Bn D.i (D.l 1 D.u8) v91))::nn 170 ([]))⟩) ?_ ?_
  ·exact wk
  rintro next99 ⟨v97,v98⟩ K100 h hK101;(conv=>whnf);refine .go ?_;refine sJ h (fun h=>?_) fun h=>AA wk h;revert h;refine AG (fun v102=>⟨X::yr 1 0::X::X::yO 4 JAA.toD v102::AV.mp 24::dd 146 (yi v97::dd 42 ([])),N::yB (JAC.av a0)::N::N::yR 88 3 JAA.toD v102::nn 19 (some (OB.map 3 44 (Bn D.i (D.l 1 D.u8) v91))::nn 170 ([]))⟩) ?_ ?_
  ·intro k103 h;obtain⟨v104,g105,h⟩:=AB h;obtain⟨v106,g107,h⟩:=AB h;refine⟨_,BX (ek:=D.i) (ev:=(D.l 1 D.u8)) (l:=v91) (k:=v97) BL,(D.l 1 D.u8) v104,D7 (z:=[]) rfl g105,v106,ce g107,?_⟩;revert h;refine AG (fun v108=>⟨X::yr 1 0::X::X::yO 4 JAA.toD v108::AV.mp 24::dd 10 (yi v97::dd 135 (yi v97::dd 42 ([]))),N::yB (JAC.av a0)::N::N::yR 88 3 JAA.toD v108::nn 19 (some (OB.map 3 44 (Bn D.i (D.l 1 D.u8) v91))::nn 170 ([]))⟩) ?_ ?_
   ·intro k109 h;refine sJ h (fun h=>?_) fun h=>AA wk h;obtain⟨v110,g111,h⟩:=AB h;refine⟨_,_,some [],LH g111,?_⟩;obtain⟨_,g112,h⟩:=AB h;refine⟨F2 (g:=D.u8) g112,?_⟩;(conv=>whnf);refine .inl ?_;refine⟨rfl,?_⟩;refine⟨rfl,?_⟩;obtain⟨v113,g114,h⟩:=AB h;refine⟨rfl,Ab (f:=JAA.toD) (g:=JAA.toD) g114,_,Ag (f:=JAA.toD) g114,?_⟩;exact AA wk h
   rintro v108 h;refine⟨a0.Other.length,X10 _,?_⟩;revert h;refine AG (fun v115=>⟨X::yr 1 0::X::X::yO 4 JAA.toD v115::AV.mp 24::dd 146 (yi v97::dd 42 ([])),N::yB (JAC.av a0)::N::N::yR 88 3 JAA.toD v115::nn 19 (some (OB.map 3 44 (Bn D.i (D.l 1 D.u8) v91))::nn 170 ([]))⟩) ?_ ?_
   ·intro k116 h;revert h;refine Ac 172 3 JAA.toD rfl (fun i117 v118=>⟨X::yr 1 0::X::X::yO 4 JAA.toD v118::AV.mp 24::dd 10 (yi v97::dd 135 (yi v97::dd 19 (AV.d (D.l 3 JAA.toD a0.Other)::yi (a0.Other.length:Int)::yi (i117:Int)::dd 20 ([])))),N::yB (JAC.av a0)::N::N::yR 88 3 JAA.toD v118::nn 19 (some (OB.map 3 44 (Bn D.i (D.l 1 D.u8) v91))::nn 170 ([]))⟩) ?_ ?_ ?_
    ·exact wk
    ·rintro v118 K119 h;(conv=>whnf);refine .go ?_;(conv=>whnf);refine BI Cb ?_;exact AA wk h
    rintro next120 i117 x121 v118 K119 hii117 hxi117 hwi117 h hK122;(conv=>whnf);refine .go ?_;(conv=>whnf);refine BD (CQ hii117) ?_;(conv=>whnf);refine .go ?_;refine⟨BF (f:=JAA.toD) hii117,JAA.toD x121,hxi117,rfl,?_⟩;revert h;refine AG (fun v123=>⟨X::yr 1 0::X::X::yO 4 JAA.toD v123::AV.mp 24::dd 10 (yi v97::dd 135 (yi v97::dd 19 (AV.d (D.l 3 JAA.toD a0.Other)::yi (a0.Other.length:Int)::yi (i117:Int)::dd 20 ([])))),N::yB (JAC.av a0)::N::N::yR 88 3 JAA.toD v123::nn 19 (some (OB.map 3 44 (Bn D.i (D.l 1 D.u8) v91))::nn 170 ([]))⟩) ?_ ?_
    ·intro k124 h;refine sJ h (fun h=>?_) fun h=>AA wk h;(conv=>whnf);refine .inl (dO ?_);obtain⟨_,g125,h⟩:=AB h;refine⟨F2 (g:=D.u8) g125,?_⟩;(conv=>whnf);refine .inl ?_;refine⟨rfl,?_⟩;refine⟨rfl,?_⟩;obtain⟨v126,g127,h⟩:=AB h;refine⟨rfl,Ab (f:=JAA.toD) (g:=JAA.toD) g127,_,Ag (f:=JAA.toD) g127,?_⟩;(conv=>whnf);refine cO ?_;exact AA wk h
    rintro v123 h;refine⟨_,hwi117,?_⟩;exact hK122 _ _ wk h
   rintro v115 h;exact AA wk h
  rintro v102 h;refine⟨_,rfl,?_⟩;exact hK101 _ _ wk h
 rintro v95 h;(conv=>whnf);refine .inl ?_;refine⟨rfl,?_⟩;cases h;exact⟨rfl,rfl⟩
theorem SS {a0:List JAA}{r:(List UInt8)×Int}(h:IG a0=some r):yC wl 57 [AV.d (D.l 3 JAA.toD a0)] [] (.tup [.d (D.l 1 D.u8 r.1),.d (D.i r.2)]) []:=by
 refine oK Tryz.f57 ⟨rfl,?_⟩;unfold IG at h;refine⟨a0.length,X10 _,?_⟩;revert h;refine AG (fun _=>⟨y4 a0::dd 88 ([]),nn 89 ([])⟩) ?_ ?_
 ·intro k1 h;revert h;refine Ac 10 3 JAA.toD rfl (fun i2 _=>⟨y4 a0::dd 9 (y4 a0::yi (a0.length:Int)::yi (i2:Int)::dd 76 ([])),nn 89 ([])⟩) ?_ ?_ ?_
  ·exact wk
  ·rintro _ K3 h;(conv=>whnf);refine .go ?_;(conv=>whnf);refine BI Cb ?_;exact AA wk h
  rintro next4 i2 x5 _ K3 hii2 hxi2 hwi2 h hK6;(conv=>whnf);refine .go ?_;(conv=>whnf);refine BD (CQ hii2) ?_;(conv=>whnf);refine .go ?_;refine⟨BF (f:=JAA.toD) hii2,JAA.toD x5,hxi2,rfl,?_⟩;revert h;refine AG (fun v7=>⟨y4 a0::dd 9 (y4 a0::yi (a0.length:Int)::yi (i2:Int)::dd 26 (yb v7::dd 49 ([]))),nn 89 ([])⟩) ?_ ?_
  ·intro k8 h;refine sJ h (fun h=>AA wk h) fun h=>?_;refine sJ h (fun h=>AA wk h) fun h=>?_;refine sJ h (fun h=>AA wk h) fun h=>?_;refine sJ h (fun h=>AA wk h) fun h=>?_;refine⟨x5.Data.length,X10 _,?_⟩;exact AA wk h
  rintro v7 h;(conv=>whnf);refine .go ?_;refine sJ h ?_ ?_<;>intro h
  ·(conv=>whnf);refine .inl ?_;refine⟨rfl,?_⟩;cases h;exact⟨rfl,rfl⟩
  refine⟨_,hwi2,?_⟩;exact hK6 _ _ wk h
 rintro _ h;refine⟨a0.length,X10 _,?_⟩;revert h;refine AG (fun v9=>⟨dd 6 (yO 6 D.u8 v9::dd 82 ([])),nn 6 (yR 5 1 D.u8 v9::nn 82 ([]))⟩) ?_ ?_
 ·intro k10 h;revert h;refine Ac 41 3 JAA.toD rfl (fun i11 v12=>⟨dd 6 (yO 6 D.u8 v12::dd 34 (y4 a0::yi (a0.length:Int)::yi (i11:Int)::dd 45 ([]))),nn 6 (yR 5 1 D.u8 v12::nn 82 ([]))⟩) ?_ ?_ ?_
  ·exact wk
  ·rintro v12 K13 h;(conv=>whnf);refine .go ?_;(conv=>whnf);refine BI Cb ?_;exact AA wk h
  rintro next14 i11 x15 v12 K13 hii11 hxi11 hwi11 h hK16;(conv=>whnf);refine .go ?_;(conv=>whnf);refine BD (CQ hii11) ?_;(conv=>whnf);refine .go ?_;refine⟨BF (f:=JAA.toD) hii11,JAA.toD x15,hxi11,rfl,?_⟩;refine⟨x15.Data.length,X10 _,?_⟩;revert h;refine AG (fun v17=>⟨dd 6 (yO 6 D.u8 v17::X::yr 8 0::dd 32 (y4 a0::yi (a0.length:Int)::yi (i11:Int)::dd 45 ([]))),nn 6 (yR 5 1 D.u8 v17::N::yB (JAA.av x15)::nn 80 ([]))⟩) ?_ ?_
  ·intro k18 h;refine sJ h ?_ ?_<;>intro h
   ·refine⟨_,As _,?_⟩;refine⟨_,As _,?_⟩;refine⟨_,As _,?_⟩;refine⟨_,As _,?_⟩;refine⟨by decide,_,rfl,?_⟩;refine⟨_,As _,?_⟩;refine⟨_,As _,?_⟩;refine⟨rfl,?_⟩;obtain⟨v19,g20,h⟩:=AB h;refine⟨rfl,Ab (f:=D.u8) (g:=D.u8) g20,_,Ag (f:=D.u8) g20,?_⟩;exact AA wk h
   refine⟨_,As _,?_⟩;refine⟨_,As _,?_⟩;refine⟨_,As _,?_⟩;refine⟨_,As _,?_⟩;refine⟨rfl,?_⟩;obtain⟨v21,g22,h⟩:=AB h;refine⟨rfl,Ab (f:=D.u8) (g:=D.u8) g22,_,Ag (f:=D.u8) g22,?_⟩;exact AA wk h
  rintro v17 h;obtain⟨v23,g24,h⟩:=AB h;refine⟨rfl,Ab (f:=D.u8) (g:=D.u8) g24,_,Ag (f:=D.u8) g24,?_⟩;refine⟨_,hwi11,?_⟩;exact hK16 _ _ wk h
 rintro v9 h;refine⟨v9.length,by first | exact X10 _ | rfl | (simp only[X10];omega),?_⟩;(conv=>whnf);refine .go ?_;refine sJ h ?_ ?_<;>intro h
 ·(conv=>whnf);refine .inl ?_;refine⟨rfl,?_⟩;cases h;exact⟨rfl,rfl⟩
 (conv=>whnf);refine .inl ?_;refine⟨rfl,?_⟩;cases h;exact⟨rfl,rfl⟩
theorem Gh {a0:List JAE}{a1:Bool}{r:(List UInt8)}(h:ER a0 a1=some r):yC wl 97 [AV.d (D.l 4 JAE.toD a0),AV.d (D.b a1)] [] (.d (D.l 1 D.u8 r)) []:=by
 refine oK Tryz.f97 ⟨rfl,?_⟩;unfold ER at h;refine⟨a0.length,X10 _,?_⟩;revert h;refine AG (fun v1=>⟨dd 5 (yO 5 D.u8 v1::dd 30 ([])),nn 5 (yR 5 1 D.u8 v1::nn 30 ([]))⟩) ?_ ?_
 ·intro k2 h;revert h;refine Ac 8 4 JAE.toD rfl (fun i3 v4=>⟨X::yb a1::X::X::X::yO 5 D.u8 v4::X::X::y5 a0::yi (a0.length:Int)::yi (i3:Int)::dd 25 ([]),nn 5 (yR 5 1 D.u8 v4::nn 30 ([]))⟩) ?_ ?_ ?_
  ·exact wk
  ·rintro v4 K5 h;(conv=>whnf);refine .go ?_;(conv=>whnf);refine BI Cb ?_;exact AA wk h
  rintro next6 i3 x7 v4 K5 hii3 hxi3 hwi3 h hK8;(conv=>whnf);refine .go ?_;(conv=>whnf);refine BD (CQ hii3) ?_;(conv=>whnf);refine .go ?_;refine⟨BF (f:=JAE.toD) hii3,JAE.toD x7,hxi3,rfl,?_⟩;revert h;refine AG (fun v9=>⟨X::yb a1::X::X::X::yO 5 D.u8 v9::X::X::y5 a0::yi (a0.length:Int)::yi (i3:Int)::dd 25 ([]),nn 5 (yR 5 1 D.u8 v9::nn 30 ([]))⟩) ?_ ?_
  ·intro k10 h;refine sJ h (fun h=>?_) fun h=>AA wk h;(conv=>whnf);refine .inl (dO ?_);refine⟨_,As _,?_⟩;refine⟨rfl,?_⟩;obtain⟨v11,g12,h⟩:=AB h;refine⟨rfl,Ab (f:=D.u8) (g:=D.u8) g12,_,Ag (f:=D.u8) g12,?_⟩;obtain⟨v13,g14,h⟩:=AB h;refine⟨_,_,GZ g14,.inr rfl,?_⟩;refine⟨_,rfl,?_⟩;refine⟨by decide,_,rfl,?_⟩;(conv=>whnf);refine .inr (.inl ?_);obtain⟨_,g15,h⟩:=AB h;have g21c:=Em g15;refine⟨bR (f:=D.u8) g15,rfl,(Int.toNat 0),(Int.toNat (AN (Int.tdiv (AN (x7.Len+7)) 8))-Int.toNat 0),rfl,rfl,?_⟩;refine⟨(by first | rfl | (simp only[X10,X21];omega)|(simp only[cpy,X10,X21,X11,X18,X17,X20];omega)),List.map D.u8 (List.take (Int.toNat (AN (Int.tdiv (AN (x7.Len+7)) 8))-Int.toNat 0) (List.drop (Int.toNat 0) v13)),XF,?_⟩;obtain⟨v16,g17,h⟩:=AB h;refine⟨rfl,Ab (f:=D.u8) (g:=D.u8) g17,_,Ag (f:=D.u8) g17,?_⟩;(conv=>whnf);refine cO ?_;exact AA wk h
  rintro v9 h;refine⟨_,hwi3,?_⟩;exact hK8 _ _ wk h
 rintro v1 h;(conv=>whnf);refine .inl ?_;(conv=>whnf);refine .inl ?_;refine⟨rfl,?_⟩;cases h;exact⟨rfl,rfl⟩
theorem NC {a0:List JAA}{a1:JAA}{r:(List JAA)}(h:GM a0 a1=some r):yC wl 98 [AV.d (D.l 3 JAA.toD a0),AV.d (JAA.toD a1)] [] (.d (D.l 3 JAA.toD r)) []:=by
 refine oK Tryz.f98 ⟨rfl,?_⟩;unfold GM at h;revert h;refine AG (fun v1=>⟨y4 a0::X::X::yr 3 0::X::yi v1::dd 27 ([]),N::N::N::yB (JAA.av a1)::nn 29 ([])⟩) ?_ ?_
 ·intro k2 h;revert h;refine Aw (fun v3=>⟨y4 a0::X::X::yr 3 0::X::yi v3::dd 27 ([]),N::N::N::yB (JAA.av a1)::nn 29 ([])⟩) ?_ ?_
  ·exact wk
  rintro next4 v3 K5 h hK6;revert h;refine AG (fun v7=>⟨y4 a0::X::X::yr 3 0::X::yi v3::dd 13 (yb v7::dd 13 ([])),N::N::N::yB (JAA.av a1)::nn 29 ([])⟩) ?_ ?_
  ·intro k8 h;(conv=>whnf);refine .inl (dO ?_);refine⟨a0.length,X10 _,?_⟩;refine sJ h ?_ ?_<;>intro h
   ·obtain⟨v9,g10,h⟩:=AB h;refine⟨Ah (f:=JAA.toD) g10,JAA.toD v9,Aj (f:=JAA.toD) g10,rfl,?_⟩;(conv=>whnf);refine cO ?_;exact AA wk h
   (conv=>whnf);refine cO ?_;exact AA wk h
  rintro v7 h;(conv=>whnf);refine .go ?_;refine sJ h (fun h=>?_) fun h=>AA wk h;(conv=>whnf);refine .go ?_;refine⟨_,rfl,?_⟩;exact hK6 _ _ wk h
 rintro v1 h;(conv=>whnf);refine .inl (dO ?_);obtain⟨v11,g12,h⟩:=AB h;refine⟨Fe (f:=JAA.toD) g12,_,EL (f:=JAA.toD) g12,?_⟩;obtain⟨_,g13,h⟩:=AB h;refine⟨F2 (g:=JAA.toD) g13,?_⟩;refine⟨rfl,?_⟩;obtain⟨v14,g15,h⟩:=AB h;refine⟨rfl,Ab (f:=JAA.toD) (g:=JAA.toD) g15,_,Ag (f:=JAA.toD) g15,?_⟩;obtain⟨v16,g17,h⟩:=AB h;refine⟨Gj (f:=JAA.toD) g17,_,Gf (f:=JAA.toD) g17,?_⟩;obtain⟨v18,g19,h⟩:=AB h;refine⟨rfl,Ab (f:=JAA.toD) (g:=JAA.toD) g19,_,Ag (f:=JAA.toD) g19,?_⟩;(conv=>whnf);refine cO ?_;(conv=>whnf);refine .inl ?_;(conv=>whnf);refine .inl ?_;refine⟨rfl,?_⟩;cases h;exact⟨rfl,rfl⟩
theorem Qz {a0:JAG}{r:(List UInt8)×Int}(h:GO a0=some r):yC wl 50 [AV.d (JAG.toD a0)] [] (.tup [.d (D.l 1 D.u8 r.1),.d (D.i r.2)]) []:=by
 refine oK Tryz.f50 ⟨rfl,?_⟩;unfold GO at h;refine⟨a0.Announce.length,X10 _,?_⟩;revert h;refine AG (fun v1=>⟨X::yr 1 0::X::X::y4 v1::dd 91 ([]),N::yB (JAG.av a0)::nn 94 ([])⟩) ?_ ?_
 ·intro k2 h;refine sJ h (fun h=>?_) fun h=>AA wk h;obtain⟨⟨v3,v4⟩,g5,h⟩:=AB h;refine⟨_,_,some [],Qb g5,?_⟩;(conv=>whnf);refine .go ?_;refine sJ h (fun h=>?_) fun h=>AA wk h;cases h;exact⟨rfl,rfl⟩
 rintro v1 h;obtain⟨v6,g7,h⟩:=AB h;refine⟨_,_,some [],Gh g7,?_⟩;refine⟨v6.length,X10 _,?_⟩;revert h;refine AG (fun v8=>⟨X::yr 1 0::X::X::y4 v8::dd 91 ([]),N::yB (JAG.av a0)::nn 94 ([])⟩) ?_ ?_
 ·intro k9 h;refine sJ h (fun h=>?_) fun h=>AA wk h;obtain⟨v10,g11,h⟩:=AB h;refine⟨_,_,some [38],GZ g11,?_⟩;refine⟨rfl,?_⟩;obtain⟨v12,g13,h⟩:=AB h;refine⟨rfl,Ab (f:=D.u8) (g:=D.u8) g13,_,Ag (f:=D.u8) g13,?_⟩;refine⟨rfl,?_⟩;obtain⟨v14,g15,h⟩:=AB h;refine⟨rfl,Ab (f:=D.u8) (g:=D.u8) g15,_,Ag (f:=D.u8) g15,?_⟩;obtain⟨v16,g17,h⟩:=AB h;refine⟨rfl,Ab (f:=D.u8) (g:=D.u8) g17,_,Ag (f:=D.u8) g17,?_⟩;refine⟨rfl,?_⟩;obtain⟨v18,g19,h⟩:=AB h;refine⟨_,_,some [],NC g19,?_⟩;exact AA wk h
 rintro v8 h;obtain⟨v20,g21,h⟩:=AB h;refine⟨_,_,some [],Gh g21,?_⟩;refine⟨v20.length,X10 _,?_⟩;revert h;refine AG (fun v22=>⟨X::yr 1 0::X::X::y4 v22::dd 91 ([]),N::yB (JAG.av a0)::nn 94 ([])⟩) ?_ ?_
 ·intro k23 h;refine sJ h (fun h=>?_) fun h=>AA wk h;obtain⟨v24,g25,h⟩:=AB h;refine⟨rfl,Ab (f:=D.u8) (g:=D.u8) g25,_,Ag (f:=D.u8) g25,?_⟩;refine⟨rfl,?_⟩;obtain⟨v26,g27,h⟩:=AB h;refine⟨_,_,some [],NC g27,?_⟩;exact AA wk h
 rintro v22 h;obtain⟨⟨v28,v29⟩,g30,h⟩:=AB h;refine⟨_,_,some [],SS g30,?_⟩;(conv=>whnf);refine .go ?_;refine sJ h ?_ ?_<;>intro h
 ·(conv=>whnf);refine .inl ?_;refine⟨rfl,?_⟩;cases h;exact⟨rfl,rfl⟩
 obtain⟨v31,g32,h⟩:=AB h;refine⟨_,_,some [],Gh g32,?_⟩;refine⟨v31.length,X10 _,?_⟩;refine⟨by decide,_,rfl,?_⟩;refine⟨_,As _,?_⟩;refine⟨v31.length,X10 _,?_⟩;refine⟨_,As _,?_⟩;obtain⟨v33,g34,h⟩:=AB h;refine⟨rfl,Ab (f:=D.u8) (g:=D.u8) g34,_,Ag (f:=D.u8) g34,?_⟩;refine⟨v28.length,X10 _,?_⟩;refine⟨by decide,_,rfl,?_⟩;refine⟨_,As _,?_⟩;refine⟨v28.length,X10 _,?_⟩;refine⟨_,As _,?_⟩;refine⟨rfl,?_⟩;obtain⟨v35,g36,h⟩:=AB h;refine⟨rfl,Ab (f:=D.u8) (g:=D.u8) g36,_,Ag (f:=D.u8) g36,?_⟩;obtain⟨v37,g38,h⟩:=AB h;refine⟨rfl,Ab (f:=D.u8) (g:=D.u8) g38,_,Ag (f:=D.u8) g38,?_⟩;obtain⟨v39,g40,h⟩:=AB h;refine⟨_,_,some [],Gh g40,?_⟩;obtain⟨v41,g42,h⟩:=AB h;refine⟨rfl,Ab (f:=D.u8) (g:=D.u8) g42,_,Ag (f:=D.u8) g42,?_⟩;(conv=>whnf);refine .inl ?_;refine⟨rfl,?_⟩;cases h;exact⟨rfl,rfl⟩
theorem Qc {a0:JAG}{r:Bool}(h:HE a0=some r):yC wl 21 [AV.d (JAG.toD a0)] [] (.d (D.b r)) []:=by
 refine oK Tryz.f21 ⟨rfl,?_⟩;unfold HE at h;revert h;refine AG (fun v1=>⟨X::yr 1 0::dd 16 (yb v1::dd 73 ([])),N::yB (JAG.av a0)::nn 90 ([])⟩) ?_ ?_
 ·intro k2 h;refine⟨a0.Withdraw.length,X10 _,?_⟩;refine sJ h (fun h=>AA wk h) fun h=>?_;refine⟨a0.Announce.length,X10 _,?_⟩;exact AA wk h
 rintro v1 h;(conv=>whnf);refine .go ?_;refine sJ h ?_ ?_<;>intro h
 ·cases h;exact⟨rfl,rfl⟩
 (conv=>whnf);refine .inl (dO ?_);obtain⟨_,g3,h⟩:=AB h;refine⟨F2 (g:=JAE.toD) g3,?_⟩;obtain⟨v4,g5,h⟩:=AB h;refine⟨rfl,Ab (f:=JAE.toD) (g:=JAE.toD) g5,_,Ag (f:=JAE.toD) g5,?_⟩;refine⟨v4.length,by first | exact X10 _ | rfl | (simp only[X10];omega),?_⟩;(conv=>whnf);refine cO ?_;revert h;refine AG (fun _=>⟨X::yr 1 0::dd 90 ([]),N::yB (JAG.av a0)::nn 90 ([])⟩) ?_ ?_
 ·intro k6 h;revert h;refine Nr 21 41 4 .no JAE.toD rfl (fun i7 _=>⟨X::yr 1 0::dd 22 (yO 21 JAE.toD v4::yi (v4.length:Int)::yi (i7:Int)::dd 65 ([])),N::yB (JAG.av a0)::nn 19 (yR 41 4 JAE.toD v4::nn 70 ([]))⟩) ?_ ?_ ?_
  ·exact wk
  ·rintro _ K8 h;(conv=>whnf);refine .go ?_;(conv=>whnf);refine BI Cb ?_;exact AA wk h
  rintro next9 i7 x10 _ K8 hii7 hxi7 hwi7 h hK11;(conv=>whnf);refine .go ?_;(conv=>whnf);refine BD (CQ hii7) ?_;(conv=>whnf);refine .go ?_;refine⟨rfl,BF (f:=JAE.toD) hii7,?_⟩;refine⟨rfl,JAE.toD x10,hxi7,?_⟩;obtain⟨v12,g13,h⟩:=AB h;refine⟨_,_,some [],QI g13,?_⟩;(conv=>whnf);refine .go ?_;refine sJ h ?_ ?_<;>intro h
  ·cases h;exact⟨rfl,rfl⟩
  refine⟨_,hwi7,?_⟩;exact hK11 _ _ wk h
 rintro _ h;revert h;refine AG (fun v14=>⟨X::yr 1 0::dd 42 (yb v14::dd 47 ([])),N::yB (JAG.av a0)::nn 90 ([])⟩) ?_ ?_
 ·intro k15 h;(conv=>whnf);refine .inl (dO ?_);refine⟨a0.Announce.length,X10 _,?_⟩;refine sJ h ?_ ?_<;>intro h
  ·obtain⟨v16,g17,h⟩:=AB h;refine⟨_,_,Kp g17,.inl rfl,?_⟩;obtain⟨v18,g19,h⟩:=AB h;refine⟨_,_,L1 g19,.inl rfl,?_⟩;(conv=>whnf);refine cO ?_;exact AA wk h
  (conv=>whnf);refine cO ?_;exact AA wk h
 rintro v14 h;(conv=>whnf);refine .go ?_;refine sJ h ?_ ?_<;>intro h
 ·cases h;exact⟨rfl,rfl⟩
 refine⟨a0.Announce.length,X10 _,?_⟩;revert h;refine AG (fun _=>⟨X::yr 1 0::dd 90 ([]),N::yB (JAG.av a0)::nn 90 ([])⟩) ?_ ?_
 ·intro k20 h;revert h;refine Ac 46 4 JAE.toD rfl (fun i21 _=>⟨X::yr 1 0::dd 44 (AV.d (D.l 4 JAE.toD a0.Announce)::yi (a0.Announce.length:Int)::yi (i21:Int)::dd 43 ([])),N::yB (JAG.av a0)::nn 90 ([])⟩) ?_ ?_ ?_
  ·exact wk
  ·rintro _ K22 h;(conv=>whnf);refine .go ?_;(conv=>whnf);refine BI Cb ?_;exact AA wk h
  rintro next23 i21 x24 _ K22 hii21 hxi21 hwi21 h hK25;(conv=>whnf);refine .go ?_;(conv=>whnf);refine BD (CQ hii21) ?_;(conv=>whnf);refine .go ?_;refine⟨BF (f:=JAE.toD) hii21,JAE.toD x24,hxi21,rfl,?_⟩;revert h;refine AG (fun v26=>⟨X::yr 1 0::dd 44 (AV.d (D.l 4 JAE.toD a0.Announce)::yi (a0.Announce.length:Int)::yi (i21:Int)::dd 29 (yb v26::dd 13 ([]))),N::yB (JAG.av a0)::nn 90 ([])⟩) ?_ ?_
  ·intro k27 h;refine sJ h (fun h=>AA wk h) fun h=>?_;refine sJ h (fun h=>AA wk h) fun h=>?_;refine sJ h (fun h=>AA wk h) fun h=>?_;obtain⟨v28,g29,h⟩:=AB h;refine⟨_,_,some [],KR g29,?_⟩;exact AA wk h
  rintro v26 h;(conv=>whnf);refine .go ?_;refine sJ h ?_ ?_<;>intro h
  ·cases h;exact⟨rfl,rfl⟩
  refine⟨_,hwi21,?_⟩;exact hK25 _ _ wk h
 rintro _ h;obtain⟨⟨v30,v31⟩,g32,h⟩:=AB h;refine⟨_,_,some [],Qz g32,?_⟩;revert h;refine AG (fun v33=>⟨X::X::yb v33::dd 89 ([]),nn 92 ([])⟩) ?_ ?_
 ·intro k34 h;refine sJ h (fun h=>?_) fun h=>AA wk h;refine⟨v30.length,X10 _,?_⟩;exact AA wk h
 rintro v33 h;cases h;exact⟨rfl,rfl⟩
theorem Ld {a0:JAI}{r:JAG×JAI}(h:EN a0=some r):yC wl 13 [.ref 0 0] [.box (JAI.av a0)] (.d (JAG.toD r.1)) [.box (JAI.av r.2)]:=by
 refine okx 2 Tryz.f13 (by kernel_rfl) (by kernel_rfl) ⟨rfl,?_⟩;unfold EN at h;revert h;refine AG (fun _=>⟨yr 0 0::X::yr 3 0::dd 5 (AV.d (D.agg [D.i (-1),D.nil 2,D.b false,D.u64 (0:UInt64),D.u64 (0:UInt64),D.i (-1),D.i (-1),D.i (-1),D.nil 2,D.nil 3,D.nil 3])::dd 67 ([])),yB (JAI.av a0)::N::N::yB JAG.zv::nn 75 ([])⟩) ?_ ?_
 ·intro k1 h;(conv=>whnf);refine inl Tryz.f17 77 (by kernel_rfl) (by kernel_rfl) ⟨rfl,?_⟩;exact AA wk h
 rintro _ h;obtain⟨⟨v2,v3⟩,g4,h⟩:=AB h;refine⟨_,_,some [],AK g4,?_⟩;revert h;refine AG (fun (v5,v6)=>⟨yr 0 0::X::yr 3 0::yr 4 0::dd 72 ([]),yB (JAI.av v5)::N::N::yB JAG.zv::yB [yO 22 JAE.toD v6,yi (-1),AV.d (D.nil 2),yb false,yu (0:UInt64),yu (0:UInt64),yi (-1),yi (-1),yi (-1),AV.d (D.nil 2),AV.d (D.nil 3),AV.d (D.nil 3),AV.d (D.nil 4)]::nn 17 (yR 41 4 JAE.toD v6::nn 56 ([]))⟩) ?_ ?_
 ·intro k7 h;revert h;refine Aw (fun (v8,v9,v10)=>⟨yr 0 0::X::yr 3 0::yr 4 0::yi v8::dd 71 ([]),yB (JAI.av v9)::N::N::yB JAG.zv::yB [yO 22 JAE.toD v10,yi (-1),AV.d (D.nil 2),yb false,yu (0:UInt64),yu (0:UInt64),yi (-1),yi (-1),yi (-1),AV.d (D.nil 2),AV.d (D.nil 3),AV.d (D.nil 3),AV.d (D.nil 4)]::nn 17 (yR 41 4 JAE.toD v10::nn 56 ([]))⟩) ?_ ?_
  ·exact wk
  rintro next11 ⟨v8,v9,v10⟩ K12 h hK13;(conv=>whnf);refine .go ?_;refine sJ h (fun h=>?_) fun h=>AA wk h;(conv=>whnf);refine .go ?_;(conv=>whnf);refine .inl (dO ?_);obtain⟨⟨v14,v15⟩,g16,h⟩:=AB h;refine⟨_,_,Hh g16,.inl rfl,?_⟩;refine⟨rfl,?_⟩;obtain⟨v17,g18,h⟩:=AB h;refine⟨rfl,Ab (f:=JAE.toD) (g:=JAE.toD) g18,_,Ag (f:=JAE.toD) g18,?_⟩;(conv=>whnf);refine cO ?_;refine⟨_,rfl,?_⟩;exact hK13 _ _ wk h
 rintro⟨v5,v6⟩ h;obtain⟨⟨v19,v20⟩,g21,h⟩:=AB h;refine⟨_,_,some [],AK g21,?_⟩;(conv=>whnf);refine .go ?_;refine sJ h ?_ ?_<;>intro h
 ·(conv=>whnf);refine .inl ?_;refine⟨rfl,?_⟩;cases h;exact⟨rfl,rfl⟩
 obtain⟨⟨v22,v23⟩,g24,h⟩:=AB h;refine⟨_,_,some [],AK g24,?_⟩;obtain⟨⟨v25,v26⟩,g27,h⟩:=AB h;refine⟨_,_,some [],AK g27,?_⟩;revert h;refine AG (fun (v28,v29)=>⟨yr 0 0::X::yr 3 0::yr 4 0::X::yb (v22==1)::dd 70 ([]),yB (JAI.av v28)::N::N::yB JAG.zv::yB [yO 22 JAE.toD v6,yi (-1),AV.d (D.nil 2),yb false,yu (0:UInt64),yu (0:UInt64),yi (-1),yi (-1),yi (-1),AV.d (D.nil 2),AV.d (D.nil 3),AV.d (D.nil 3),yO 48 JAE.toD v29]::nn 17 (yR 41 4 JAE.toD v6::nn 25 (yR 41 4 JAE.toD v29::nn 30 ([])))⟩) ?_ ?_
 ·intro k30 h;revert h;refine Aw (fun (v31,v32,v33)=>⟨yr 0 0::X::yr 3 0::yr 4 0::X::yb (v22==1)::yi v31::dd 69 ([]),yB (JAI.av v32)::N::N::yB JAG.zv::yB [yO 22 JAE.toD v6,yi (-1),AV.d (D.nil 2),yb false,yu (0:UInt64),yu (0:UInt64),yi (-1),yi (-1),yi (-1),AV.d (D.nil 2),AV.d (D.nil 3),AV.d (D.nil 3),yO 48 JAE.toD v33]::nn 17 (yR 41 4 JAE.toD v6::nn 25 (yR 41 4 JAE.toD v33::nn 30 ([])))⟩) ?_ ?_
  ·exact wk
  rintro next34 ⟨v31,v32,v33⟩ K35 h hK36;(conv=>whnf);refine .go ?_;refine sJ h (fun h=>?_) fun h=>AA wk h;(conv=>whnf);refine .go ?_;obtain⟨⟨v37,v38⟩,g39,h⟩:=AB h;refine⟨_,_,some [],Hh g39,?_⟩;revert h;refine AG (fun v40=>⟨yr 0 0::X::yr 3 0::yr 4 0::X::yb (v22==1)::yi v31::dd 69 ([]),yB (JAI.av v38)::N::N::yB JAG.zv::yB [yO 22 JAE.toD v6,yi (-1),AV.d (D.nil 2),yb false,yu (0:UInt64),yu (0:UInt64),yi (-1),yi (-1),yi (-1),AV.d (D.nil 2),AV.d (D.nil 3),AV.d (D.nil 3),yO 48 JAE.toD v40]::nn 17 (yR 41 4 JAE.toD v6::nn 25 (yR 41 4 JAE.toD v40::nn 30 ([])))⟩) ?_ ?_
  ·intro k41 h;refine sJ h (fun h=>?_) fun h=>AA wk h;refine⟨rfl,?_⟩;obtain⟨v42,g43,h⟩:=AB h;refine⟨rfl,Ab (f:=JAE.toD) (g:=JAE.toD) g43,_,Ag (f:=JAE.toD) g43,?_⟩;exact AA wk h
  rintro v40 h;refine⟨_,rfl,?_⟩;exact hK36 _ _ wk h
 rintro⟨v28,v29⟩ h;refine⟨v29.length,by first | exact X10 _ | rfl | (simp only[X10];omega),?_⟩;(conv=>whnf);refine .go ?_;refine sJ h ?_ ?_<;>intro h
 ·(conv=>whnf);refine .inl ?_;refine⟨rfl,?_⟩;refine⟨rfl,?_⟩;cases h;exact⟨rfl,rfl⟩
 obtain⟨⟨v44,v45⟩,g46,h⟩:=AB h;refine⟨_,_,some [],MH g46,?_⟩;refine⟨_,rfl,?_⟩;obtain⟨v47,g48,h⟩:=AB h;refine⟨_,_,some [],NK g48,?_⟩;revert h;refine AG (fun (v49,v50,v51)=>⟨X::X::yr 3 0::yr 4 0::dd 72 ([]),yB (JAI.av v45)::N::N::yB JAG.zv::yB [yO 22 JAE.toD v6,yi (if v44.Origin > 0 then v44.Origin else 0),AV.d (D.l 2 JAD.toD v44.Path),yb v49,yu v50,yu v51,AV.d (D.i v44.MED),AV.d (D.i v44.Pref),AV.d (D.i v44.OTC),AV.d (D.l 2 JAB.toD v44.Communities),AV.d (D.l 3 JAF.toD v44.JAF),AV.d (D.l 3 JAA.toD v44.Other),yO 48 JAE.toD v29]::nn 17 (yR 41 4 JAE.toD v6::nn 25 (yR 41 4 JAE.toD v29::nn 30 ([])))⟩) ?_ ?_
 ·intro k52 h;refine sJ h (fun h=>?_) fun h=>AA wk h;obtain⟨v53,g54,h⟩:=AB h;refine⟨_,_,some [],PU g54,?_⟩;exact AA wk h
 rintro⟨v49,v50,v51⟩ h;refine⟨rfl,?_⟩;refine⟨rfl,?_⟩;obtain⟨v55,g56,h⟩:=AB h;refine⟨_,_,none,Qc g56,?_⟩;(conv=>whnf);refine .go ?_;refine sJ h ?_ ?_<;>intro h
 ·revert h;refine AG (fun _=>⟨X::X::yr 3 0::dd 70 (AV.d (D.agg [D.i (-1),D.nil 2,D.b false,D.u64 (0:UInt64),D.u64 (0:UInt64),D.i (-1),D.i (-1),D.i (-1),D.nil 2,D.nil 3,D.nil 3])::X::X::[]),yB (JAI.av v45)::N::N::yB JAG.zv::nn 75 ([])⟩) ?_ ?_
  ·intro k57 h;(conv=>whnf);refine inl Tryz.f17 77 (by kernel_rfl) (by kernel_rfl) ⟨rfl,?_⟩;exact AA wk h
  rintro _ h;cases h;exact⟨rfl,rfl⟩
 (conv=>whnf);refine .inl ?_;refine⟨rfl,?_⟩;refine⟨rfl,?_⟩;cases h;exact⟨rfl,rfl⟩
theorem SU {a0:List UInt8}{a1:Int}{r:(List UInt8)}(h:ID a0 a1=some r):yC wl 87 [AV.own 0 (List.map D.u8 a0).length,AV.d (D.i a1)] [.row 5 1 (List.map D.u8 a0) .no] (AV.own 0 (List.map D.u8 r).length) [.row 5 1 (List.map D.u8 r) .no]:=by
 refine oK Tryz.f87 ⟨rfl,?_⟩;unfold ID at h;refine⟨by decide,_,rfl,?_⟩;refine⟨_,As _,?_⟩;refine⟨_,As _,?_⟩;refine⟨rfl,?_⟩;obtain⟨v1,g2,h⟩:=AB h;refine⟨rfl,Ab (f:=D.u8) (g:=D.u8) g2,_,Ag (f:=D.u8) g2,?_⟩;(conv=>whnf);refine .inl ?_;cases h;exact⟨rfl,rfl⟩
theorem Bl {a0:Int}{a1:Int}{a2:Int}{r:Bool}(h:A8 a0 a1 a2=some r):yC wl 118 [AV.d (D.i a0),AV.d (D.i a1),AV.d (D.i a2)] [] (.d (D.b r)) []:=by
 refine oK Tryz.f118 ⟨rfl,?_⟩;unfold A8 at h;revert h;refine AG (fun v1=>⟨dd 6 (yb v1::dd 8 ([])),nn 15 ([])⟩) ?_ ?_
 ·intro k2 h;exact sJ h (fun h=>AA wk h) fun h=>AA wk h
 rintro v1 h;cases h;exact⟨rfl,rfl⟩
theorem Na {a0:List JAA}{r:(List UInt8)×Int}(h:E5 a0=some r):yC wl 94 [AV.d (D.l 3 JAA.toD a0)] [] (.tup [.d (D.l 1 D.u8 r.1),.d (D.i r.2)]) []:=by
 refine oK Tryz.f94 ⟨rfl,?_⟩;unfold E5 at h;refine⟨a0.length,X10 _,?_⟩;revert h;refine AG (fun _=>⟨y4 a0::dd 79 ([]),nn 80 ([])⟩) ?_ ?_
 ·intro k1 h;revert h;refine Ac 11 3 JAA.toD rfl (fun i2 _=>⟨y4 a0::dd 10 (y4 a0::yi (a0.length:Int)::yi (i2:Int)::dd 66 ([])),nn 80 ([])⟩) ?_ ?_ ?_
  ·exact wk
  ·rintro _ K3 h;(conv=>whnf);refine .go ?_;(conv=>whnf);refine BI Cb ?_;exact AA wk h
  rintro next4 i2 x5 _ K3 hii2 hxi2 hwi2 h hK6;(conv=>whnf);refine .go ?_;(conv=>whnf);refine BD (CQ hii2) ?_;(conv=>whnf);refine .go ?_;refine⟨BF (f:=JAA.toD) hii2,JAA.toD x5,hxi2,rfl,?_⟩;revert h;refine AG (fun v7=>⟨y4 a0::dd 10 (y4 a0::yi (a0.length:Int)::yi (i2:Int)::dd 18 (yb v7::dd 47 ([]))),nn 80 ([])⟩) ?_ ?_
  ·intro k8 h;obtain⟨v9,g10,h⟩:=AB h;refine⟨_,_,some [],Bl g10,?_⟩;refine sJ h (fun h=>AA wk h) fun h=>?_;obtain⟨v11,g12,h⟩:=AB h;refine⟨_,_,some [],Bl g12,?_⟩;refine sJ h (fun h=>AA wk h) fun h=>?_;refine⟨x5.Data.length,X10 _,?_⟩;exact AA wk h
  rintro v7 h;(conv=>whnf);refine .go ?_;refine sJ h ?_ ?_<;>intro h
  ·(conv=>whnf);refine .inl ?_;refine⟨rfl,?_⟩;cases h;exact⟨rfl,rfl⟩
  refine⟨_,hwi2,?_⟩;exact hK6 _ _ wk h
 rintro _ h;refine⟨a0.length,X10 _,?_⟩;revert h;refine AG (fun v13=>⟨dd 6 (yO 6 D.u8 v13::dd 73 ([])),nn 6 (yR 5 1 D.u8 v13::nn 73 ([]))⟩) ?_ ?_
 ·intro k14 h;revert h;refine Ac 34 3 JAA.toD rfl (fun i15 v16=>⟨dd 6 (yO 6 D.u8 v16::dd 27 (y4 a0::yi (a0.length:Int)::yi (i15:Int)::dd 43 ([]))),nn 6 (yR 5 1 D.u8 v16::nn 73 ([]))⟩) ?_ ?_ ?_
  ·exact wk
  ·rintro v16 K17 h;(conv=>whnf);refine .go ?_;(conv=>whnf);refine BI Cb ?_;exact AA wk h
  rintro next18 i15 x19 v16 K17 hii15 hxi15 hwi15 h hK20;(conv=>whnf);refine .go ?_;(conv=>whnf);refine BD (CQ hii15) ?_;(conv=>whnf);refine .go ?_;refine⟨BF (f:=JAA.toD) hii15,JAA.toD x19,hxi15,rfl,?_⟩;(conv=>whnf);refine .inl (dO ?_);refine⟨_,As _,?_⟩;refine⟨_,As _,?_⟩;refine⟨x19.Data.length,X10 _,?_⟩;(conv=>whnf);refine cO ?_;revert h;refine AG (fun v21=>⟨dd 6 (yO 6 D.u8 v21::X::yr 8 0::dd 25 (y4 a0::yi (a0.length:Int)::yi (i15:Int)::dd 43 ([]))),nn 6 (yR 5 1 D.u8 v21::N::yB (JAA.av x19)::nn 71 ([]))⟩) ?_ ?_
  ·intro k22 h;refine sJ h ?_ ?_<;>intro h
   ·refine⟨_,As _,?_⟩;refine⟨_,As _,?_⟩;refine⟨by decide,_,rfl,?_⟩;refine⟨_,As _,?_⟩;refine⟨_,As _,?_⟩;refine⟨rfl,?_⟩;obtain⟨v23,g24,h⟩:=AB h;refine⟨rfl,Ab (f:=D.u8) (g:=D.u8) g24,_,Ag (f:=D.u8) g24,?_⟩;exact AA wk h
   refine⟨_,As _,?_⟩;refine⟨_,As _,?_⟩;refine⟨rfl,?_⟩;obtain⟨v25,g26,h⟩:=AB h;refine⟨rfl,Ab (f:=D.u8) (g:=D.u8) g26,_,Ag (f:=D.u8) g26,?_⟩;exact AA wk h
  rintro v21 h;obtain⟨v27,g28,h⟩:=AB h;refine⟨rfl,Ab (f:=D.u8) (g:=D.u8) g28,_,Ag (f:=D.u8) g28,?_⟩;refine⟨v27.length,by first | exact X10 _ | rfl | (simp only[X10];omega),?_⟩;(conv=>whnf);refine .go ?_;refine sJ h ?_ ?_<;>intro h
  ·(conv=>whnf);refine .inl ?_;refine⟨rfl,?_⟩;cases h;exact⟨rfl,rfl⟩
  refine⟨_,hwi15,?_⟩;exact hK20 _ _ wk h
 rintro v13 h;(conv=>whnf);refine .inl ?_;refine⟨rfl,?_⟩;cases h;exact⟨rfl,rfl⟩
theorem G5 {a0:Addr}{r:Bool}(h:FI a0=some r):yC wl 99 [AV.d (Addr.toD a0)] [] (.d (D.b r)) []:=by
 refine oK Tryz.f99 ⟨rfl,?_⟩;unfold FI at h;revert h;refine AG (fun v1=>⟨X::X::yb v1::dd 12 ([]),nn 15 ([])⟩) ?_ ?_
 ·intro k2 h;refine sJ h (fun h=>AA wk h) fun h=>?_;exact sJ h (fun h=>AA wk h) fun h=>AA wk h
 rintro v1 h;cases h;exact⟨rfl,rfl⟩
end Go.AX.Q19
end
