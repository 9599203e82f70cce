/-
  Texts of one proof, packed.
-/
import Derived.Test.YtbohbnpaadcfmaaGreatDoorKB5
import Derived.Test.YtbohbnpaadcfmaaGreatDoorKB7
import Derived.KernelRfl
set_option linter.all false
set_option maxRecDepth 100000
set_option maxHeartbeats 4000000
open List renaming length_map→X10,length_append→X11,length_cons→X12,length_nil→X13,mem_singleton→X14,getElem?_eq_getElem→X15,length_take→X18,mem_cons_of_mem→X19,length_replicate→X20,length_set→X21,length_singleton→X22,mem_append→X23
open Option.some renaming inj→X25
open Bool renaming and_eq_true→X27,eq_iff_iff→X28
open Nat renaming le_of_ble_eq_true→X29
section
namespace Go.AX.Q19
open Go Go.AX
theorem QC {l:List JAA}{x:JAA}(h:l.Pairwise fun a b=>ltT a b=true)(hx:DC l x.Type_=[]):(FB ltT l x).Pairwise fun a b=>ltT a b=true:=by
 have hne :∀y∈l,y.Type_≠x.Type_:=by
  unfold DC at hx
  rw[List.filter_eq_nil_iff] at hx
  exact fun y hy e=>hx y hy (by rw[beq_iff_eq];exact e)
 have h0:=h
 rw[<- List.takeWhile_append_dropWhile (p:=(ltT · x)) (l:=l),List.pairwise_append] at h
 obtain⟨h1,h2,h3⟩:=h
 have hd :∀b∈l.dropWhile (ltT · x),ltT x b=true:=by
  cases hl:l.dropWhile (ltT · x) with
  | nil=>intro b hb;simp at hb
  | cons y t=>
   have hy:ltT y x=false:=by
    have:=List.head?_dropWhile_not (ltT · x) l
    rw[hl] at this
    simpa using this
   have hyl:y∈l:=by
    have:y∈l.dropWhile (ltT · x):=by rw[hl];simp
    exact List.dropWhile_subset _ this
   have hxy:ltT x y=true:=by
    have:=hne y hyl
    unfold ltT at hy ⊢
    rw[decide_eq_false_iff_not] at hy
    exact decide_eq_true (by omega)
   rw[hl] at h2
   intro b hb
   rcases List.mem_cons.1 hb with rfl | hb
   ·exact hxy
   exact WQ _ _ _ hxy ((List.pairwise_cons.1 h2).1 b hb)
 unfold FB
 rw[List.pairwise_append]
 refine⟨h1,List.pairwise_cons.2 ⟨hd,h2⟩,fun a ha b hb=>?_⟩
 rcases List.mem_cons.1 hb with e | hb
 ·rw[e];exact Ia (ltT · x) ha
 exact h3 a ha b hb
def raw (u:JAG):List JAA:=lst0 u++((if 0<(AU true u.Announce).length then [x14 u] else [])++if 0<(AU true u.Withdraw).length then [x15 u] else [])
theorem Vy {u:JAG}(h:WrU u):(Bc u).Pairwise (fun a b=>ltT a b=true)/\∀x,x∈Bc u↔x∈raw u:=by
 have h0:(lst0 u).Pairwise (fun a b=>ltT a b=true)/\DC (lst0 u) 14=[]/\DC (lst0 u) 15=[]:=by
  unfold lst0
  by_cases ha:0<u.Announce.length
  ·rw[if_pos ha]
   obtain⟨v,_,_⟩:=h.g.a ha
   obtain⟨a14,a15,_⟩:=Xc fun x hx=>(Ie v hx).1
   exact⟨(Ob v.O).imp fun {p q} h=>by rw[Uy] at h;exact h,a14,a15⟩
  rw[if_neg ha]
  exact⟨.nil,rfl,rfl⟩
 obtain⟨s0,a14,a15⟩:=h0
 have h1:(HK u).Pairwise (fun a b=>ltT a b=true)/\DC (HK u) 15=[]/\∀x,x∈HK u↔x∈lst0 u\/x∈(if 0<(AU true u.Announce).length then [x14 u] else []):=by
  rw[Pv]
  by_cases hc:0<(AU true u.Announce).length
  ·rw[if_pos hc,if_pos hc]
   exact⟨QC s0 a14,(FX (x:=x14 u) rfl).trans a15,fun x=>by rw[D8,X14]⟩
  rw[if_neg hc,if_neg hc]
  exact⟨s0,a15,fun x=>by simp⟩
 obtain⟨s1,b15,m1⟩:=h1
 rw[MY]
 unfold raw
 by_cases hc:0<(AU true u.Withdraw).length
 ·rw[if_pos hc,if_pos hc]
  refine⟨QC s1 b15,fun x=>?_⟩
  rw[D8,m1,X23,X23,X14,or_assoc]
 rw[if_neg hc,if_neg hc]
 refine⟨s1,fun x=>?_⟩
 rw[m1,List.append_nil,X23]
theorem Zg {u:JAG}(h:WrU u){cmp:JAA->JAA->Option Int}(hc :∀a b,cmp a b=some (FT (HS a) (HS b)))(hl:(raw u).length<=1000000)(hd:H7 (raw u)):EP cmp (raw u)=some (Bc u):=by
 obtain⟨s,m⟩:=Vy h
 obtain⟨r,h1,h2,h3⟩:=NN Fe hc (l:=raw u) (by omega)
 rw[h1]
 congr 1
 refine Pz Fe (OL Fe h3 ?_) (s.imp fun {a b} q=>by rw[Uy];exact q) fun x=>?_
 ·exact ((h2.pairwise_iff fun h e=>h e.symm).2 hd).imp fun {a b} q e=>q (by simpa[HS] using e)
 rw[h2.mem_iff,m]
theorem al {u:JAG}(h:WrU u):H7 (raw u):=by
 have h0:H7 (lst0 u)/\∀x∈lst0 u,sk x=true:=by
  unfold lst0
  by_cases ha:0<u.Announce.length
  ·rw[if_pos ha]
   obtain⟨v,_,_⟩:=h.g.a ha
   exact⟨Tf v.O,fun x hx=>(Ie v hx).1⟩
  rw[if_neg ha]
  exact⟨.nil,fun x hx=>by cases hx⟩
 obtain⟨d0,k0⟩:=h0
 have hk :∀x∈lst0 u,x.Type_≠14/\x.Type_≠15:=fun x hx=>by
  have:=k0 x hx
  unfold sk at this
  simpa using this
 unfold raw H7
 rw[List.pairwise_append]
 refine⟨d0,?_,fun a ha b hb=>?_⟩
 ·split<;>split<;>simp[x14,x15]
 have k:=hk a ha
 rcases X23.1 hb with hb | hb
 ·split at hb
  ·rw[X14] at hb
   subst hb
   exact k.1
  cases hb
 split at hb
 ·rw[X14] at hb
  subst hb
  exact k.2
 cases hb
theorem JU {α:Type}(l:List α):((l.length:Int) != (([]:List α).length:Int))=!decide (l=[]):=by
 cases l with
 | nil=>rfl
 | cons x t=>
  rw[decide_eq_false (by simp),Bool.not_false,bne_iff_ne]
  simp only[X12,X13]
  omega
theorem fN (l:List JAE):EQ l []=some (decide (l=[])):=by
 unfold EQ
 rw[JU]
 cases l with
 | nil=>rfl
 | cons x t=>rw[decide_eq_false (by simp)];rfl
theorem eP (l:List JAB):ER l []=some (decide (l=[])):=by
 unfold ER
 rw[JU]
 cases l with
 | nil=>rfl
 | cons x t=>rw[decide_eq_false (by simp)];rfl
theorem eY (l:List JAF):CH l []=some (decide (l=[])):=by
 unfold CH
 rw[JU]
 cases l with
 | nil=>rfl
 | cons x t=>rw[decide_eq_false (by simp)];rfl
theorem fA (l:List JAA):CV l []=some (decide (l=[])):=by
 unfold CV
 rw[JU]
 cases l with
 | nil=>rfl
 | cons x t=>rw[decide_eq_false (by simp)];rfl
theorem Xv (a:JAD):isE a=((a.Origin==-1)&&(decide (a.Path=[])&&(Addr.eqd a.Next zAd&&((a.MED==-1)&&((a.Pref==-1)&&((a.OTC==-1)&&(decide (a.Communities=[])&&(decide (a.JAF=[])&&decide (a.Other=[]))))))))):=by
 have h:=XI a
 unfold Dq at h
 have e :∀x:Bool,cond true x false=x:=fun x=>rfl
 rw[AB,show eA.Path=[] from rfl,show eA.Communities=[] from rfl,show eA.JAF=[] from rfl,show eA.Other=[] from rfl,fN,AA,eP,AA,eY,AA,fA,AA] at h
 have h2:(if (a.Origin==-1)=true then if decide (a.Path=[])=true then if Addr.eqd a.Next zAd=true then if (a.MED==-1)=true then if (a.Pref==-1)=true then if (a.OTC==-1)=true then if decide (a.Communities=[])=true then if decide (a.JAF=[])=true then some (decide (a.Other=[])) else some false else some false else some false else some false else some false else some false else some false else some false)=some (isE a):=h
 generalize isE a=r at h2 ⊢
 generalize (a.Origin==-1)=c1 at h2 ⊢
 generalize decide (a.Path=[])=c2 at h2 ⊢
 generalize Addr.eqd a.Next zAd=c3 at h2 ⊢
 generalize (a.MED==-1)=c4 at h2 ⊢
 generalize (a.Pref==-1)=c5 at h2 ⊢
 generalize (a.OTC==-1)=c6 at h2 ⊢
 generalize decide (a.Communities=[])=c7 at h2 ⊢
 generalize decide (a.JAF=[])=c8 at h2 ⊢
 generalize decide (a.Other=[])=c9 at h2 ⊢
 cases c1<;>cases c2<;>cases c3<;>cases c4<;>cases c5<;>cases c6<;>cases c7<;>cases c8<;>simpa using h2.symm
theorem TY (a:JAD):isE a=true↔a=eA:=by
 constructor
 ·intro h
  rw[Xv] at h
  simp only[X27,beq_iff_eq,decide_eq_true_eq] at h
  obtain⟨h1,h2,h3,h4,h5,h6,h7,h8,h9⟩:=h
  have h3:=(Addr.eqd_iff _ _).1 h3
  obtain⟨a1,a2,a3,a4,a5,a6,a7,a8,a9⟩:=a
  dsimp only at *
  subst h1 h2 h3 h4 h5 h6 h7 h8 h9
  rfl
 rintro rfl
 have:=XI eA
 rw[ZJ] at this
 exact (X25 this).symm
theorem fJ:VA eA:=OD.1 (by decide)
theorem dU:wrS eA=[]:=by
 unfold wrS
 rw[List.flatMap_eq_nil_iff]
 intro k _
 have:G eA (k:Int)=none:=by
  unfold G
  have n1:¬ (eA.Origin≠-1):=fun q=>q rfl
  have n2:¬ (eA.Origin≠-1\/eA.Path≠[]):=fun q=>q.elim (fun q=>q rfl) fun q=>q rfl
  have n3:¬ (Fj eA=true):=by decide
  have n4:¬ (eA.MED≠-1):=fun q=>q rfl
  have n5:¬ (eA.Pref≠-1):=fun q=>q rfl
  have n6:¬ (eA.Communities≠[]):=fun q=>q rfl
  have n7:¬ (eA.JAF≠[]):=fun q=>q rfl
  have n8:¬ (eA.OTC≠-1):=fun q=>q rfl
  rw[if_neg n1,if_neg n2,if_neg n3,if_neg n4,if_neg n5,if_neg n6,if_neg n7,if_neg n8]
  simp only[ite_self]
 unfold ent
 rw[this]
 rfl
theorem dL {x y:Nat}(hx:x<2^56):x ||| 2^56*y=2^56*y+x:=by
 rw[Nat.or_comm]
 exact (Nat.two_pow_add_eq_or_of_lt hx y).symm
theorem an (lo hi:UInt64):(AW ((BitVec.ofInt 64 ((AW (Int.fdiv (lo.toNat:Int) (2^(min (Int.toNat 8) 64)))).toNat:Int) ||| BitVec.ofInt 64 ((AW ((hi.toNat:Int)*(2^(min (Int.toNat 56) 64)))).toNat:Int)).toNat:Int)).toNat=2^56*(hi.toNat%256)+lo.toNat/256/\
  (AW (Int.fdiv (hi.toNat:Int) (2^(min (Int.toNat 8) 64)))).toNat=hi.toNat/256:=by
 have hl:=lo.toNat_lt
 have hh:=hi.toNat_lt
 have e1:Int.fdiv (lo.toNat:Int) (2^(min (Int.toNat 8) 64))=((lo.toNat/256:Nat):Int):=fd lo.toNat 8
 have e2:Int.fdiv (hi.toNat:Int) (2^(min (Int.toNat 8) 64))=((hi.toNat/256:Nat):Int):=fd hi.toNat 8
 have e3:((hi.toNat:Int)*(2^(min (Int.toNat 56) 64)))=((hi.toNat*2^56:Nat):Int):=by
  rw[Int.natCast_mul]
  rfl
 rw[e1,e2,e3,BV,BV,BV,BV]
 have f1:(UInt64.ofNat (lo.toNat/256)).toNat=lo.toNat/256:=by rw[UInt64.toNat_ofNat'];omega
 have f2:(UInt64.ofNat (hi.toNat/256)).toNat=hi.toNat/256:=by rw[UInt64.toNat_ofNat'];omega
 have f3:(UInt64.ofNat (hi.toNat*2^56)).toNat=2^56*(hi.toNat%256):=by rw[UInt64.toNat_ofNat'];omega
 refine⟨?_,f2⟩
 rw[f1,f3,BitVec.ofInt_natCast,BitVec.ofInt_natCast,BitVec.toNat_or,BitVec.toNat_ofNat,BitVec.toNat_ofNat,Nat.mod_eq_of_lt (by omega),Nat.mod_eq_of_lt (by omega),dL (by omega),UInt64.toNat_ofNat']
 omega
theorem bT (x:Addr)(b:Bool):(Addr.n ⟨b,AW (Int.fdiv (x.Hi.toNat:Int) (2^(min (Int.toNat 8) 64))),AW ((BitVec.ofInt 64 ((AW (Int.fdiv (x.Lo.toNat:Int) (2^(min (Int.toNat 8) 64)))).toNat:Int) ||| BitVec.ofInt 64 ((AW ((x.Hi.toNat:Int)*(2^(min (Int.toNat 56) 64)))).toNat:Int)).toNat:Int)⟩)=x.n/256:=by
 obtain⟨s1,s2⟩:=an x.Lo x.Hi
 unfold Addr.n
 rw[s1,s2]
 have hl:=x.Lo.toNat_lt
 omega
theorem Zx (x:Addr):Aa (x.Lo.toNat:Int)=UInt8.ofNat x.n:=by
 rw[BZ]
 apply Wb
 unfold Addr.n
 omega
theorem KF {a:Addr}(h:a.ok=true):BQ a=some (byB a):=by
 have hB:=(GL h).2
 have hL:a.L=16\/a.L=4:=by unfold Addr.L;split<;>omega
 unfold BQ
 rw[Ef,AA,h,if_neg (by decide),AB]
 have key :∀n:Int,n=a.L->(Option.bind (chk (0<=n/\n<=n/\n<=1048576)) fun _=>
  AC (τ:=(List UInt8)) (fun k4=>
   A7 (σ:=Int×Addr×(List UInt8)) (fun next5 (v6,v7,v8)=>
    if (decide (v6 ≥ 0)) then
     Option.bind (geti v8 v6) fun v9=>
     Option.bind (seti v8 v6 (Aa (v7.Lo.toNat:Int))) fun v10=>
     next5 ((AI (v6-1)),(⟨v7.V6,(AW (Int.fdiv (v7.Hi.toNat:Int) (2^(min (Int.toNat 8) 64)))),(AW ((BitVec.ofInt 64 ((AW (Int.fdiv (v7.Lo.toNat:Int) (2^(min (Int.toNat 8) 64)))).toNat:Int) ||| BitVec.ofInt 64 ((AW ((v7.Hi.toNat:Int)*(2^(min (Int.toNat 56) 64)))).toNat:Int)).toNat:Int))⟩:Addr),v10)
    else
     k4 v8
   ) fuel ((AI (n-1)),a,(List.replicate (Int.toNat n) (0:UInt8)))
  ) fun v11=>
  some v11)=some (byB a):=by
  intro n hn
  have ck:chk (0<=n/\n<=n/\n<=1048576)=some ():=by unfold chk;rw[if_pos (by omega)]
  rw[ck,AA,AB]
  refine (Da (fun s:Int×Addr×List UInt8=>∃j:Nat,j<=a.L/\s.1=(a.L:Int)-1-(j:Int)/\s.2.1.n=a.n/256^j/\s.2.2.length=a.L/\∀k,a.L-j<=k->k<a.L->s.2.2[k]?=some (Ky a (a.L-1-k))) (fun s=>(s.1+1).toNat) (fun s=>some (byB a)) ?_ fuel (AI (n-1),a,List.replicate (Int.toNat n) (0:UInt8)) ?_ ?_).trans rfl
  ·rintro next ⟨i,x,l⟩ ⟨j,hj,h1,h2,h3,h4⟩ hk
   dsimp only at h1 h2 h3 h4 ⊢
   subst h1
   rcases (by omega:j=a.L\/j<a.L) with e | hlt
   ·rw[if_neg (by simp only[decide_eq_true_eq];omega)]
    congr 1
    apply List.ext_getElem?
    intro k
    by_cases q:k<a.L
    ·rw[h4 k (by omega) q,XR h q]
    rw[List.getElem?_eq_none (by omega),List.getElem?_eq_none (by omega)]
   obtain⟨y,hy,_⟩:=Ok.geti (l:=l) (i:=(a.L:Int)-1-(j:Int)) (by omega)
   have hs:seti l ((a.L:Int)-1-(j:Int)) (Aa (x.Lo.toNat:Int))=some (l.set (a.L-1-j) (UInt8.ofNat x.n)):=by
    unfold seti
    rw[if_pos (by omega),Zx]
    congr 2
    omega
   rw[if_pos (by simp only[decide_eq_true_eq];omega),hy,AA,hs,AA,AP (by omega)]
   refine hk _ ⟨j+1,by omega,by dsimp only;omega,?_,by dsimp only;rw[X21];exact h3,?_⟩ (by dsimp only;omega)
   ·dsimp only
    rw[bT,h2,Nat.div_div_eq_div_mul,Nat.pow_succ]
   dsimp only
   intro k k1 k2
   rw[List.getElem?_set]
   by_cases q:a.L-1-j=k
   ·rw[if_pos q,if_pos (by omega),<- q]
    have e2:a.L-1-(a.L-1-j)=j:=by omega
    rw[e2,h2]
    unfold Ky
    rw[Nat.pow_mul]
   rw[if_neg q]
   exact h4 k (by omega) k2
  ·refine⟨0,by omega,by dsimp only;rw[AP (by omega)];omega,by simp,?_,fun k k1 k2=>by omega⟩
   dsimp only
   rw[X20]
   omega
  dsimp only
  rw[AP (by omega)]
  exact CE (by omega)
 unfold Addr.L at key
 by_cases h6:a.V6=true
 ·rw[if_pos h6]
  rw[if_pos h6] at key
  exact key 16 rfl
 rw[if_neg h6]
 rw[if_neg h6] at key
 exact key 4 rfl
theorem di (d:List UInt8)(h:d.length<=2048):(Bn [⟨128,15,d⟩]).2=0/\(Bn [⟨128,15,d⟩]).1=A6 [⟨128,15,d⟩]\/2044<d.length:=by
 by_cases q:2044<d.length
 ·exact .inr q
 left
 have hj:A6 [⟨128,15,d⟩]=Ir ⟨128,15,d⟩:=by unfold A6;rw[List.flatMap_cons,List.flatMap_nil,List.append_nil]
 have hl:=QA ⟨128,15,d⟩
 have hk:([⟨128,15,d⟩]:List JAA).all okJ=true:=by
  unfold okJ
  simp only[List.all_cons,List.all_nil,Bool.and_true]
  simp
  omega
 dsimp only at hl
 unfold Bn
 rw[if_pos hk,hj,if_neg (by omega)]
 exact⟨rfl,rfl⟩
theorem dB {l:List JAC}(h :∀p∈l,Du p)(hl:l.length<=40):Gl ⟨l,eA,[]⟩=true:=by
 have c1:=BD (six:=true) h
 have c2:=BD (six:=false) h
 have hlen :∀a:List UInt8,(DU ⟨l,eA,[]⟩ a).length=4+(AU false l).length+a.length:=fun a=>by
  unfold DU
  have t :∀n,(two n).length=2:=fun n=>rfl
  have z:(AU false ([]:List JAC)).length=0:=rfl
  simp only[X11,t]
  rw[z]
  omega
 have e2:Bc ⟨l,eA,[]⟩=if 0<(AU true l).length then [x15 ⟨l,eA,[]⟩] else []:=by
  rw[MY,Pv]
  rfl
 have hp:(EH ⟨l,eA,[]⟩).2=0/\(EH ⟨l,eA,[]⟩).1.length<=4077:=by
  unfold EH
  rw[e2]
  split
  ·have hd:(x15 ⟨l,eA,[]⟩).Data.length=3+(AU true l).length:=by unfold x15;simp only[X11,X12,X13]
   have hx:x15 ⟨l,eA,[]⟩=⟨128,15,(x15 ⟨l,eA,[]⟩).Data⟩:=rfl
   rw[hx]
   rcases di (x15 ⟨l,eA,[]⟩).Data (by omega) with ⟨j1,j2⟩|q
   ·rw[j1,if_neg (by decide)]
    refine⟨rfl,?_⟩
    dsimp only
    rw[hlen,j2]
    have:=QA (x15 ⟨l,eA,[]⟩)
    have e:A6 [⟨128,15,(x15 ⟨l,eA,[]⟩).Data⟩]=Ir (x15 ⟨l,eA,[]⟩):=by unfold A6;rw[List.flatMap_cons,List.flatMap_nil,List.append_nil];rfl
    rw[e]
    omega
   omega
  have j:Bn []=([],0):=rfl
  rw[j,if_neg (by decide)]
  refine⟨rfl,?_⟩
  dsimp only
  rw[hlen,X13]
  omega
 have hE:isE eA=true:=(TY eA).2 rfl
 unfold Gl XC
 rw[hp.1]
 dsimp only
 rw[decide_eq_true (p:=l.length<=256) (by omega),List.append_nil,List.all_eq_true.2 (fun p hp=>(Is p).2.2 (h p hp)),hE,decide_eq_true (p:=(EH ⟨l,eA,[]⟩).1.length<=4077) hp.2]
 rfl
theorem W6 {lo:UInt64}(h:lo.toNat<4294967296):(⟨false,0,lo⟩:Addr).ok=true:=
 YK (x:=(((0:UInt64).toNat:Int)==0)) (y:=decide ((lo.toNat:Int)<4294967296)) (by simp) (decide_eq_true (by omega))
theorem ok6 (hi lo:UInt64):(⟨true,hi,lo⟩:Addr).ok=true:=by unfold Addr.ok;simp only[cond_true]
theorem O1 {x:Int}(h0:0<=x)(h1:x<4294967296):(AW x).toNat<4294967296:=by
 obtain⟨k,rfl⟩ :∃k:Nat,x=k:=⟨x.toNat,by omega⟩
 rw[BV]
 simp only[UInt64.toNat_ofNat']
 omega
theorem Pq {d:JAI}(hd:Dk d):Ok (Es d) fun r=>r.1.ok=true/\Dk r.2:=by
 unfold Es
 refine .bind (AM hd (by omega)) ?_
 rintro⟨c,d⟩ ⟨c1,c2,hd⟩
 dsimp only at c1 c2 hd ⊢
 refine .ite (fun _=>.bind (AM hd (by omega)) ?_) fun _=>.ite (fun _=>.bind (AM hd (by omega)) ?_) fun _=>.ite (fun _=>.bind (AM hd (by omega)) ?_) fun _=>.ite (fun _=>.bind (AM hd (by omega)) ?_) fun _=>.ite (fun _=>.bind (AM hd (by omega)) ?_) fun _=>.bind (AM hd (by omega)) ?_
 ·rintro⟨v,d⟩ ⟨v1,v2,hd⟩
  dsimp only at v1 v2 hd ⊢
  refine .bind (AM hd (by omega)) ?_
  rintro⟨u,d⟩ ⟨u1,u2,hd⟩
  dsimp only at u1 u2 hd ⊢
  refine .ret ⟨W6 ?_,hd⟩
  have e1:v*(2^(min (Int.toNat 8) 64))=v*256:=rfl
  rw[e1,AP (x:=v*256) (by omega),AP (x:=167772160+v*256) (by omega),AP (by omega)]
  exact O1 (by omega) (by omega)
 ·rintro⟨v,d⟩ ⟨v1,v2,hd⟩
  dsimp only at v1 v2 hd ⊢
  refine .bind (AM hd (by omega)) ?_
  rintro⟨u,d⟩ ⟨u1,u2,hd⟩
  exact .ret ⟨ok6 _ _,hd⟩
 ·rintro⟨v,d⟩ ⟨v1,v2,hd⟩
  dsimp only at v1 v2 hd ⊢
  refine .bind (.geti (by simp;omega)) fun x hx=>.ret ⟨W6 ?_,hd⟩
  have:=hx.1
  simp only[List.mem_cons,List.not_mem_nil,or_false] at this
  rcases this with rfl | rfl | rfl | rfl | rfl<;>decide
 ·rintro⟨v,d⟩ ⟨v1,v2,hd⟩
  dsimp only at v1 v2 hd ⊢
  refine .bind (.geti (by simp;omega)) fun x hx=>.bind (AM hd (by omega)) ?_
  rintro⟨u,d⟩ ⟨u1,u2,hd⟩
  dsimp only at u1 u2 hd ⊢
  exact .bind (.geti (by simp;omega)) fun y hy=>.ret ⟨ok6 _ _,hd⟩
 ·rintro⟨v,d⟩ ⟨v1,v2,hd⟩
  dsimp only at v1 v2 hd ⊢
  refine .bind (AM hd (by omega)) ?_
  rintro⟨u,d⟩ ⟨u1,u2,hd⟩
  dsimp only at u1 u2 hd ⊢
  refine .bind (AM hd (by omega)) ?_
  rintro⟨u,d⟩ ⟨u1,u2,hd⟩
  dsimp only at u1 u2 hd ⊢
  refine .bind (AM hd (by omega)) ?_
  rintro⟨u,d⟩ ⟨u1,u2,hd⟩
  exact .ret ⟨ok6 _ _,hd⟩
 rintro⟨v,d⟩ ⟨v1,v2,hd⟩
 dsimp only at v1 v2 hd ⊢
 exact .ret ⟨W6 (O1 (by omega) (by omega)),hd⟩
theorem IJ {d:JAI}(hd:Dk d):Ok (Db d) fun r=>Du r.1/\Dk r.2:=by
 unfold Db
 refine .bind (Pq hd) ?_
 rintro⟨a,d⟩ ⟨ha,hd⟩
 dsimp only at ha hd ⊢
 rw[Ii]
 have hw:(if a.V6=true then (128:Int) else 32)=a.w:=by unfold Addr.w;split<;>rfl
 have hwb:a.w=128\/a.w=32:=by unfold Addr.w;split<;>simp
 rw[hw]
 refine .bind (AM hd (by omega)) ?_
 rintro⟨c,d⟩ ⟨c1,c2,hd⟩
 dsimp only at c1 c2 hd ⊢
 refine .join (fun p:Int×JAI=>(0<=p.1/\p.1<=a.w)/\Dk p.2) (fun k hk=>?_) ?_
 ·refine .ite (fun _=>?_) fun _=>?_
  ·rw[AP (x:=(a.w:Int)+1) (by omega)]
   refine .bind (AM hd (by omega)) ?_
   rintro⟨v,d⟩ ⟨v1,v2,hd⟩
   exact hk _ ⟨by simp only at v1 v2 ⊢;omega,hd⟩
  refine .join (fun p:Int×JAI=>(0<=p.1/\p.1<=a.w)/\Dk p.2) (fun k2 hk2=>.ite (fun _=>.bind (AM hd (by omega)) ?_) fun _=>?_) ?_
  ·rintro⟨v,d⟩ ⟨v1,v2,hd⟩
   dsimp only at v1 v2 hd ⊢
   rw[AP (by omega)]
   exact hk2 _ ⟨by simp only;omega,hd⟩
  ·refine .join (fun p:Int×JAI=>(0<=p.1/\p.1<=a.w)/\Dk p.2) (fun k3 hk3=>.ite (fun _=>.bind (AM hd (by omega)) ?_) fun _=>hk3 _ ⟨by simp only;omega,hd⟩) ?_
   ·rintro⟨v,d⟩ ⟨v1,v2,hd⟩
    dsimp only at v1 v2 hd ⊢
    refine .bind (.geti (by simp;omega)) fun x hx=>hk3 _ ⟨?_,hd⟩
    have:=hx.1
    simp only[List.mem_cons,List.not_mem_nil,or_false] at this
    simp only
    rcases this with rfl | rfl | rfl | rfl | rfl<;>omega
   rintro⟨v,d⟩ h;exact hk2 _ h
  rintro⟨v,d⟩ h;exact hk _ h
 rintro⟨v,d⟩ ⟨⟨v1,v2⟩,hd⟩
 dsimp only at v1 v2 hd ⊢
 obtain⟨r,e,h1,h2⟩:=IY a v
 rw[h1,AA]
 rcases h2 with ⟨_,rfl,rfl⟩|⟨h3,_⟩
 ·exact .ret ⟨Zo ha v1 v2,hd⟩
 exact absurd ⟨ha,v1,v2⟩ h3
def WrJ {ρ:Type}(a:JAD)(K:Int×List JAA->Option ρ):Option ρ:=
 AC (τ:=Int×(List JAA)) (fun k1=>
  Option.bind (DO a) fun v2=>
  if (!v2) then
   k1 (1,[])
  else
   AC (τ:=(List JAA)) (fun k3=>
    AC (τ:=(List JAA)) (fun k4=>
     if (a.Origin != (-1)) then
      Option.bind (some (Option.getD (BC Bz 1) 0)) fun v5=>
      Option.bind (apnd (α:=JAA) 40 [] ([(⟨v5,1,([(Aa a.Origin)]:List UInt8)⟩:JAA)]:List JAA)) fun _=>
      k4 ([(⟨v5,1,([(Aa a.Origin)]:List UInt8)⟩:JAA)]:List JAA)
     else
      k4 []
    ) fun v6=>
    k3 v6
   ) fun v7=>
   AC (τ:=(List JAA)) (fun k8=>
    if (a.Origin != (-1)) then
     Option.bind (Bh a.Path) fun v9=>
     AC (τ:=(List JAA)) (fun k10=>
      Option.bind (some (Option.getD (BC Bz 2) 0)) fun v11=>
      Option.bind (apnd (α:=JAA) 40 v7 ([(⟨v11,2,v9⟩:JAA)]:List JAA)) fun v12=>
      k10 v12
     ) fun v13=>
     k8 v13
    else
     Option.bind (Bh a.Path) fun v14=>
     AC (τ:=(List JAA)) (fun k15=>
      AC (τ:=(List JAA)) (fun k16=>
       if (cond false true (decide ((a.Path.length:Int) > 0))) then
        Option.bind (some (Option.getD (BC Bz 2) 0)) fun v17=>
        Option.bind (apnd (α:=JAA) 40 v7 ([(⟨v17,2,v14⟩:JAA)]:List JAA)) fun v18=>
        k16 v18
       else
        k16 v7
      ) fun v19=>
      k15 v19
     ) fun v20=>
     k8 v20
   ) fun v21=>
   AC (τ:=(List JAA)) (fun k22=>
    if (!a.Next.V6) then
     Option.bind (BQ a.Next) fun v23=>
     AC (τ:=(List JAA)) (fun k24=>
      AC (τ:=(List JAA)) (fun k25=>
       if (cond true (!(Addr.eqd a.Next (⟨false,(0:UInt64),(0:UInt64)⟩:Addr))) false) then
        Option.bind (some (Option.getD (BC Bz 3) 0)) fun v26=>
        Option.bind (apnd (α:=JAA) 40 v21 ([(⟨v26,3,v23⟩:JAA)]:List JAA)) fun v27=>
        k25 v27
       else
        k25 v21
      ) fun v28=>
      k24 v28
     ) fun v29=>
     k22 v29
    else
     Option.bind (BQ a.Next) fun v30=>
     AC (τ:=Unit) (fun k31=>
      k31 ()
     ) fun _=>
     k22 v21
   ) fun v32=>
   Option.bind (BL ([a.MED]:List Int)) fun v33=>
   AC (τ:=(List JAA)) (fun k34=>
    AC (τ:=(List JAA)) (fun k35=>
     if (a.MED != (-1)) then
      Option.bind (some (Option.getD (BC Bz 4) 0)) fun v36=>
      Option.bind (apnd (α:=JAA) 40 v32 ([(⟨v36,4,v33⟩:JAA)]:List JAA)) fun v37=>
      k35 v37
     else
      k35 v32
    ) fun v38=>
    k34 v38
   ) fun v39=>
   Option.bind (BL ([a.Pref]:List Int)) fun v40=>
   AC (τ:=(List JAA)) (fun k41=>
    AC (τ:=(List JAA)) (fun k42=>
     if (a.Pref != (-1)) then
      Option.bind (some (Option.getD (BC Bz 5) 0)) fun v43=>
      Option.bind (apnd (α:=JAA) 40 v39 ([(⟨v43,5,v40⟩:JAA)]:List JAA)) fun v44=>
      k42 v44
     else
      k42 v39
    ) fun v45=>
    k41 v45
   ) fun v46=>
   Option.bind (B6 a.Communities) fun v47=>
   AC (τ:=(List JAA)) (fun k48=>
    AC (τ:=(List JAA)) (fun k49=>
     if (decide ((a.Communities.length:Int) > 0)) then
      Option.bind (some (Option.getD (BC Bz 8) 0)) fun v50=>
      Option.bind (apnd (α:=JAA) 40 v46 ([(⟨v50,8,v47⟩:JAA)]:List JAA)) fun v51=>
      k49 v51
     else
      k49 v46
    ) fun v52=>
    k48 v52
   ) fun v53=>
   Option.bind (Dw a.JAF) fun v54=>
   AC (τ:=(List JAA)) (fun k55=>
    AC (τ:=(List JAA)) (fun k56=>
     if (decide ((a.JAF.length:Int) > 0)) then
      Option.bind (some (Option.getD (BC Bz 32) 0)) fun v57=>
      Option.bind (apnd (α:=JAA) 40 v53 ([(⟨v57,32,v54⟩:JAA)]:List JAA)) fun v58=>
      k56 v58
     else
      k56 v53
    ) fun v59=>
    k55 v59
   ) fun v60=>
   Option.bind (BL ([a.OTC]:List Int)) fun v61=>
   AC (τ:=(List JAA)) (fun k62=>
    AC (τ:=(List JAA)) (fun k63=>
     if (a.OTC != (-1)) then
      Option.bind (some (Option.getD (BC Bz 35) 0)) fun v64=>
      Option.bind (apnd (α:=JAA) 40 v60 ([(⟨v64,35,v61⟩:JAA)]:List JAA)) fun v65=>
      k63 v65
     else
      k63 v60
    ) fun v66=>
    k62 v66
   ) fun v67=>
   AC (τ:=(List JAA)) (fun k68=>
    An (σ:=(List JAA)) (fun v69=>
     k68 v69
    ) (fun next70 (x71:JAA) i72 v69=>
     Option.bind (A8 x71.Data) fun v73=>
     Option.bind (apnd (α:=JAA) 40 v69 ([{ x71 with Data:=v73 }]:List JAA)) fun v74=>
     next70 v74
    ) a.Other 0 v67
   ) fun v75=>
   Option.bind (EP DL v75) fun v76=>
   k1 (0,v76)
 ) K
theorem W7 {a:JAD}(v:VA a){ρ:Type}(K:Int×List JAA->Option ρ):WrJ a K=K (0,wrS a):=by
 have hs:=G5 v.p
 have hc:=(Ez.1 v.c)
 have hl:=(FD.1 v.l).2.2
 unfold WrJ
 rw[AB,QK v.sm,AA,OD.2 v,if_neg (by decide)]
 have s1 :∀{ρ:Type} (q:List JAA->Option ρ),AC (τ:=(List JAA)) (fun k2=>
   AC (τ:=(List JAA)) (fun k3=>
    if (a.Origin != (-1))=true then
     Option.bind (some (Option.getD (BC Bz 1) 0)) fun v4=>
     Option.bind (apnd (α:=JAA) 40 [] ([(⟨v4,1,([(Aa a.Origin)]:List UInt8)⟩:JAA)]:List JAA)) fun _=>
     k3 ([(⟨v4,1,([(Aa a.Origin)]:List UInt8)⟩:JAA)]:List JAA)
    else
     k3 []
   ) fun v5=>
   k2 v5
  ) q=q (ent a 1):=by
  intro ρ q
  have hG:G a 1=if a.Origin≠-1 then some [Aa a.Origin] else none:=rfl
  unfold ent
  rw[AB,AB,LJ,hG]
  by_cases h:a.Origin=-1
  ·rw[if_neg (by simp[h]),if_neg (by simp[h])]
  rw[if_pos (by simpa using h),if_pos h,AA,AO (by decide) (by simp),AA]
 rw[s1]
 have hpath:Bh a.Path=some (F9 a.Path):=ZM (by omega)
 have s2 :∀{ρ:Type} (w:List JAA) (hw:w.length<=1) (q:List JAA->Option ρ),AC (τ:=(List JAA)) (fun k7=>
   if (a.Origin != (-1))=true then
    Option.bind (Bh a.Path) fun v8=>
    AC (τ:=(List JAA)) (fun k9=>
     Option.bind (some (Option.getD (BC Bz 2) 0)) fun v10=>
     Option.bind (apnd (α:=JAA) 40 w ([(⟨v10,2,v8⟩:JAA)]:List JAA)) fun v11=>
     k9 v11
    ) fun v12=>
    k7 v12
   else
    Option.bind (Bh a.Path) fun v13=>
    AC (τ:=(List JAA)) (fun k14=>
     AC (τ:=(List JAA)) (fun k15=>
      if (cond false true (decide ((a.Path.length:Int) > 0)))=true then
       Option.bind (some (Option.getD (BC Bz 2) 0)) fun v16=>
       Option.bind (apnd (α:=JAA) 40 w ([(⟨v16,2,v13⟩:JAA)]:List JAA)) fun v17=>
       k15 v17
      else
       k15 w
     ) fun v18=>
     k14 v18
    ) fun v19=>
    k7 v19
  ) q=q (w++ent a 2):=by
  intro ρ w hw q
  have hG:G a 2=if a.Origin≠-1\/a.Path≠[] then some (F9 a.Path) else none:=rfl
  have e:(a.Path≠[])↔0<a.Path.length:=List.length_pos_iff.symm
  unfold ent
  rw[AB,hpath,LJ,hG]
  by_cases h:a.Origin=-1
  ·rw[if_neg (by simp[h]),AA,AB,AB,cond_false]
   by_cases h2:0<a.Path.length
   ·rw[if_pos (by simp only[decide_eq_true_eq];omega),if_pos (.inr (e.2 h2)),AA,AO (by decide) (by simp;omega),AA]
   rw[if_neg (by simp only[decide_eq_true_eq];omega),if_neg (by rw[e];omega),List.append_nil]
  rw[if_pos (by simpa using h),if_pos (.inl h),AA,AB,AA,AO (by decide) (by simp;omega),AA]
 have l1:=Gz a 1
 have l2:=Gz a 2
 have l3:=Gz a 3
 have l4:=Gz a 4
 have l5:=Gz a 5
 have l8:=Gz a 8
 have l32:=Gz a 32
 refine (s2 _ (by omega) _).trans ?_
 have s3 :∀{ρ:Type} (w:List JAA) (hw:w.length<=2) (q:List JAA->Option ρ),AC (τ:=(List JAA)) (fun k21=>
   if (!a.Next.V6)=true then
    Option.bind (BQ a.Next) fun v22=>
    AC (τ:=(List JAA)) (fun k23=>
     AC (τ:=(List JAA)) (fun k24=>
      if (cond true (!(Addr.eqd a.Next (⟨false,(0:UInt64),(0:UInt64)⟩:Addr))) false)=true then
       Option.bind (some (Option.getD (BC Bz 3) 0)) fun v25=>
       Option.bind (apnd (α:=JAA) 40 w ([(⟨v25,3,v22⟩:JAA)]:List JAA)) fun v26=>
       k24 v26
      else
       k24 w
     ) fun v27=>
     k23 v27
    ) fun v28=>
    k21 v28
   else
    Option.bind (BQ a.Next) fun v29=>
    AC (τ:=Unit) (fun k30=>
     k30 ()
    ) fun _=>
    k21 w
  ) q=q (w++ent a 3):=by
  intro ρ w hw q
  have hG:G a 3=if Fj a=true then some (b4 a.Next.Lo.toNat) else none:=rfl
  unfold ent
  rw[AB,LJ,hG]
  unfold Fj
  cases h6:a.Next.V6
  ·rw[if_pos (by rfl),Wj v.n h6,AA,AB,AB]
   cases Addr.eqd a.Next ⟨false,0,0⟩
   ·rw[if_pos (by rfl),if_pos (by rfl),AA,AO (by decide) (by simp;omega),AA]
   rw[if_neg (by decide),if_neg (by decide),List.append_nil]
  obtain⟨r,hr⟩:=Zy a.Next
  rw[if_neg (by decide),hr,AA,AB,if_neg (by simp),List.append_nil]
 refine (s3 _ (by rw[X11];omega) _).trans ?_
 rw[MH,AA]
 have en :∀(k:Int) (c:Bool) (d:List UInt8),G a k=(if c=true then some d else none)->(if c=true then [(⟨fl k,k,d⟩:JAA)] else [])=ent a k:=by
  intro k c d h
  unfold ent
  rw[h]
  cases c<;>rfl
 have c4:G a 4=if (a.MED != (-1))=true then some (w4 a.MED) else none:=by
  have:G a 4=if a.MED≠-1 then some (w4 a.MED) else none:=rfl
  rw[this];simp only[bne_iff_ne]
 have c5:G a 5=if (a.Pref != (-1))=true then some (w4 a.Pref) else none:=by
  have:G a 5=if a.Pref≠-1 then some (w4 a.Pref) else none:=rfl
  rw[this];simp only[bne_iff_ne]
 have c35:G a 35=if (a.OTC != (-1))=true then some (w4 a.OTC) else none:=by
  have:G a 35=if a.OTC≠-1 then some (w4 a.OTC) else none:=rfl
  rw[this];simp only[bne_iff_ne]
 have c8:G a 8=if decide ((a.Communities.length:Int) > 0)=true then some (a.Communities.flatMap Ht) else none:=by
  have:G a 8=if a.Communities≠[] then some (a.Communities.flatMap Ht) else none:=rfl
  rw[this]
  cases a.Communities with
  | nil=>rfl
  | cons x t=>rw[if_pos (by simp),if_pos (by simp)]
 have c32:G a 32=if decide ((a.JAF.length:Int) > 0)=true then some (a.JAF.flatMap GV) else none:=by
  have:G a 32=if a.JAF≠[] then some (a.JAF.flatMap GV) else none:=rfl
  rw[this]
  cases a.JAF with
  | nil=>rfl
  | cons x t=>rw[if_pos (by simp),if_pos (by simp)]
 refine (aF (f:=fl 4) rfl (by simp only[X11];omega)).trans ?_
 rw[en 4 _ _ c4,MH,AA]
 refine (aF (f:=fl 5) rfl (by simp only[X11];omega)).trans ?_
 rw[en 5 _ _ c5,Wp hc.1 (by omega),AA]
 refine (aF (f:=fl 8) rfl (by simp only[X11];omega)).trans ?_
 rw[en 8 _ _ c8,W8 (by omega),AA]
 refine (aF (f:=fl 32) rfl (by simp only[X11];omega)).trans ?_
 rw[en 32 _ _ c32,MH,AA]
 refine (aF (f:=fl 35) rfl (by simp only[X11];omega)).trans ?_
 rw[en 35 _ _ c35]
 have l35:=Gz a 35
 refine (eI (by have:=v.e;omega) v.sm.d (by simp only[X11];omega)).trans ?_
 have e:ent a 1++ent a 2++ent a 3++ent a 4++ent a 5++ent a 8++ent a 32++ent a 35++a.Other=Pg a:=by
  unfold Pg OU
  simp only[List.flatMap_cons,List.flatMap_nil,List.append_nil,List.append_assoc]
 rw[e,S7 v.O (by unfold Pg;rw[X11];have:=Q3 a;have:=v.e;omega),AA]
theorem QW (p:JAC):GO p=some (Ha p):=by
 have hg:=(Is p).2
 have no:¬ Du p->some false=some (Ha p):=fun q=>by
  have:Ha p=false:=by
   rw[Bool.eq_false_iff]
   exact fun e=>q (hg.1 e)
  rw[this]
 unfold GO
 rw[AB,Ef,AA,Jj]
 simp only[AA,cond_true]
 by_cases ho:p.Addr.ok=true
 case neg=>
  rw[if_neg ho]
  exact no fun q=>ho q.1
 rw[if_pos ho]
 by_cases h0:0<=p.Len
 case neg=>
  rw[if_neg (by simpa using h0)]
  exact no fun q=>h0 q.2.1
 rw[if_pos (by simpa using h0)]
 by_cases h1:p.Len<=p.Addr.w
 case neg=>
  rw[if_neg (by simpa using h1)]
  exact no fun q=>h1 q.2.2.1
 rw[if_pos (by simpa using h1)]
 obtain⟨k,hk⟩ :∃k:Nat,p.Len=k:=⟨p.Len.toNat,by omega⟩
 have hf:=Jf p.Addr (n:=k) (by omega)
 rw[<- hk] at hf
 rw[hf,AA]
 congr 1
 rw[X28,hg,Addr.eqd_iff]
 have e:p.Len.toNat=k:=by omega
 exact⟨fun h=>⟨ho,h0,h1,by rw[e];exact h⟩,fun h=>by have:=h.2.2.2;rw[e] at this;exact this⟩
theorem JC {acc:List UInt8}{l:List JAC}(ha:acc.length<=1000000)(hl:l.length<=100000)(hg :∀p∈l,Du p)(six:Bool):DX acc l six=some (acc++AU six l):=by
 unfold DX
 rw[AB]
 refine (US (fun (t:List JAC) _ (s:List UInt8)=>s.length+17*t.length<=10000000/\∀p∈t,Du p) (fun t _ s=>some (s++AU six t)) ?_ ?_ l 0 acc ⟨by omega,hg⟩).trans rfl
 ·intro i s _
  show some s=some (s++[])
  rw[List.append_nil]
 rintro next p t i s ⟨h1,h2⟩ hn
 simp only[X12] at h1
 have hp:=h2 p (by simp)
 have hcl:=OE hp
 have ht :∀q∈t,Du q:=fun q hq=>h2 q (X19 _ hq)
 obtain⟨k1,k2,k3,_⟩:=hp
 have e2:=(GL k1).2
 obtain⟨w1,w2⟩:=w_L p.Addr
 rw[AB,HH]
 by_cases h6:(p.Addr.V6==six)=true
 ·obtain⟨k,hk⟩ :∃k:Nat,p.Len=k:=⟨p.Len.toNat,by omega⟩
  have e3:AI (Int.tdiv (AI (p.Len+7)) 8)=(((p.Len.toNat+7)/8:Nat):Int):=by
   rw[hk,Int.toNat_natCast,AP (x:=(k:Int)+7) (by omega),Int.tdiv_eq_ediv_of_nonneg (by omega),AP (by omega)]
   omega
  have e4:(p.Len.toNat+7)/8<=p.Addr.L:=by omega
  rw[if_pos h6,if_pos h6,AO (by decide) (by simp only[X22];omega),AA,KF k1,AA,e3,Q4 (by omega),AA,
   AO (by decide) (by simp only[X11,X22,X18];omega),AA]
  dsimp only
  rw[hn _ ⟨by
   simp only[X11,X22,X18]
   omega,ht⟩]
  unfold Ot
  simp only[List.append_assoc,List.singleton_append,List.cons_append,List.nil_append]
 rw[if_neg h6,if_neg h6]
 dsimp only
 rw[hn _ ⟨by omega,ht⟩,List.nil_append]
theorem Hz {l:List JAC}(hl:l.length<=100000)(hg :∀p∈l,Du p)(six:Bool):C3 l six=some (AU six l):=JC (acc:=[]) (by simp) hl hg six
theorem Ni (n:Nat):Dl (n:Int)=some (two n):=by
 unfold Dl
 rw[AO (by decide) (by simp),AA]
 rfl
theorem U0 {b:List UInt8}(hb:b.length<=1000000)(n:Nat):Fp b (n:Int)=some (b++two n):=by
 unfold Fp
 rw[AO (by decide) (by simp only[X12,X13];omega),AA]
 rfl
theorem bB (a b:JAA):Fa a b=some (FT (HS a) (HS b)):=QL a b
theorem QB {u:JAG}(g:GoodU u):(Bc u).length<=18/\∀x∈Bc u,x.Data.length<=20000:=by
 have cw6:=BD (six:=true) g.gw
 have ca6:=BD (six:=true) g.ga
 have hw:=g.w;have hn:=g.n
 have h0:(lst0 u).length<=16/\∀x∈lst0 u,x.Data.length<=768:=by
  unfold lst0
  split
  ·exact (g.a ‹_›).2
  simp
 have hL:(byB u.JAD.Next).length<=16\/u.Announce.length=0:=by
  rcases Nat.eq_zero_or_pos u.Announce.length with h | h
  ·exact .inr h
  have:=(GL (g.a h).1.n).2
  have:=(w_L u.JAD.Next).2
  exact .inl (by omega)
 have h1:(HK u).length<=17/\∀x∈HK u,x.Data.length<=20000:=by
  unfold HK
  split
  ·refine⟨by rw[HA];omega,fun x hx=>?_⟩
   rcases D8.1 hx with hx | rfl
   ·have:=h0.2 x hx;omega
   have hl:(byB u.JAD.Next).length<=16:=hL.resolve_right (by omega)
   simp only[X11,X12,X13]
   omega
  exact⟨by omega,fun x hx=>by have:=h0.2 x hx;omega⟩
 unfold Bc
 split
 ·refine⟨by rw[HA];omega,fun x hx=>?_⟩
  rcases D8.1 hx with hx | rfl
  ·exact h1.2 x hx
  simp only[X11,X12,X13]
  omega
 exact⟨by omega,h1.2⟩
theorem SE {u:JAG}(h:WrU u)(he:u.Announce=[]->u.JAD=eA):Eo u=some (Bc u):=by
 have g:=h.g
 have hw:=g.w;have hn:=g.n
 have cw6:=BD (six:=true) g.gw
 have ca6:=BD (six:=true) g.ga
 have e00:u.Announce=[]↔¬ 0<u.Announce.length:=by rw[List.length_pos_iff];exact Decidable.not_not.symm
 have v:VA u.JAD:=by
  by_cases hp:0<u.Announce.length
  ·exact (g.a hp).1
  rw[he (e00.2 hp)];exact fJ
 have e0:wrS u.JAD=lst0 u:=by
  unfold lst0
  by_cases hp:0<u.Announce.length
  ·rw[if_pos hp]
  rw[if_neg hp,he (e00.2 hp),dU]
 have l0:(lst0 u).length<=16:=e0 ▸ Ua v
 have c0:0<(AU true u.Announce).length↔0<u.Announce.length/\u.JAD.Next.V6=true:=by
  rw[Sr]
  constructor
  ·intro q
   obtain⟨p,hp⟩:=List.exists_mem_of_ne_nil _ q
   rw[List.mem_filter] at hp
   refine⟨List.length_pos_of_mem hp.1,?_⟩
   rw[<- h.s p hp.1]
   simpa using hp.2
  rintro⟨q1,q2⟩
  obtain⟨p,hp⟩:=List.exists_mem_of_ne_nil _ (List.length_pos_iff.1 q1)
  refine List.ne_nil_of_mem (a:=p) (List.mem_filter.2 ⟨hp,?_⟩)
  rw[h.s p hp,q2];rfl
 have hL:=(GL v.n).2
 have hL2:=(w_L u.JAD.Next).2
 unfold Eo
 show WrJ u.JAD _=_
 rw[W7 v]
 dsimp only
 rw[e0]
 have e1 :∀{ρ:Type} (K:Bool->Option ρ),AC (τ:=Bool) (fun k79=>
  if (decide ((u.Announce.length:Int) > 0)) then
   k79 (cond true u.JAD.Next.V6 false)
  else
   k79 false) K=K (decide (0<(AU true u.Announce).length)):=by
  intro ρ K
  rw[AB]
  by_cases hp:0<u.Announce.length
  ·rw[if_pos (by simp only[decide_eq_true_eq];omega)]
   congr 1
   rw[X28,decide_eq_true_eq,c0]
   exact⟨fun q=>⟨hp,q⟩,fun q=>q.2⟩
  rw[if_neg (by simp only[decide_eq_true_eq];omega)]
  congr 1
  rw[X28,decide_eq_true_eq,c0]
  exact⟨(fun q=>nomatch q),fun q=>absurd q.1 hp⟩
 rw[e1]
 have e2 :∀{ρ:Type} (K:List JAA->Option ρ),AC (τ:=(List JAA)) (fun k81=>
  if decide (0<(AU true u.Announce).length) then
   Option.bind (BQ u.JAD.Next) fun v82=>
   Option.bind (apnd (α:=UInt8) 1 ([(0:UInt8),(2:UInt8),(1:UInt8),(16:UInt8)]:List UInt8) v82) fun v83=>
   Option.bind (apnd (α:=UInt8) 1 v83 ([(0:UInt8)]:List UInt8)) fun v84=>
   Option.bind (DX v84 u.Announce true) fun v85=>
   Option.bind (apnd (α:=JAA) 40 (lst0 u) ([(⟨128,14,v85⟩:JAA)]:List JAA)) fun v86=>
   k81 v86
  else
   k81 (lst0 u)) K=K (lst0 u++if 0<(AU true u.Announce).length then [x14 u] else []):=by
  intro ρ K
  rw[AB]
  by_cases hp:0<(AU true u.Announce).length
  ·rw[if_pos (by simpa using hp),if_pos hp,KF v.n,AA,AO (by decide) (by simp only[X12,X13];omega),AA,
    AO (by decide) (by simp only[X11,X12,X13];omega),AA,
    JC (by simp only[X11,X12,X13];omega) (by omega) g.ga,AA,AO (by decide) (by simp only[X12,X13];omega),AA]
   rfl
  rw[if_neg (by simpa using hp),if_neg hp,List.append_nil]
 rw[e2,Hz (by omega) g.gw,AA]
 have e3 :∀{ρ:Type} (w:List JAA) (hw:w.length<=17) (K:List JAA->Option ρ),AC (τ:=(List JAA)) (fun k89=>
  if (decide (((AU true u.Withdraw).length:Int) > 0)) then
   Option.bind (apnd (α:=UInt8) 1 ([(0:UInt8),(2:UInt8),(1:UInt8)]:List UInt8) (AU true u.Withdraw)) fun v90=>
   Option.bind (apnd (α:=JAA) 40 w ([(⟨128,15,v90⟩:JAA)]:List JAA)) fun v91=>
   k89 v91
  else
   k89 w) K=K (w++if 0<(AU true u.Withdraw).length then [x15 u] else []):=by
  intro ρ w hw K
  rw[AB]
  by_cases hp:0<(AU true u.Withdraw).length
  ·rw[if_pos (by simp only[decide_eq_true_eq];omega),if_pos hp,AO (by decide) (by simp only[X12,X13];omega),AA,AO (by decide) (by simp only[X12,X13];omega),AA]
   rfl
  rw[if_neg (by simp only[decide_eq_true_eq];omega),if_neg hp,List.append_nil]
 have l1:(lst0 u++if 0<(AU true u.Announce).length then [x14 u] else []).length<=17:=by
  rw[X11]
  split<;>simp only[X22,X13]<;>omega
 rw[e3 _ l1,List.append_assoc]
 show Option.bind (EP Fa (raw u)) _=_
 have l2:(raw u).length<=1000000:=by
  have q1:(if 0 < (AU true u.Withdraw).length then [x15 u] else []).length<=1:=by split<;>simp
  unfold raw
  rw[<- List.append_assoc,X11]
  omega
 rw[Zg h bB l2 (al h),AA]
def bdP (u:JAG):List UInt8×Bool:=(DU u (Bn (Bc u)).1,((Bn (Bc u)).2==0)&&decide ((DU u (Bn (Bc u)).1).length<=4077))
theorem Y3 {u:JAG}(h:WrU u)(he:u.Announce=[]->u.JAD=eA):E6 u=some (bdP u):=by
 have g:=h.g
 have hw:=g.w;have hn:=g.n
 have cw4:=BD (six:=false) g.gw
 have ca4:=BD (six:=false) g.ga
 obtain⟨s1,s2⟩:=QB g
 have hj:=OP (l:=Bc u)
 unfold E6 bdP
 rw[SE h he,AA,S4 (by omega) (fun x hx=>by have:=s2 x hx;omega),AA]
 dsimp only
 rw[Hz (by omega) g.gw,AA,Ni,AA,AO (by decide) (by simp only[two,X12,X13];omega),AA,
  U0 (by simp only[two,X11,X12,X13];omega),AA,
  AO (by decide) (by simp only[two,X11,X12,X13];omega),AA,
  JC (by simp only[two,X11,X12,X13];omega) (by omega) g.ga,AA,AB]
 show (if ((Bn (Bc u)).2==0)=true then some (DU u (Bn (Bc u)).1,cond true (decide (((DU u (Bn (Bc u)).1).length:Int)<=4077)) false) else some (DU u (Bn (Bc u)).1,false))=_
 have e:decide (((DU u (Bn (Bc u)).1).length:Int)<=4077)=decide ((DU u (Bn (Bc u)).1).length<=4077):=by rw[decide_eq_decide];omega
 rw[e]
 cases ((Bn (Bc u)).2==0)<;>rfl
theorem eB (a b c d:Nat)(ha:a<=1000000)(hb:b<=1000000)(hc:c<=1000000)(hd:d<=1000000):(AI (AI (AI ((a:Int)+b)+c)+d)==0)=(decide (a=0)&&(decide (b=0)&&(decide (c=0)&&decide (d=0)))):=by
 rw[AP (x:=(a:Int)+b) (by omega),AP (x:=(a:Int)+b+c) (by omega),AP (x:=(a:Int)+b+c+d) (by omega)]
 rw[X28]
 simp only[beq_iff_eq,X27,decide_eq_true_eq]
 omega
theorem XM {a:JAD}(h:SmT a):GT a=some (isE a):=by
 unfold GT
 rw[Xv,AB,AB,eB _ _ _ _ h.p h.c h.l h.o]
 have e :∀{α:Type} (l:List α),decide (l.length=0)=decide (l=[]):=fun l=>by rw[decide_eq_decide];exact List.length_eq_zero_iff
 rw[e,e,e,e]
 show (if (a.Origin==(-1))=true then _ else _)=_
 unfold zAd
 cases (a.Origin==(-1))<;>cases (a.MED==(-1))<;>cases (a.Pref==(-1))<;>cases (a.OTC==(-1))<;>cases (Addr.eqd a.Next ⟨false,0,0⟩)<;>simp
theorem Sv (u:JAG) :∀(l:List JAC) (i:Nat),An (σ:=JAG) (fun v2=>some ((-1:Int),v2)) (fun next3 (x4:JAC) i5 v2=>Option.bind (Eg x4 v2) fun (v6,v7)=>if v6 then some ((i5:Int),v7) else next3 v7) l i u=some (match l.findIdx? (fun p=>!(p.Addr.V6==u.JAD.Next.V6)) with | some j=>((i+j:Nat):Int)|none=>-1,u)
 | [],_=>rfl
 | x::t,i=>by
  show Option.bind (Eg x u) (fun (v6,v7)=>if v6 then some ((i:Int),v7) else An (σ:=JAG) (fun v2=>some ((-1:Int),v2)) _ t (i+1) v7)=_
  rw[show Eg x u=some (!(x.Addr.V6==u.JAD.Next.V6),u) from rfl,AA,List.findIdx?_cons]
  dsimp only
  by_cases hq:(!(x.Addr.V6==u.JAD.Next.V6))=true
  ·rw[if_pos hq,if_pos hq];simp
  rw[if_neg hq,if_neg hq,Sv u t]
  cases t.findIdx? _ with
  | none=>rfl
  | some j=>show some (((i+1+j:Nat):Int),u)=some (((i+(j+1):Nat):Int),u);rw[show i+1+j=i+(j+1) by omega]
theorem fits_any (u:JAG)(l:List JAC):Ae l u=some (l.any (fun p=>!(p.Addr.V6==u.JAD.Next.V6)),u):=by
 unfold Ae Ap
 rw[AB,Sv,AA]
 dsimp only
 congr 2
 cases hf:l.findIdx? (fun p=>!(p.Addr.V6==u.JAD.Next.V6)) with
 | none=>
  rw[List.findIdx?_eq_none_iff] at hf
  have:l.any (fun p=>!(p.Addr.V6==u.JAD.Next.V6))=false:=by
   rw[List.any_eq_false]
   intro x hx
   rw[hf x hx];simp
  rw[this];rfl
 | some j=>
  obtain⟨h1,h2,_⟩:=List.findIdx?_eq_some_iff_getElem.1 hf
  have:l.any (fun p=>!(p.Addr.V6==u.JAD.Next.V6))=true:=List.any_eq_true.2 ⟨_,List.getElem_mem h1,h2⟩
  rw[this]
  simp
def SG (u:JAG):Bool:=(!(decide (u.Announce=[])) || isE u.JAD)&&u.Announce.all (Qf u.JAD)
theorem Xa {α:Type}{f:α->Bool}{c:Bool} :∀{l:List α},l≠[]->l.all (fun x=>f x&&c)=(l.all f&&c)
 | [x],_=>by simp
 | x::y::t,_=>by
  rw[List.all_cons,Xa (l:=y::t) (by simp),List.all_cons (l:=y::t)]
  cases f x<;>cases c<;>simp
theorem ZC {u:JAG}(h:SmT u.JAD):G9 u=some (SG u):=by
 unfold G9 SG
 by_cases ha:u.Announce=[]
 ·rw[if_pos (by rw[ha];rfl),XM h,AA,ha]
  simp
 have hl:0<u.Announce.length:=List.length_pos_iff.2 ha
 rw[if_neg (by rw[beq_iff_eq];omega),AB,QK h,AA,fits_any,AA,decide_eq_false ha]
 have e:u.Announce.all (Qf u.JAD)=(u.Announce.all (fun p=>p.Addr.V6==u.JAD.Next.V6)&&((u.JAD.Origin != -1)&&(!(Addr.eqd u.JAD.Next zAd)&&Gp u.JAD))):=by
  rw[<- Xa ha];rfl
 have e2:u.Announce.any (fun p=>!(p.Addr.V6==u.JAD.Next.V6))=!u.Announce.all (fun p=>p.Addr.V6==u.JAD.Next.V6):=by
  rw[List.not_all_eq_any_not]
 rw[e,e2]
 show (if Gp u.JAD=true then _ else _)=_
 unfold zAd
 cases Gp u.JAD<;>cases (u.JAD.Origin != (-1))<;>cases (Addr.eqd u.JAD.Next ⟨false,0,0⟩)<;>cases u.Announce.all (fun p=>p.Addr.V6==u.JAD.Next.V6)<;>rfl
theorem TN (l:List JAC):Ac l=some (!l.all Ha):=by
 have h:=ai (f:=E4) (q:=fun p=>!Ha p) (l:=l) fun x _=>by unfold E4;rw[QW,AA]
 rw[<- List.not_all_eq_any_not] at h
 exact h
theorem dZ {u:JAG}(h1:u.Withdraw.length<=256)(h2:u.Announce.length<=256)(h3:(u.Withdraw++u.Announce).all Ha=true)(h5:u.Announce.all (Qf u.JAD)=true):WrU u:=by
 have hgood :∀p∈u.Withdraw++u.Announce,Du p:=fun p hp=>(Is p).2.1 (List.all_eq_true.1 h3 p hp)
 have hfit :∀p∈u.Announce,p.Addr.V6=u.JAD.Next.V6/\u.JAD.Origin≠-1/\u.JAD.Next≠zAd/\VA u.JAD:=fun p hp=>by
  have:=List.all_eq_true.1 h5 p hp
  unfold Qf at this
  simp only[X27,beq_iff_eq,bne_iff_ne,Bool.not_eq_true'] at this
  obtain⟨a1,a2,a3,a4⟩:=this
  exact⟨a1,a2,(fun q=>by rw[q,(Addr.eqd_iff _ _).2 rfl] at a3;cases a3),OD.1 a4⟩
 refine⟨⟨by omega,by omega,fun p hp=>hgood p (List.mem_append_left _ hp),fun p hp=>hgood p (List.mem_append_right _ hp),fun q=>?_⟩,h1,h2,fun p hp=>(hfit p hp).1,fun q=>?_⟩
 ·obtain⟨p,hp⟩:=List.exists_mem_of_ne_nil _ (List.length_pos_iff.1 q)
  have v:=(hfit p hp).2.2.2
  exact⟨v,Ua v,fun x hx=>UD v hx⟩
 obtain⟨p,hp⟩:=List.exists_mem_of_ne_nil _ q
 exact⟨(hfit p hp).2.1,(hfit p hp).2.2.1⟩
theorem Py (u:JAG):XC u=(bdP u).2/\((bdP u).2=true->EH u=((bdP u).1,0)):=by
 unfold XC EH bdP
 by_cases hj:(Bn (Bc u)).2=0
 ·have hne:¬ (Bn (Bc u)).2≠0:=fun q=>q hj
  rw[if_neg hne]
  have:((Bn (Bc u)).2==0)=true:=by rw[hj];rfl
  rw[this]
  exact⟨rfl,fun _=>rfl⟩
 rw[if_pos hj]
 have:((Bn (Bc u)).2==0)=false:=by simpa using hj
 dsimp only
 rw[this]
 exact⟨rfl,fun q=>nomatch q⟩
theorem VX (u:JAG):Gl u=(decide (u.Withdraw.length<=256)&&(decide (u.Announce.length<=256)&&((u.Withdraw++u.Announce).all Ha&&(SG u&&(bdP u).2)))):=by
 unfold Gl SG
 rw[(Py u).1]
 simp only[Bool.and_assoc]
theorem UQ {u:JAG}(hs:SmT u.JAD):FM u=some (Gl u):=by
 unfold FM
 rw[AB,VX]
 by_cases h1:u.Withdraw.length<=256
 case neg=>
  rw[if_pos (by simp only[decide_eq_true_eq];omega),decide_eq_false h1]
  rfl
 rw[if_neg (by simp only[decide_eq_true_eq];omega),decide_eq_true h1]
 by_cases h2:u.Announce.length<=256
 case neg=>
  rw[if_pos (by rw[cond_false,decide_eq_true_eq];omega),decide_eq_false h2]
  rfl
 rw[if_neg (by rw[cond_false,decide_eq_true_eq];omega),decide_eq_true h2,TN,AA,TN,AA,ZC hs,AA,List.all_append]
 cases k1:u.Withdraw.all Ha
 ·rfl
 cases k2:u.Announce.all Ha
 ·rfl
 cases k3:SG u
 ·rfl
 have k5:u.Announce.all (Qf u.JAD)=true/\(u.Announce=[]->u.JAD=eA):=by
  unfold SG at k3
  simp only[X27,Bool.or_eq_true,Bool.not_eq_true',decide_eq_false_iff_not] at k3
  exact⟨k3.2,fun q=>(TY _).1 (k3.1.resolve_left fun w=>w q)⟩
 have hu:=dZ h1 h2 (by rw[List.all_append,k1,k2];rfl) k5.1
 show Option.bind (E6 u) _=_
 rw[Y3 hu k5.2,AA]
 rfl
theorem au {u:JAG}(h:Gl u=true):WrU u/\(u.Announce=[]->u.JAD=eA)/\(bdP u).2=true:=by
 obtain⟨h1,h2,h3⟩:=ZD h Ua
 exact⟨h1,fun q=>(TY _).1 (h3 q),(Py u).1 ▸ h2⟩
theorem ZG {u:JAG}(h:Gl u=true):(EH u).1.length<=4077:=by
 obtain⟨h1,h2,h3⟩:=au h
 rw[(Py u).2 h3]
 unfold bdP at h3 ⊢
 simp only[X27,decide_eq_true_eq] at h3
 exact h3.2
structure UOk (u:JAG):Prop where
 v:Gl u=true
 s:SmT u.JAD
 w:u.Withdraw.length<=4
 n:u.Announce.length<=5
theorem dQ:SmT eA:=⟨by decide,by decide,by decide,by decide,by decide,fun u hu=>by cases hu⟩
theorem UOk.few {l:List JAC}(h :∀p∈l,Du p)(hl:l.length<=4):UOk ⟨l,eA,[]⟩:=⟨dB h (by omega),dQ,hl,Nat.zero_le _⟩
theorem U5 {α:Type}{P:α->Prop}{l:List α}{x:α}(h :∀y∈l,P y)(hx:P x) :∀y∈l++[x],P y:=fun y hy=>by
 rcases X23.1 hy with hy | hy
 ·exact h y hy
 rw[X14] at hy
 rw[hy];exact hx
theorem MZ {d:JAI}(hd:Dk d):Ok (EG d) fun r=>UOk r.1/\Dk r.2:=by
 unfold EG
 rw[AB]
 refine .bind (AM hd (by omega)) ?_
 rintro⟨v,d⟩ ⟨v1,v2,hd⟩
 dsimp only at v1 v2 hd ⊢
 refine .join (fun p:JAI×List JAC=>(p.2.length<=4/\∀q∈p.2,Du q)/\Dk p.1) (fun k hk=>?_) ?_
 ·refine .whileI (fun s:Int×JAI×List JAC=>(0<=s.1/\s.1+s.2.2.length<=4/\∀q∈s.2.2,Du q)/\Dk s.2.1) (fun s=>s.1.toNat) ⟨⟨v1,by simp only[X13];omega,fun q hq=>by cases hq⟩,hd⟩ (CE (by simp only;omega)) ?_
  rintro next ⟨c,d,p⟩ ⟨⟨h1,h2,h3⟩,hd⟩ hnx
  dsimp only at h1 h2 h3 hd ⊢
  refine .ite (fun h=>?_) fun h=>hk (d,p) ⟨⟨by dsimp only;omega,h3⟩,hd⟩
  simp only[decide_eq_true_eq] at h
  refine .bind (IJ hd) ?_
  rintro⟨x,d⟩ ⟨hx,hd⟩
  dsimp only at hx hd ⊢
  refine .bind (Ok.apnd (by decide) (by simp only[X22];omega)) fun r hr=>?_
  rw[AP (by omega),hr]
  exact hnx _ ⟨⟨by dsimp only;omega,by simp only[X11,X22];omega,U5 h3 hx⟩,hd⟩ (by dsimp only;omega)
 rintro⟨d,W⟩ ⟨⟨w1,w2⟩,hd⟩
 dsimp only at w1 w2 hd ⊢
 refine .bind (AM hd (by omega)) ?_
 rintro⟨c,d⟩ ⟨c1,c2,hd⟩
 dsimp only at c1 c2 hd ⊢
 refine .ite (fun _=>.ret ⟨.few w2 w1,hd⟩) fun _=>?_
 refine .bind (AM hd (by omega)) ?_
 rintro⟨six,d⟩ ⟨-,-,hd⟩
 dsimp only at hd ⊢
 refine .bind (AM hd (by omega)) ?_
 rintro⟨v,d⟩ ⟨v1,v2,hd⟩
 dsimp only at v1 v2 hd ⊢
 refine .join (fun p:JAI×List JAC=>(p.2.length<=5/\∀q∈p.2,Du q)/\Dk p.1) (fun k hk=>?_) ?_
 ·refine .whileI (fun s:Int×JAI×List JAC=>(0<=s.1/\s.1+s.2.2.length<=5/\∀q∈s.2.2,Du q)/\Dk s.2.1) (fun s=>s.1.toNat) ⟨⟨v1,by simp only[X13];omega,fun q hq=>by cases hq⟩,hd⟩ (CE (by simp only;omega)) ?_
  rintro next ⟨c,d,p⟩ ⟨⟨h1,h2,h3⟩,hd⟩ hnx
  dsimp only at h1 h2 h3 hd ⊢
  refine .ite (fun h=>?_) fun h=>hk (d,p) ⟨⟨by dsimp only;omega,h3⟩,hd⟩
  simp only[decide_eq_true_eq] at h
  refine .bind (IJ hd) ?_
  rintro⟨x,d⟩ ⟨hx,hd⟩
  dsimp only at hx hd ⊢
  refine .join (fun q:List JAC=>q.length<=p.length+1/\∀y∈q,Du y) (fun k27 hk27=>.ite (fun _=>.bind (Ok.apnd (by decide) (by simp only[X22];omega)) fun r hr=>hk27 _ ?_) fun _=>hk27 _ ⟨by omega,h3⟩) fun q hq=>?_
  ·rw[hr]
   exact⟨by simp only[X11,X22];omega,U5 h3 hx⟩
  rw[AP (by omega)]
  exact hnx _ ⟨⟨by dsimp only;omega,by dsimp only;omega,hq.2⟩,hd⟩ (by dsimp only;omega)
 rintro⟨d,A⟩ ⟨⟨a1,a2⟩,hd⟩
 dsimp only at a1 a2 hd ⊢
 refine .ite (fun h=>?_) fun _=>?_
 ·have:A=[]:=List.eq_nil_of_length_eq_zero (by simp only[beq_iff_eq] at h;omega)
  subst this
  exact .ret ⟨.few w2 w1,hd⟩
 refine .bind (Oi hd) ?_
 rintro⟨a,d⟩ ⟨⟨b1,b2,b3,b4,b5,b6,b7⟩,hd⟩
 dsimp only at b1 b2 b3 b4 b5 b6 b7 hd ⊢
 refine .bind (P:=fun _=>True) ⟨_,rfl,trivial⟩ fun f _=>?_
 refine .join (fun _=>True) (fun k hk=>.ite (fun _=>.bind (P:=fun _=>True) ⟨_,rfl,trivial⟩ fun f _=>hk _ trivial) fun _=>hk _ trivial) ?_
 rintro⟨x,y,z⟩ -
 dsimp only
 have hs :∀o n,SmT { a with Origin:=o,Next:=n }:=fun o n=>⟨by dsimp only;omega,by dsimp only;omega,by dsimp only;omega,by dsimp only;omega,by dsimp only;omega,fun u hu=>by have:=b7 u hu;omega⟩
 rw[Uz (hs _ _) (by dsimp only;omega) (by dsimp only;omega) Ua,AA]
 refine .ite (fun _=>?_) fun h=>.ret ⟨⟨?_,hs _ _,w1,a1⟩,hd⟩
 ·rw[AB]
  exact .ret ⟨.few (fun q hq=>by cases hq) (Nat.zero_le _),hd⟩
 simpa using h
def p10:JAC:=⟨⟨false,(0:UInt64),(167772160:UInt64)⟩,8⟩
theorem awake:G2=some true:=by kernel_rfl
structure SmUp (u:JAG):Prop where
 s:SmT u.JAD
 w:u.Withdraw.length<=1000
 n:u.Announce.length<=1000
theorem UOk.sm {u:JAG}(h:UOk u):SmUp u:=⟨h.s,by have:=h.w;omega,by have:=h.n;omega⟩
theorem Zd {u:JAG}:(encS u).1.length<=4077:=by
 unfold encS
 split
 ·exact ZG ‹_›
 exact Nat.zero_le _
theorem Ph (p:JAC):JAC.eqd p p=true:=by
 unfold JAC.eqd
 simp only[(Addr.eqd_iff p.Addr p.Addr).2 rfl,beq_self_eq_true,Bool.and_self]
theorem Wv (l:List JAC):E1 l l=some true:=by
 unfold E1
 rw[bne_self_eq_false,if_neg (by decide),AB]
 exact SL fun next x i h=>by rw[h,AA,Ph];rfl
theorem UOk.encB {u:JAG}(h:UOk u) :∃a,encS u=(DU u (Bn (Bc u)).1,0)/\(Bn (Bc u)).2=0/\a=WrU u/\WrU u/\(u.Announce=[]->u.JAD=eA):=by
 obtain⟨h1,h2,h3⟩:=au h.v
 have e:=(Py u).2 h3
 unfold encS
 rw[if_pos h.v,e]
 unfold bdP at h3 ⊢
 simp only[X27,beq_iff_eq] at h3
 exact⟨_,rfl,h3.1,rfl,h1,h2⟩
theorem UA {n:Nat}(h:n<65536) :∃a b:UInt8,two n=[a,b]/\a.toNat*256+b.toNat=n:=by
 have e1:Int.fdiv (n:Int) (2^(min (Int.toNat 8) 64))=((n/256:Nat):Int):=cj n
 refine⟨_,_,rfl,?_⟩
 rw[e1,BZ,BZ,UInt8.toNat_ofNat',UInt8.toNat_ofNat']
 omega
theorem Y8 {u:JAG}(h:WrU u)(he:u.Announce=[]->u.JAD=eA){ρ:Type}(K:Bool×List UInt8->Option ρ):AC (τ:=Bool×(List UInt8)) (fun k7=>
  Option.bind (Eo u) fun v8=>
  Option.bind (Do v8) fun (v9,v10)=>
  Option.bind (C3 u.Withdraw false) fun v11=>
  Option.bind (Dl (v11.length:Int)) fun v12=>
  Option.bind (apnd (α:=UInt8) 1 v12 v11) fun v13=>
  Option.bind (Fp v13 (v9.length:Int)) fun v14=>
  Option.bind (apnd (α:=UInt8) 1 v14 v9) fun v15=>
  Option.bind (DX v15 u.Announce false) fun v16=>
  AC (τ:=Bool) (fun k17=>
   if (v10==0) then
    k17 (cond true (decide ((v16.length:Int)<=4077)) false)
   else
    k17 false
  ) fun v18=>
  k7 (v18,v16)) K=K ((bdP u).2,(bdP u).1):=by
 have g:=h.g
 have hw:=g.w;have hn:=g.n
 have cw4:=BD (six:=false) g.gw
 have ca4:=BD (six:=false) g.ga
 obtain⟨s1,s2⟩:=QB g
 have hj:=OP (l:=Bc u)
 unfold bdP
 rw[AB,SE h he,AA,S4 (by omega) (fun x hx=>by have:=s2 x hx;omega),AA]
 dsimp only
 rw[Hz (by omega) g.gw,AA,Ni,AA,AO (by decide) (by simp only[two,X12,X13];omega),AA,
  U0 (by simp only[two,X11,X12,X13];omega),AA,
  AO (by decide) (by simp only[two,X11,X12,X13];omega),AA,
  JC (by simp only[two,X11,X12,X13];omega) (by omega) g.ga,AA,AB]
 show (if ((Bn (Bc u)).2==0)=true then K (cond true (decide (((DU u (Bn (Bc u)).1).length:Int)<=4077)) false,DU u (Bn (Bc u)).1) else K (false,DU u (Bn (Bc u)).1))=_
 have e:decide (((DU u (Bn (Bc u)).1).length:Int)<=4077)=decide ((DU u (Bn (Bc u)).1).length<=4077):=by rw[decide_eq_decide];omega
 rw[e]
 cases ((Bn (Bc u)).2==0)<;>rfl
theorem updateBroken (l:List Int)(hl:l.length<=maxLen):Cj l=some true:=by
 have hd:Dk ⟨l,0⟩:=⟨Int.le_refl _,Nat.le_trans hl (by decide)⟩
 have main:Ok (Cj l) fun r=>r=true:=by
  unfold Cj
  rw[dF,AA]
  refine .bind (MZ hd) ?_
  rintro⟨u,d⟩ ⟨hu,hd⟩
  dsimp only at hu hd ⊢
  refine .ite (fun _=>?_) fun h0=>?_
  ·rw[awake,AA]
   exact .ret rfl
  have ha:u.Announce≠[]:=fun q=>h0 (by rw[q];rfl)
  obtain⟨_,e1,e2,_,e3,e4⟩:=hu.encB
  have el:=Zd (u:=u)
  rw[e1] at el
  dsimp only at el
  have hb2:bdP u=(DU u (Bn (Bc u)).1,true):=by
   have:=(au hu.v).2.2
   unfold bdP at this ⊢
   dsimp only at this
   rw[this]
  obtain⟨rest,hr⟩:=Yl e3 ha
  obtain⟨j1,j2⟩:=QM e2
  rw[j1,hr] at el
  have hbr:=V3 e3 e2 ha hr
  obtain⟨t1,t2⟩:=bQ u (Aa u.JAD.Origin) rest
  have t3:=WW u (Aa u.JAD.Origin) rest
  have hcut:=M8 u (Aa u.JAD.Origin) rest
  have g:=e3.g
  have hw:=hu.w;have hn:=hu.n
  have cw4:=BD (six:=false) g.gw
  obtain⟨a,b,q1,q2⟩:=UA (n:=(AU false u.Withdraw).length) (by omega)
  obtain⟨B,hB⟩ :∃B,B=DU u (A6 (x1 (Aa u.JAD.Origin)::rest)):=⟨_,rfl⟩
  obtain⟨w,hw2⟩ :∃w,w=(AU false u.Withdraw).length:=⟨_,rfl⟩
  have hBl:B.length=w+8+(A6 rest).length+(AU false u.Announce).length:=by
   rw[hB,hcut,X11,P4,hw2]
   simp only[X12,X11]
   omega
  have hB0 :∃r,B=a::b::r:=by
   rw[hB]
   unfold DU
   rw[q1]
   exact⟨_,rfl⟩
  rw[<- hB] at el t1 t2 t3
  rw[<- hw2] at t1 t2 t3 q2 cw4
  refine .join (fun p:Int×List UInt8=>p=(0,B)) (fun k5 hk5=>?_) ?_
  ·rw[UQ hu.s,AA,hu.v,if_neg (by decide)]
   rw[Y8 e3 e4,hb2,j1,hr,<- hB]
   exact hk5 _ rfl
  rintro _ rfl
  dsimp only
  rw[AB,bne_self_eq_false,if_neg (by decide)]
  have k1:decide ((B.length:Int)<4)=false:=by rw[decide_eq_false_iff_not];omega
  rw[k1]
  show Ok (Option.bind (geti B 0) _) _
  obtain⟨r,hr0⟩:=hB0
  have g0:geti B 0=some a:=by rw[hr0];exact B8 (l:=a::b::r) (i:=0) (by simp)
  have g1:geti B 1=some b:=by rw[hr0];exact B8 (l:=a::b::r) (i:=1) (by simp)
  rw[g0,AA,g1,AA,WO (by have:=a.toNat_lt;omega) (by have:=b.toNat_lt;omega),q2,AP (x:=(w:Int)+8) (by omega),AP (x:=(w:Int)+5) (by omega),AP (x:=(w:Int)+6) (by omega),AP (x:=(w:Int)+7) (by omega),AB]
  have k2:decide ((B.length:Int)<(w:Int)+8)=false:=by rw[decide_eq_false_iff_not];omega
  have g5:geti B ((w:Int)+5)=some 1:=by
   have:=B8 (l:=B) (i:=w+5) (by omega)
   rw[X15 (by omega)] at t1
   rw[show ((w:Int)+5)=((w+5:Nat):Int) by omega,this]
   exact t1
  have g6:geti B ((w:Int)+6)=some 1:=by
   have:=B8 (l:=B) (i:=w+6) (by omega)
   rw[X15 (by omega)] at t2
   rw[show ((w:Int)+6)=((w+6:Nat):Int) by omega,this]
   exact t2
  rw[k2,if_neg (by decide),g5,AA,if_neg (by decide),g6,AA]
  show Ok (Option.bind (geti B ((w:Int)+7)) _) _
  refine .bind (.geti (by omega)) fun _ _=>?_
  have g7:seti B ((w:Int)+7) 9=some (DU u (A6 (x1 9::rest))):=by
   unfold seti
   rw[if_pos (by omega),<- t3]
   congr 1
  rw[g7,AA,Ux (by rw[<- t3,X21];omega),AA,hbr]
  dsimp only
  have hfl:=JK u.Withdraw
  have L:(((u.Withdraw.filter fun p=>p.Addr.V6==false)++(u.Withdraw.filter fun p=>p.Addr.V6==true)++u.Announce).length:Int)=(u.Withdraw.length:Int)+u.Announce.length:=by
   rw[X11,X11];omega
  have dr:part ((u.Withdraw.filter fun p=>p.Addr.V6==false)++(u.Withdraw.filter fun p=>p.Addr.V6==true)++u.Announce) (u.Withdraw.length:Int) (((u.Withdraw.filter fun p=>p.Addr.V6==false)++(u.Withdraw.filter fun p=>p.Addr.V6==true)++u.Announce).length:Int)=some u.Announce:=by
   rw[G3 (by omega),List.drop_append_of_le_length (by rw[X11];omega),List.drop_eq_nil_of_le (by rw[X11];omega),List.nil_append]
  rw[AB,if_pos (by rfl),if_pos (by rfl),L,AP (by omega),beq_self_eq_true,if_pos (by rfl),<- L,dr,AA,Wv,AA,if_pos (by rfl),awake,AA]
  exact .ret rfl
 obtain⟨r,h1,h2⟩:=main
 rw[h1,h2]
abbrev HL (l:List Int):Prop:=l.length<=maxLen/\l.length*8<=reachBytes/\∀a∈l,I64 a
theorem Rt (l:List Int)(h:HL l):Cj l=some true:=updateBroken l h.1
end Go.AX.Q19
end
section
namespace Go.AX.Q19
open Go Go.AX Go.Proofs
variable {wl:Prop}
theorem VZ {a0:List Int}{r:JAI}(h:MR a0=some r):yC wl 12 [AV.d (D.l 1 D.i a0)] [] (.ref 0 0) [.box (JAI.av r)]:=by
 refine oK Tryz.f12 ⟨rfl,?_⟩;unfold MR at h;exact fin h
theorem KG {r:JAD}(h:E7=some r):yC wl 17 [] [] (.d (JAD.toD r)) []:=by
 refine oK Tryz.f17 ⟨rfl,?_⟩;unfold E7 at h;exact fin h
theorem Vg {a0:Int}{a1:Int}{r:Int}(h:KP a0 a1=some r):yC wl 14 [AV.d (D.i a0),AV.d (D.i a1)] [] (.d (D.i r)) []:=by
 refine oK Tryz.f14 ⟨rfl,?_⟩;unfold KP at h;obtain⟨_,g1,h⟩:=AD h;refine⟨Ei g1,_,rfl,?_⟩;refine AN h (fun v2=>⟨dd 5 (yi v2::dd 9 ([])),nn 15 ([])⟩) ?_ ?_
 ·intro _ h;refine Aj h fun h=>?_;refine⟨_,rfl,?_⟩;exact AQ h
 rintro v2 h;exact fin h
theorem AG {a0:JAI}{a1:Int}{r:Int×JAI}(h:AL a0 a1=some r):yC wl 25 [.ref 0 0,AV.d (D.i a1)] [.box (JAI.av a0)] (.d (D.i r.1)) [.box (JAI.av r.2)]:=by
 refine oK Tryz.f25 ⟨rfl,?_⟩;unfold AL at h;refine .inl (dO ?_);refine⟨a0.L.length,X10 _,?_⟩;refine cO ?_;refine goC ?_;refine Ad h ?_ ?_<;>intro h
 ·exact fin h
 refine⟨_,rfl,?_⟩;refine .inl (dO ?_);refine⟨_,rfl,?_⟩;(conv=>whnf);refine By h (fun _=>rfl) fun _ h=>?_;refine A2 h (fun _=>Vg) (fun _=>rfl) fun _ h=>?_;refine cO ?_;exact fin h
theorem NQ {a0:Int}{r:Addr}(h:Ib a0=some r):yC wl 42 [AV.d (D.i a0)] [] (.d (Addr.toD r)) []:=by
 refine oK Tryz.f42 ⟨rfl,?_⟩;unfold Ib at h;refine⟨_,rfl,?_⟩;refine⟨_,Av _,?_⟩;refine⟨_,Av _,?_⟩;exact fin h
theorem PR {a0:Int}{r:Addr}(h:Ku a0=some r):yC wl 43 [AV.d (D.i a0)] [] (.d (Addr.toD r)) []:=by
 refine oK Tryz.f43 ⟨rfl,?_⟩;unfold Ku at h;refine⟨_,rfl,?_⟩;refine⟨_,Av _,?_⟩;exact fin h
theorem KJ {a0:List JAE}{r:Bool}(h:E0 a0=some r):yC wl 75 [AV.d (D.l 2 JAE.toD a0)] [] (.d (D.b r)) []:=by
 refine oK Tryz.f75 ⟨rfl,?_⟩;unfold E0 at h;refine⟨a0.length,X10 _,?_⟩;refine AN h (fun v1=>⟨X::X::X::yi v1::dd 74 ([]),nn 78 ([])⟩) ?_ ?_
 ·intro _ h;revert h;refine Ah 8 2 JAE.toD rfl (fun i3 v4=>⟨y0 a0::X::X::yi v4::dd 4 (y0 a0::yi (a0.length:Int)::yi (i3:Int)::dd 67 ([])),nn 78 ([])⟩) ?_ ?_ ?_
  ·exact wk
  ·rintro v4 K5 h;refine goC ?_;refine BK C5 ?_;exact AQ h
  rintro _ i3 x7 v4 K5 b3 c3 e3 h p8;refine goC ?_;refine BJ (C0 b3) ?_;refine AN h (fun _=>⟨y0 a0::X::X::yi (AI (v4+(x7.ASNs.length:Int)))::dd 4 (y0 a0::yi (a0.length:Int)::yi (i3:Int)::dd 67 ([])),nn 78 ([])⟩) ?_ ?_
  ·intro _ h;refine⟨BI (f:=JAE.toD) b3,JAE.toD x7,c3,rfl,?_⟩;refine AN h (fun v10=>⟨y0 a0::X::X::yi v4::X::yr 5 0::X::X::y0 a0::yi (a0.length:Int)::yi (i3:Int)::dd 25 (yb v10::dd 41 ([])),nn 5 (yB (JAE.av x7)::nn 72 ([]))⟩) ?_ ?_
   ·intro _ h;refine⟨x7.ASNs.length,X10 _,?_⟩;refine Br h fun h=>?_;refine Aj h fun h=>?_;refine Aj h fun h=>?_;refine⟨_,rfl,?_⟩;(conv=>whnf);refine By h (fun _=>rfl) fun _ h=>?_;exact AQ h
   rintro v10 h;refine goC ?_;refine Ad h ?_ ?_<;>intro h
   ·exact fin h
   refine⟨x7.ASNs.length,X10 _,?_⟩;refine AN h (fun _=>⟨y0 a0::X::X::yi v4::X::yr 5 0::X::X::y0 a0::yi (a0.length:Int)::yi (i3:Int)::dd 67 ([]),nn 5 (yB (JAE.av x7)::nn 72 ([]))⟩) ?_ ?_
   ·intro _ h;revert h;refine Ah 38 1 D.i rfl (fun i15 _=>⟨y0 a0::X::X::yi v4::X::yr 5 0::X::X::y0 a0::yi (a0.length:Int)::yi (i3:Int)::dd 27 (AV.d (D.l 1 D.i x7.ASNs)::yi (x7.ASNs.length:Int)::yi (i15:Int)::dd 37 ([])),nn 5 (yB (JAE.av x7)::nn 72 ([]))⟩) ?_ ?_ ?_
    ·exact wk
    ·rintro _ K16 h;refine goC ?_;refine BK C5 ?_;exact AQ h
    rintro _ i15 x18 _ K16 b15 c15 e15 h p19;refine goC ?_;refine BJ (C0 b15) ?_;refine goC ?_;refine⟨BI (f:=D.i) b15,D.i x18,c15,rfl,?_⟩;refine AN h (fun v20=>⟨y0 a0::X::X::yi v4::X::yr 5 0::X::X::y0 a0::yi (a0.length:Int)::yi (i3:Int)::dd 27 (AV.d (D.l 1 D.i x7.ASNs)::yi (x7.ASNs.length:Int)::yi (i15:Int)::dd 27 (yb v20::dd 9 ([]))),nn 5 (yB (JAE.av x7)::nn 72 ([]))⟩) ?_ ?_
    ·intro _ h;refine Br h fun h=>?_;refine Br h fun h=>?_;refine Aj h fun h=>?_;refine Aj h fun h=>?_;refine⟨_,rfl,?_⟩;(conv=>whnf);refine By h (fun _=>rfl) fun _ h=>?_;exact AQ h
    rintro v20 h;refine goC ?_;refine Ad h ?_ ?_<;>intro h
    ·exact fin h
    refine⟨_,e15,?_⟩;exact p19 _ _ wk h
   rintro _ h;refine⟨x7.ASNs.length,X10 _,?_⟩;refine⟨_,rfl,?_⟩;exact AQ h
  rintro _ h;refine⟨_,e3,?_⟩;exact p8 _ _ wk h
 rintro v1 h;exact fin h
theorem Oe {a0:JAI}{r:Int×JAI}(h:Ff a0=some r):yC wl 88 [.ref 0 0] [.box (JAI.av a0)] (.d (D.i r.1)) [.box (JAI.av r.2)]:=by
 refine oK Tryz.f88 ⟨rfl,?_⟩;unfold Ff at h;refine AK h (fun _=>AG) ?_;rintro⟨_,_⟩ h;refine⟨_,rfl,?_⟩;refine AK h (fun _=>AG) ?_;rintro⟨_,_⟩ h;refine⟨_,rfl,?_⟩;refine AK h (fun _=>AG) ?_;rintro⟨_,_⟩ h;obtain⟨v10,g11,h⟩:=AD h;refine⟨rfl,BN (f:=D.i) g11,?_⟩;refine⟨rfl,D.i v10,(BS (f:=D.i) g11),?_⟩;exact fin h
theorem M3 {a0:JAI}{r:(List JAE)×JAI}(h:FH a0=some r):yC wl 44 [.ref 0 0] [.box (JAI.av a0)] (.d (D.l 2 JAE.toD r.1)) [.box (JAI.av r.2)]:=by
 refine oK Tryz.f44 ⟨rfl,?_⟩;unfold FH at h;refine AK h (fun _=>AG) ?_;rintro⟨_,_⟩ h;refine AN h (fun (v4,v5)=>⟨X::X::X::yO 4 JAE.toD v5::dd 106 ([]),yB (JAI.av v4)::N::N::N::yR 132 2 JAE.toD v5::nn 106 ([])⟩) ?_ ?_
 ·intro _ h;revert h;refine Aw (fun (v7,v8,v9)=>⟨yr 0 0::X::X::yO 4 JAE.toD v9::yi v7::dd 105 ([]),yB (JAI.av v8)::N::N::N::yR 132 2 JAE.toD v9::nn 106 ([])⟩) ?_ ?_
  ·exact wk
  rintro _ ⟨v7,v8,v9⟩ _ h p12;refine goC ?_;refine Aj h fun h=>?_;refine AN h (fun (v13,v14)=>⟨yr 0 0::X::X::yO 109 JAE.toD v14::yi v7::dd 105 ([]),yB (JAI.av v13)::nn 108 (yR 132 2 JAE.toD v14::N::[])⟩) ?_ ?_
  ·intro _ h;refine AN h (fun (v16,v17)=>⟨yr 0 0::X::X::yO 4 JAE.toD v9::yi v7::yb v16::dd 104 ([]),yB (JAI.av v17)::N::N::N::yR 132 2 JAE.toD v9::nn 106 ([])⟩) ?_ ?_
   ·intro _ h;refine⟨v9.length,DK,?_⟩;refine Ad h ?_ ?_<;>intro h
    ·refine⟨v9.length,DK,?_⟩;refine⟨_,rfl,?_⟩;obtain⟨v19,g20,h⟩:=AD h;refine⟨rfl,BN (f:=JAE.toD) g20,?_⟩;refine⟨rfl,?_⟩;refine⟨rfl,JAE.toD v19,(BS (f:=JAE.toD) g20),?_⟩;refine Br h fun h=>?_;refine AK h (fun _=>AG) ?_;rintro⟨_,_⟩ h;exact AQ h
    refine AK h (fun _=>AG) ?_;rintro⟨_,_⟩ h;exact AQ h
   rintro⟨v16,v17⟩ h;refine AK h (fun _=>AG) ?_;rintro⟨_,_⟩ h;refine⟨_,rfl,?_⟩;refine AN h (fun (v30,v31)=>⟨yr 0 0::X::X::yO 4 JAE.toD v9::yi v7::X::yr 7 0::dd 103 ([]),Wg v16 v9 v31 v30⟩) ?_ ?_
   ·intro _ h;revert h;refine Aw (fun (v33,v34,v35)=>⟨yr 0 0::X::X::yO 4 JAE.toD v9::yi v7::yb v16::yr 7 0::yi v33::dd 102 ([]),Wg v16 v9 v35 v34⟩) ?_ ?_
    ·exact wk
    rintro _ ⟨v33,v34,v35⟩ _ h p38;refine goC ?_;refine Aj h fun h=>?_;refine AN h (fun (v39,v40)=>⟨yr 0 0::X::X::yO 4 JAE.toD v9::yi v7::yb v16::yr 7 0::yi v33::dd 102 ([]),Wg v16 v9 v40 v39⟩) ?_ ?_
    ·intro _ h;refine AK h (fun _=>Oe) ?_;rintro⟨v42,v43⟩ h;refine goC ?_;refine Ad h ?_ ?_<;>intro h
     ·refine⟨rfl,?_⟩;refine apO h rfl fun _ h=>?_;exact AQ h
     refine AN h (fun v47=>⟨yr 0 0::X::X::yO 4 JAE.toD v9::yi v7::yb v16::yr 7 0::yi v33::yi v42::yi v47::dd 100 ([]),Wg v16 v9 v35 v43⟩) ?_ ?_
     ·intro _ h;revert h;refine Aw (fun v49=>⟨yr 0 0::X::X::yO 4 JAE.toD v9::yi v7::yb v16::yr 7 0::yi v33::yi v42::yi v49::dd 100 ([]),Wg v16 v9 v35 v43⟩) ?_ ?_
      ·exact wk
      rintro _ v49 _ h p52;refine AN h (fun v53=>⟨yr 0 0::X::X::yO 4 JAE.toD v9::yi v7::yb v16::yr 7 0::yi v33::yi v42::yi v49::dd 56 (yb v53::dd 43 ([])),Wg v16 v9 v35 v43⟩) ?_ ?_
      ·intro _ h;refine⟨v35.length,DK,?_⟩;refine Aj h fun h=>?_;obtain⟨v55,g56,h⟩:=AD h;refine⟨rfl,BN (f:=D.i) g56,?_⟩;refine⟨rfl,D.i v55,(BS (f:=D.i) g56),?_⟩;exact AQ h
      rintro v53 h;refine goC ?_;refine Aj h fun h=>?_;refine goC ?_;refine⟨_,rfl,?_⟩;exact p52 _ _ wk h
     rintro v47 h;refine AN h (fun v57=>⟨yr 0 0::X::X::yO 4 JAE.toD v9::yi v7::yb v16::yr 7 0::yi v33::yi v42::yi v47::dd 72 (yb v57::dd 27 ([])),Wg v16 v9 v35 v43⟩) ?_ ?_
     ·intro _ h;refine⟨v35.length,DK,?_⟩;refine Br h fun h=>?_;obtain⟨v59,g60,h⟩:=AD h;refine⟨rfl,BN (f:=D.i) g60,?_⟩;refine⟨rfl,D.i v59,(BS (f:=D.i) g60),?_⟩;exact AQ h
     rintro v57 h;refine AN h (fun v61=>⟨yr 0 0::X::X::yO 4 JAE.toD v9::yi v7::yb v16::yr 7 0::yi v33::dd 102 ([]),yB (JAI.av v43)::N::N::N::yR 132 2 JAE.toD v9::N::N::yB [yb v16,yO 88 D.i v61]::nn 80 (yR 3 1 D.i v61::nn 22 ([]))⟩) ?_ ?_
     ·intro _ h;refine Ad h ?_ ?_<;>intro h
      ·refine .inl (dO ?_);(conv=>whnf);refine .inr (.inl ?_);obtain⟨_,g63,h⟩:=AD h;have g169c:=Ei g63;refine⟨aj (f:=D.i) g63,rfl,(Int.toNat 0),(Int.toNat v47-Int.toNat 0),rfl,rfl,?_⟩;refine⟨DK,List.map D.i (List.take (Int.toNat v47-Int.toNat 0) (List.drop (Int.toNat 0) v35)),WZ,?_⟩;refine apN (f:=D.i) h fun _ h=>?_;refine⟨rfl,?_⟩;refine apO h rfl fun _ h=>?_;(conv=>whnf);refine .inr (.inl ?_);obtain⟨_,g67,h⟩:=AD h;have g175c:=Ei g67;refine⟨Iz (f:=D.i) g67,rfl,(Int.toNat v47),(Int.toNat (v35.length:Int)-Int.toNat v47),rfl,(by rw[X10]),?_⟩;refine⟨DK,List.map D.i (List.take (Int.toNat (v35.length:Int)-Int.toNat v47) (List.drop (Int.toNat v47) v35)),WZ,?_⟩;refine apO h rfl fun _ h=>?_;refine cO ?_;exact AQ h
      exact B7 (.swap 52 88 rfl rfl rfl wk) h
     rintro v61 h;exact B7 (.swap 88 52 rfl rfl rfl wk) h
    rintro⟨v39,v40⟩ h;refine⟨_,rfl,?_⟩;exact p38 _ _ wk h
   rintro⟨v30,v31⟩ h;(conv=>whnf);refine .inl ?_;refine⟨rfl,?_⟩;refine⟨rfl,?_⟩;refine apO h rfl fun v70 h=>?_;refine⟨rfl,?_⟩;refine KD h (fun _=>KJ) fun _ h=>?_;refine AN h (fun v74=>⟨yr 0 0::X::X::yO 109 JAE.toD v74::yi v7::dd 105 ([]),yB (JAI.av v30)::nn 108 (yR 132 2 JAE.toD v74::N::[])⟩) ?_ ?_
   ·intro _ h;refine Ad h ?_ ?_<;>intro h
    ·refine⟨v70.length,DK,?_⟩;refine⟨_,rfl,?_⟩;(conv=>whnf);refine .inr (.inr ?_);obtain⟨v76,g77,h⟩:=AD h;refine⟨QR (f:=JAE.toD) g77,rfl,_,Lm (f:=JAE.toD) g77,?_⟩;exact AQ h
    exact B7 (.swap 4 109 rfl rfl rfl wk) h
   rintro v74 h;exact AQ h
  rintro⟨v13,v14⟩ h;refine⟨_,rfl,?_⟩;exact p12 _ _ (.swap 109 4 rfl rfl rfl wk) h
 rintro⟨v4,v5⟩ h;(conv=>whnf);refine .inl ?_;(conv=>whnf);refine .inl ?_;refine⟨rfl,?_⟩;exact fin h
theorem J2 {a0:JAB}{r:Bool}(h:EO a0=some r):yC wl 127 [AV.d (JAB.toD a0)] [] (.d (D.b r)) []:=by
 refine oK Tryz.f127 ⟨rfl,?_⟩;unfold EO at h;refine AN h (fun v1=>⟨X::X::yb v1::dd 18 ([]),nn 21 ([])⟩) ?_ ?_
 ·intro _ h;refine Aj h fun h=>?_;refine Aj h fun h=>?_;exact selC h
 rintro v1 h;exact fin h
theorem LU {a0:JAB}{a1:JAB}{r:Bool}(h:EU a0 a1=some r):yC wl 128 [AV.d (JAB.toD a0),AV.d (JAB.toD a1)] [] (.d (D.b r)) []:=by
 refine oK Tryz.f128 ⟨rfl,?_⟩;unfold EU at h;refine AN h (fun v1=>⟨dd 4 (yb v1::dd 19 ([])),nn 24 ([])⟩) ?_ ?_
 ·intro _ h;refine Br h fun h=>?_;exact selC h
 rintro v1 h;exact fin h
theorem Hu {a0:List JAB}{r:Bool}(h:E9 a0=some r):yC wl 77 [AV.d (D.l 2 JAB.toD a0)] [] (.d (D.b r)) []:=by
 refine oK Tryz.f77 ⟨rfl,?_⟩;unfold E9 at h;refine⟨a0.length,X10 _,?_⟩;refine AN h (fun _=>⟨y1 a0::dd 32 ([]),nn 33 ([])⟩) ?_ ?_
 ·intro _ h;revert h;refine Ah 5 2 JAB.toD rfl (fun i2 _=>⟨y1 a0::dd 4 (y1 a0::yi (a0.length:Int)::yi (i2:Int)::dd 25 ([])),nn 33 ([])⟩) ?_ ?_ ?_
  ·exact wk
  ·rintro _ K3 h;refine goC ?_;refine BK C5 ?_;exact AQ h
  rintro _ i2 x5 _ K3 b2 c2 e2 h p6;refine goC ?_;refine BJ (C0 b2) ?_;refine goC ?_;refine⟨BI (f:=JAB.toD) b2,JAB.toD x5,c2,rfl,?_⟩;refine AN h (fun v7=>⟨y1 a0::dd 4 (y1 a0::yi (a0.length:Int)::yi (i2:Int)::dd 20 (yb v7::dd 4 ([]))),nn 33 ([])⟩) ?_ ?_
  ·intro _ h;refine .inl (dO ?_);refine A2 h (fun _=>J2) (fun _=>rfl) fun _ h=>?_;refine Ad h ?_ ?_<;>intro h
   ·refine cO ?_;exact AQ h
   refine Ad h ?_ ?_<;>intro h
   ·refine⟨_,rfl,?_⟩;(conv=>whnf);refine By h (fun _=>rfl) fun _ h=>?_;refine A2 h (fun _=>LU) (fun _=>rfl) fun _ h=>?_;refine cO ?_;exact AQ h
   refine cO ?_;exact AQ h
  rintro v7 h;refine goC ?_;refine Ad h ?_ ?_<;>intro h
  ·exact fin h
  refine⟨_,e2,?_⟩;exact p6 _ _ wk h
 rintro _ h;refine⟨a0.length,X10 _,?_⟩;exact fin h
theorem UC {a0:List JAB}{a1:JAB}{r:Bool}(h:Gm a0 a1=some r):yC wl 132 [AV.d (D.l 2 JAB.toD a0),AV.d (JAB.toD a1)] [] (.d (D.b r)) []:=by
 refine oK Tryz.f132 ⟨rfl,?_⟩;unfold Gm at h;refine⟨a0.length,X10 _,?_⟩;refine AN h (fun _=>⟨dd 17 ([]),nn 17 ([])⟩) ?_ ?_
 ·intro _ h;revert h;refine Ah 7 2 JAB.toD rfl (fun i2 _=>⟨X::X::X::yr 3 0::X::X::X::y1 a0::yi (a0.length:Int)::yi (i2:Int)::dd 7 ([]),N::N::N::yB (JAB.av a1)::nn 13 ([])⟩) ?_ ?_ ?_
  ·exact wk
  ·rintro _ K3 h;refine goC ?_;refine BK C5 ?_;exact AQ h
  rintro _ i2 x5 _ K3 b2 c2 e2 h p6;refine goC ?_;refine BJ (C0 b2) ?_;refine goC ?_;refine⟨BI (f:=JAB.toD) b2,JAB.toD x5,c2,rfl,?_⟩;refine goC ?_;refine Ad h ?_ ?_<;>intro h
  ·exact fin h
  refine⟨_,e2,?_⟩;exact p6 _ _ wk h
 rintro _ h;exact fin h
theorem Uh {a0:List JAB}{a1:JAB}{r:(List JAB)×Int}(h:Ik a0 a1=some r):yC wl 89 [AV.d (D.l 2 JAB.toD a0),AV.d (JAB.toD a1)] [] (.tup [.d (D.l 2 JAB.toD r.1),.d (D.i r.2)]) []:=by
 refine oK Tryz.f89 ⟨rfl,?_⟩;unfold Ik at h;refine goC ?_;refine AN h (fun v1=>⟨y1 a0::X::X::yr 3 0::X::X::X::yb v1::dd 43 ([]),N::N::N::yB (JAB.av a1)::nn 47 ([])⟩) ?_ ?_
 ·intro _ h;refine AK h (fun _=>Hu) fun _ h=>?_;refine Br h fun h=>?_;refine AK h (fun _=>J2) fun _ h=>?_;exact AQ h
 rintro v1 h;refine goC ?_;refine Ad h ?_ ?_<;>intro h
 ·(conv=>whnf);refine .inl ?_;refine⟨rfl,?_⟩;exact fin h
 refine AK h (fun _=>UC) fun _ h=>?_;refine goC ?_;refine Ad h ?_ ?_<;>intro h
 ·refine apN (f:=JAB.toD) h fun _ h=>?_;(conv=>whnf);refine .inl ?_;refine⟨rfl,?_⟩;exact fin h
 refine⟨a0.length,X10 _,?_⟩;refine goC ?_;refine Ad h ?_ ?_<;>intro h
 ·(conv=>whnf);refine .inl ?_;refine⟨rfl,?_⟩;exact fin h
 refine AN h (fun v10=>⟨y1 a0::X::X::yr 3 0::X::X::yi v10::dd 44 ([]),N::N::N::yB (JAB.av a1)::nn 47 ([])⟩) ?_ ?_
 ·intro _ h;revert h;refine Aw (fun v12=>⟨y1 a0::X::X::yr 3 0::X::X::yi v12::dd 44 ([]),N::N::N::yB (JAB.av a1)::nn 47 ([])⟩) ?_ ?_
  ·exact wk
  rintro _ v12 _ h p15;refine AN h (fun v16=>⟨y1 a0::X::X::yr 3 0::X::X::yi v12::dd 30 (yb v16::dd 13 ([])),N::N::N::yB (JAB.av a1)::nn 47 ([])⟩) ?_ ?_
  ·intro _ h;refine .inl (dO ?_);refine⟨a0.length,X10 _,?_⟩;refine Ad h ?_ ?_<;>intro h
   ·(conv=>whnf);refine By h (fun _=>rfl) fun _ h=>?_;refine A2 h (fun _=>LU) (fun _=>rfl) fun _ h=>?_;refine cO ?_;exact AQ h
   refine cO ?_;exact AQ h
  rintro v16 h;refine goC ?_;refine Aj h fun h=>?_;refine goC ?_;refine⟨_,rfl,?_⟩;exact p15 _ _ wk h
 rintro v10 h;refine .inl (dO ?_);(conv=>whnf);refine MQ (f:=JAB.toD) h fun _ h=>?_;refine apN (f:=JAB.toD) h fun _ h=>?_;refine⟨rfl,?_⟩;refine apO h rfl fun _ h=>?_;(conv=>whnf);refine PY (f:=JAB.toD) h fun _ h=>?_;refine apO h rfl fun _ h=>?_;refine cO ?_;(conv=>whnf);refine .inl ?_;refine⟨rfl,?_⟩;exact fin h
theorem He {a0:JAF}{r:Bool}(h:CO a0=some r):yC wl 129 [AV.d (JAF.toD a0)] [] (.d (D.b r)) []:=by
 refine oK Tryz.f129 ⟨rfl,?_⟩;unfold CO at h;refine AN h (fun v1=>⟨X::X::yb v1::dd 28 ([]),nn 31 ([])⟩) ?_ ?_
 ·intro _ h;refine Aj h fun h=>?_;refine Aj h fun h=>?_;refine Aj h fun h=>?_;refine Aj h fun h=>?_;exact selC h
 rintro v1 h;exact fin h
theorem Hq {a0:JAF}{a1:JAF}{r:Bool}(h:CG a0 a1=some r):yC wl 130 [AV.d (JAF.toD a0),AV.d (JAF.toD a1)] [] (.d (D.b r)) []:=by
 refine oK Tryz.f130 ⟨rfl,?_⟩;unfold CG at h;refine AN h (fun v1=>⟨dd 4 (yb v1::dd 33 ([])),nn 38 ([])⟩) ?_ ?_
 ·intro _ h;refine Br h fun h=>?_;refine Aj h fun h=>?_;refine Br h fun h=>?_;exact selC h
 rintro v1 h;exact fin h
theorem FU {a0:List JAF}{r:Bool}(h:Ci a0=some r):yC wl 78 [AV.d (D.l 3 JAF.toD a0)] [] (.d (D.b r)) []:=by
 refine oK Tryz.f78 ⟨rfl,?_⟩;unfold Ci at h;refine⟨a0.length,X10 _,?_⟩;refine AN h (fun _=>⟨y2 a0::dd 32 ([]),nn 33 ([])⟩) ?_ ?_
 ·intro _ h;revert h;refine Ah 5 3 JAF.toD rfl (fun i2 _=>⟨y2 a0::dd 4 (y2 a0::yi (a0.length:Int)::yi (i2:Int)::dd 25 ([])),nn 33 ([])⟩) ?_ ?_ ?_
  ·exact wk
  ·rintro _ K3 h;refine goC ?_;refine BK C5 ?_;exact AQ h
  rintro _ i2 x5 _ K3 b2 c2 e2 h p6;refine goC ?_;refine BJ (C0 b2) ?_;refine goC ?_;refine⟨BI (f:=JAF.toD) b2,JAF.toD x5,c2,rfl,?_⟩;refine AN h (fun v7=>⟨y2 a0::dd 4 (y2 a0::yi (a0.length:Int)::yi (i2:Int)::dd 20 (yb v7::dd 4 ([]))),nn 33 ([])⟩) ?_ ?_
  ·intro _ h;refine .inl (dO ?_);refine A2 h (fun _=>He) (fun _=>rfl) fun _ h=>?_;refine Ad h ?_ ?_<;>intro h
   ·refine cO ?_;exact AQ h
   refine Ad h ?_ ?_<;>intro h
   ·refine⟨_,rfl,?_⟩;(conv=>whnf);refine By h (fun _=>rfl) fun _ h=>?_;refine A2 h (fun _=>Hq) (fun _=>rfl) fun _ h=>?_;refine cO ?_;exact AQ h
   refine cO ?_;exact AQ h
  rintro v7 h;refine goC ?_;refine Ad h ?_ ?_<;>intro h
  ·exact fin h
  refine⟨_,e2,?_⟩;exact p6 _ _ wk h
 rintro _ h;refine⟨a0.length,X10 _,?_⟩;exact fin h
theorem M1 {a0:List JAF}{a1:JAF}{r:Bool}(h:Dp a0 a1=some r):yC wl 133 [AV.d (D.l 3 JAF.toD a0),AV.d (JAF.toD a1)] [] (.d (D.b r)) []:=by
 refine oK Tryz.f133 ⟨rfl,?_⟩;unfold Dp at h;refine⟨a0.length,X10 _,?_⟩;refine AN h (fun _=>⟨dd 17 ([]),nn 17 ([])⟩) ?_ ?_
 ·intro _ h;revert h;refine Ah 7 3 JAF.toD rfl (fun i2 _=>⟨X::X::X::yr 3 0::X::X::X::y2 a0::yi (a0.length:Int)::yi (i2:Int)::dd 7 ([]),N::N::N::yB (JAF.av a1)::nn 13 ([])⟩) ?_ ?_ ?_
  ·exact wk
  ·rintro _ K3 h;refine goC ?_;refine BK C5 ?_;exact AQ h
  rintro _ i2 x5 _ K3 b2 c2 e2 h p6;refine goC ?_;refine BJ (C0 b2) ?_;refine goC ?_;refine⟨BI (f:=JAF.toD) b2,JAF.toD x5,c2,rfl,?_⟩;refine goC ?_;refine Ad h ?_ ?_<;>intro h
  ·exact fin h
  refine⟨_,e2,?_⟩;exact p6 _ _ wk h
 rintro _ h;exact fin h
theorem MP {a0:List JAF}{a1:JAF}{r:(List JAF)×Int}(h:Et a0 a1=some r):yC wl 90 [AV.d (D.l 3 JAF.toD a0),AV.d (JAF.toD a1)] [] (.tup [.d (D.l 3 JAF.toD r.1),.d (D.i r.2)]) []:=by
 refine oK Tryz.f90 ⟨rfl,?_⟩;unfold Et at h;refine goC ?_;refine AN h (fun v1=>⟨y2 a0::X::X::yr 3 0::X::X::X::yb v1::dd 43 ([]),N::N::N::yB (JAF.av a1)::nn 47 ([])⟩) ?_ ?_
 ·intro _ h;refine AK h (fun _=>FU) fun _ h=>?_;refine Br h fun h=>?_;refine AK h (fun _=>He) fun _ h=>?_;exact AQ h
 rintro v1 h;refine goC ?_;refine Ad h ?_ ?_<;>intro h
 ·(conv=>whnf);refine .inl ?_;refine⟨rfl,?_⟩;exact fin h
 refine AK h (fun _=>M1) fun _ h=>?_;refine goC ?_;refine Ad h ?_ ?_<;>intro h
 ·refine apN (f:=JAF.toD) h fun _ h=>?_;(conv=>whnf);refine .inl ?_;refine⟨rfl,?_⟩;exact fin h
 refine⟨a0.length,X10 _,?_⟩;refine goC ?_;refine Ad h ?_ ?_<;>intro h
 ·(conv=>whnf);refine .inl ?_;refine⟨rfl,?_⟩;exact fin h
 refine AN h (fun v10=>⟨y2 a0::X::X::yr 3 0::X::X::yi v10::dd 44 ([]),N::N::N::yB (JAF.av a1)::nn 47 ([])⟩) ?_ ?_
 ·intro _ h;revert h;refine Aw (fun v12=>⟨y2 a0::X::X::yr 3 0::X::X::yi v12::dd 44 ([]),N::N::N::yB (JAF.av a1)::nn 47 ([])⟩) ?_ ?_
  ·exact wk
  rintro _ v12 _ h p15;refine AN h (fun v16=>⟨y2 a0::X::X::yr 3 0::X::X::yi v12::dd 30 (yb v16::dd 13 ([])),N::N::N::yB (JAF.av a1)::nn 47 ([])⟩) ?_ ?_
  ·intro _ h;refine .inl (dO ?_);refine⟨a0.length,X10 _,?_⟩;refine Ad h ?_ ?_<;>intro h
   ·(conv=>whnf);refine By h (fun _=>rfl) fun _ h=>?_;refine A2 h (fun _=>Hq) (fun _=>rfl) fun _ h=>?_;refine cO ?_;exact AQ h
   refine cO ?_;exact AQ h
  rintro v16 h;refine goC ?_;refine Aj h fun h=>?_;refine goC ?_;refine⟨_,rfl,?_⟩;exact p15 _ _ wk h
 rintro v10 h;refine .inl (dO ?_);(conv=>whnf);refine MQ (f:=JAF.toD) h fun _ h=>?_;refine apN (f:=JAF.toD) h fun _ h=>?_;refine⟨rfl,?_⟩;refine apO h rfl fun _ h=>?_;(conv=>whnf);refine PY (f:=JAF.toD) h fun _ h=>?_;refine apO h rfl fun _ h=>?_;refine cO ?_;(conv=>whnf);refine .inl ?_;refine⟨rfl,?_⟩;exact fin h
theorem IU {a0:JAI}{r:(List JAB)×(List JAF)×JAI}(h:Cd a0=some r):yC wl 45 [.ref 0 0] [.box (JAI.av a0)] (.tup [.d (D.l 2 JAB.toD r.1),.d (D.l 3 JAF.toD r.2.1)]) [.box (JAI.av r.2.2)]:=by
 refine oK Tryz.f45 ⟨rfl,?_⟩;unfold Cd at h;refine AK h (fun _=>AG) ?_;rintro⟨_,_⟩ h;refine AN h (fun (v4,v5)=>⟨yr 0 0::X::X::X::y1 v4::AV.own 6 (List.map JAF.toD []).length::dd 50 ([]),yB (JAI.av v5)::nn 5 (some (OB.row 141 3 (List.map JAF.toD []) .no)::nn 50 ([]))⟩) ?_ ?_
 ·intro _ h;revert h;refine Aw (fun (v7,v8,v9)=>⟨yr 0 0::X::X::X::y1 v7::AV.own 6 (List.map JAF.toD []).length::yi v8::dd 49 ([]),yB (JAI.av v9)::nn 5 (some (OB.row 141 3 (List.map JAF.toD []) .no)::nn 50 ([]))⟩) ?_ ?_
  ·exact wk
  rintro _ ⟨v7,v8,v9⟩ _ h p12;refine goC ?_;refine Aj h fun h=>?_;refine goC ?_;refine .inl (dO ?_);refine A2 h (fun _=>AG) (fun _=>rfl) ?_;rintro⟨_,_⟩ h;obtain⟨v16,g17,h⟩:=AD h;refine⟨rfl,BN (f:=D.i) g17,?_⟩;refine⟨rfl,D.i v16,(BS (f:=D.i) g17),?_⟩;refine A2 h (fun _=>AG) (fun _=>rfl) ?_;rintro⟨_,_⟩ h;refine⟨_,rfl,?_⟩;refine A2 h (fun _=>AG) (fun _=>rfl) ?_;rintro⟨_,_⟩ h;obtain⟨v24,g25,h⟩:=AD h;refine⟨rfl,BN (f:=D.i) g25,?_⟩;refine⟨rfl,D.i v24,(BS (f:=D.i) g25),?_⟩;refine A2 h (fun _=>Uh) (fun _=>rfl) ?_;rintro⟨_,_⟩ h;refine cO ?_;refine⟨_,rfl,?_⟩;exact p12 _ _ wk h
 rintro⟨v4,v5⟩ h;refine AK h (fun _=>AG) ?_;rintro⟨_,_⟩ h;refine AN h (fun (v32,v33)=>⟨dd 4 (y1 v4::y2 v32::dd 50 ([])),yB (JAI.av v33)::nn 56 ([])⟩) ?_ ?_
 ·intro _ h;revert h;refine Aw (fun (v35,v36,v37)=>⟨yr 0 0::X::X::X::y1 v4::y2 v35::X::yi v36::dd 48 ([]),yB (JAI.av v37)::nn 56 ([])⟩) ?_ ?_
  ·exact wk
  rintro _ ⟨v35,v36,v37⟩ _ h p40;refine goC ?_;refine Aj h fun h=>?_;refine goC ?_;refine .inl (dO ?_);refine A2 h (fun _=>AG) (fun _=>rfl) ?_;rintro⟨_,_⟩ h;obtain⟨v44,g45,h⟩:=AD h;refine⟨rfl,BN (f:=D.i) g45,?_⟩;refine⟨rfl,D.i v44,(BS (f:=D.i) g45),?_⟩;refine A2 h (fun _=>AG) (fun _=>rfl) ?_;rintro⟨_,_⟩ h;refine A2 h (fun _=>AG) (fun _=>rfl) ?_;rintro⟨_,_⟩ h;refine A2 h (fun _=>MP) (fun _=>rfl) ?_;rintro⟨_,_⟩ h;refine cO ?_;refine⟨_,rfl,?_⟩;exact p40 _ _ wk h
 rintro⟨v32,v33⟩ h;exact fin h
theorem L0 {a0:JAI}{a1:Int}{r:(List UInt8)×JAI}(h:EZ a0 a1=some r):yC wl 46 [.ref 0 0,AV.d (D.i a1)] [.box (JAI.av a0)] (.d (D.l 1 D.u8 r.1)) [.box (JAI.av r.2)]:=by
 refine oK Tryz.f46 ⟨rfl,?_⟩;unfold EZ at h;refine⟨_,rfl,?_⟩;refine AK h (fun _=>AG) ?_;rintro⟨_,_⟩ h;refine AN h (fun (v4,v5)=>⟨dd 5 (yO 6 D.u8 v5::dd 16 ([])),yB (JAI.av v4)::nn 5 (yR 5 1 D.u8 v5::nn 16 ([]))⟩) ?_ ?_
 ·intro _ h;revert h;refine Aw (fun (v7,v8,v9)=>⟨yr 0 0::dd 4 (yO 6 D.u8 v9::yi v7::dd 15 ([])),yB (JAI.av v8)::nn 5 (yR 5 1 D.u8 v9::nn 16 ([]))⟩) ?_ ?_
  ·exact wk
  rintro _ ⟨v7,v8,v9⟩ _ h p12;refine goC ?_;refine Aj h fun h=>?_;refine goC ?_;refine AK h (fun _=>AG) ?_;rintro⟨_,_⟩ h;refine⟨_,Ar _,?_⟩;refine⟨rfl,?_⟩;refine apO h rfl fun _ h=>?_;refine⟨_,rfl,?_⟩;exact p12 _ _ wk h
 rintro⟨v4,v5⟩ h;(conv=>whnf);refine .inl ?_;(conv=>whnf);refine .inl ?_;refine⟨rfl,?_⟩;exact fin h
theorem L2 {a0:JAI}{r:JAD×JAI}(h:Ec a0=some r):yC wl 15 [.ref 0 0] [.box (JAI.av a0)] (.d (JAD.toD r.1)) [.box (JAI.av r.2)]:=by
 refine oKx 2 Tryz.f15 ⟨rfl,?_⟩;unfold Ec at h;refine AN h (fun _=>⟨yr 0 0::X::yr 3 0::dd 4 (AV.d (D.agg [D.i (-1),D.nil 2,D.b false,D.u64 (0:UInt64),D.u64 (0:UInt64),D.i (-1),D.i (-1),D.i (-1),D.nil 2,D.nil 3,D.nil 3])::dd 62 ([])),yB (JAI.av a0)::N::N::yB JAD.zv::nn 69 ([])⟩) ?_ ?_
 ·intro _ h;(conv=>whnf);refine inl Tryz.f17 71 (by kernel_rfl) (by kernel_rfl) ⟨rfl,?_⟩;exact AQ h
 rintro _ h;refine AK h (fun _=>AG) ?_;rintro⟨v2,_⟩ h;refine⟨_,rfl,?_⟩;refine AK h (fun _=>M3) ?_;rintro⟨v5,_⟩ h;refine AK h (fun _=>NQ) fun _ h=>?_;refine AK h (fun _=>PR) fun _ h=>?_;refine AK h (fun _=>AG) ?_;rintro⟨_,_⟩ h;obtain⟨v15,g16,h⟩:=AD h;refine⟨rfl,BN (f:=Addr.toD) g16,?_⟩;refine⟨rfl,Addr.toD v15,(BS (f:=Addr.toD) g16),?_⟩;refine .inl (dO ?_);refine A2 h (fun _=>AG) (fun _=>rfl) ?_;rintro⟨_,_⟩ h;obtain⟨v20,g21,h⟩:=AD h;refine⟨rfl,BN (f:=D.i) g21,?_⟩;refine⟨rfl,D.i v20,(BS (f:=D.i) g21),?_⟩;refine A2 h (fun _=>AG) (fun _=>rfl) ?_;rintro⟨_,_⟩ h;obtain⟨v25,g26,h⟩:=AD h;refine⟨rfl,BN (f:=D.i) g26,?_⟩;refine⟨rfl,D.i v25,(BS (f:=D.i) g26),?_⟩;refine cO ?_;refine AK h (fun _=>AG) ?_;rintro⟨_,_⟩ h;obtain⟨v30,g31,h⟩:=AD h;refine⟨rfl,BN (f:=D.i) g31,?_⟩;refine⟨rfl,D.i v30,(BS (f:=D.i) g31),?_⟩;refine AK h (fun _=>IU) ?_;rintro⟨v32,v33,_⟩ h;refine⟨([6,7,16,34,200,255]:List Int).length,DK,?_⟩;refine AN h (fun (v36,v37)=>⟨X::X::yr 3 0::yr 4 0::dd 66 ([]),yB (JAI.av v36)::N::N::yB JAD.zv::yB [yi (AI (v2-1)),y0 v5,AV.d (D.b v15.V6),AV.d (D.u64 v15.Hi),AV.d (D.u64 v15.Lo),yi v20,yi v25,yi v30,y1 v32,y2 v33,yO 67 JAA.toD v37]::nn 62 (yR 88 3 JAA.toD v37::nn 5 ([]))⟩) ?_ ?_
 ·intro _ h;revert h;refine Q9 51 3 1 .no D.i rfl (fun i39 (v40,v41)=>⟨fE (([6,7,16,34,200,255]:List Int).length:Int) (i39:Int) ([6,7,16,34,200,255]:List Int),fZ (AI (v2-1)) v20 v25 v30 v5 v32 v33 v41 ([6,7,16,34,200,255]:List Int) v15.V6 v15.Hi v15.Lo v40⟩) ?_ ?_ ?_
  ·exact wk
  ·rintro⟨v40,v41⟩ K42 h;refine goC ?_;exact AQ h
  rintro _ i39 x44 ⟨v40,v41⟩ K42 b39 c39 e39 h p45;refine goC ?_;refine BJ (C0 b39) ?_;refine goC ?_;refine⟨rfl,BI (f:=D.i) b39,?_⟩;refine⟨rfl,D.i x44,c39,?_⟩;refine AK h (fun _=>AG) ?_;rintro⟨_,_⟩ h;refine AN h (fun (v49,v50)=>⟨fE (([6,7,16,34,200,255]:List Int).length:Int) (i39:Int) ([6,7,16,34,200,255]:List Int),fZ (AI (v2-1)) v20 v25 v30 v5 v32 v33 v50 ([6,7,16,34,200,255]:List Int) v15.V6 v15.Hi v15.Lo v49⟩) ?_ ?_
  ·intro _ h;refine Aj h fun h=>?_;refine .inl (dO ?_);refine A2 h (fun _=>L0) (fun _=>rfl) ?_;rintro⟨_,_⟩ h;refine⟨rfl,?_⟩;refine apO h rfl fun _ h=>?_;refine cO ?_;exact AQ h
  rintro⟨v49,v50⟩ h;refine⟨_,e39,?_⟩;exact p45 _ _ wk h
 rintro⟨v36,v37⟩ h;(conv=>whnf);refine .inl ?_;refine⟨rfl,?_⟩;exact fin h
theorem Ns {a0:JAI}{r:Addr×JAI}(h:Es a0=some r):yC wl 47 [.ref 0 0] [.box (JAI.av a0)] (.d (Addr.toD r.1)) [.box (JAI.av r.2)]:=by
 refine oK Tryz.f47 ⟨rfl,?_⟩;unfold Es at h;refine AK h (fun _=>AG) ?_;rintro⟨_,_⟩ h;refine goC ?_;refine goC ?_;refine Ad h ?_ ?_<;>intro h
 ·refine AK h (fun _=>AG) ?_;rintro⟨_,_⟩ h;refine⟨by decide,_,rfl,?_⟩;refine⟨_,rfl,?_⟩;refine AK h (fun _=>AG) ?_;rintro⟨_,_⟩ h;refine⟨_,rfl,?_⟩;refine⟨_,Av _,?_⟩;exact fin h
 refine goC ?_;refine Ad h ?_ ?_<;>intro h
 ·refine AK h (fun _=>AG) ?_;rintro⟨_,_⟩ h;refine⟨_,Av _,?_⟩;refine⟨_,Av _,?_⟩;refine AK h (fun _=>AG) ?_;rintro⟨_,_⟩ h;refine⟨_,Av _,?_⟩;exact fin h
 refine goC ?_;refine Ad h ?_ ?_<;>intro h
 ·refine AK h (fun _=>AG) ?_;rintro⟨_,_⟩ h;obtain⟨v19,g20,h⟩:=AD h;refine⟨rfl,BN (f:=D.u64) g20,?_⟩;refine⟨rfl,D.u64 v19,(BS (f:=D.u64) g20),?_⟩;exact fin h
 refine goC ?_;refine Ad h ?_ ?_<;>intro h
 ·refine .inl (dO ?_);refine A2 h (fun _=>AG) (fun _=>rfl) ?_;rintro⟨_,_⟩ h;obtain⟨v24,g25,h⟩:=AD h;refine⟨rfl,BN (f:=D.u64) g25,?_⟩;refine⟨rfl,D.u64 v24,(BS (f:=D.u64) g25),?_⟩;refine A2 h (fun _=>AG) (fun _=>rfl) ?_;rintro⟨_,_⟩ h;obtain⟨v29,g30,h⟩:=AD h;refine⟨rfl,BN (f:=D.u64) g30,?_⟩;refine⟨rfl,D.u64 v29,(BS (f:=D.u64) g30),?_⟩;refine cO ?_;exact fin h
 refine goC ?_;refine Ad h ?_ ?_<;>intro h
 ·refine AK h (fun _=>AG) ?_;rintro⟨_,_⟩ h;refine⟨_,Av _,?_⟩;refine AK h (fun _=>AG) ?_;rintro⟨_,_⟩ h;refine⟨_,rfl,?_⟩;refine⟨_,Av _,?_⟩;refine⟨Int.natCast_nonneg _,_,Av _,?_⟩;refine AK h (fun _=>AG) ?_;rintro⟨_,_⟩ h;refine⟨_,Av _,?_⟩;refine AK h (fun _=>AG) ?_;rintro⟨_,_⟩ h;refine⟨_,rfl,?_⟩;refine⟨_,Av _,?_⟩;refine⟨Int.natCast_nonneg _,_,Av _,?_⟩;exact fin h
 refine AK h (fun _=>AG) ?_;rintro⟨_,_⟩ h;refine⟨_,Av _,?_⟩;exact fin h
theorem Hk {a0:Addr}{r:Bool}(h:Dy a0=some r):yC wl 76 [AV.d (Addr.toD a0)] [] (.d (D.b r)) []:=by
 refine oK Tryz.f76 ⟨rfl,?_⟩;unfold Dy at h;refine AN h (fun v1=>⟨X::X::yb v1::dd 12 ([]),nn 15 ([])⟩) ?_ ?_
 ·intro _ h;refine Br h fun h=>?_;exact selC h
 rintro v1 h;exact fin h
theorem QX {a0:Addr}{r:Int}(h:D3 a0=some r):yC wl 91 [AV.d (Addr.toD a0)] [] (.d (D.i r)) []:=by
 refine oK Tryz.f91 ⟨rfl,?_⟩;unfold D3 at h;refine goC ?_;refine Ad h ?_ ?_<;>intro h
 ·exact fin h
 exact fin h
theorem GU {a0:Addr}{r:(List UInt8)}(h:Bl a0=some r):yC wl 92 [AV.d (Addr.toD a0)] [] (AV.own 0 (List.map D.u8 r).length) [.row 5 1 (List.map D.u8 r) .no]:=by
 refine oK Tryz.f92 ⟨rfl,?_⟩;unfold Bl at h;refine AK h (fun _=>Hk) fun _ h=>?_;refine goC ?_;refine Ad h ?_ ?_<;>intro h
 ·(conv=>whnf);refine .inr ⟨X29 rfl,5,?_⟩;exact fin h
 refine AN h (fun v3=>⟨X::yr 1 0::X::yi v3::dd 31 ([]),N::yB (Addr.av a0)::nn 33 ([])⟩) ?_ ?_
 ·intro _ h;exact selC h
 rintro v3 h;refine⟨_,rfl,?_⟩;refine AN h (fun v5=>⟨dd 4 (yO 4 D.u8 v5::dd 30 ([])),nn 4 (yR 5 1 D.u8 v5::nn 30 ([]))⟩) ?_ ?_
 ·intro _ h;revert h;refine Aw (fun (v7,v8)=>⟨X::yr 1 0::X::X::yO 4 D.u8 v8::yi v7::dd 29 ([]),N::yB (Addr.av a0)::N::N::yR 5 1 D.u8 v8::nn 30 ([])⟩) ?_ ?_
  ·exact wk
  rintro _ ⟨v7,v8⟩ _ h p11;refine goC ?_;refine Aj h fun h=>?_;refine goC ?_;refine AN h (fun v12=>⟨X::yr 1 0::X::X::yO 4 D.u8 v8::yi v7::yu v12::dd 28 ([]),N::yB (Addr.av a0)::N::N::yR 5 1 D.u8 v8::nn 30 ([])⟩) ?_ ?_
  ·intro _ h;exact selC h
  rintro v12 h;refine⟨by decide,_,rfl,?_⟩;refine⟨_,Av _,?_⟩;refine⟨_,Av _,?_⟩;refine⟨Int.natCast_nonneg _,_,NU v12 _,?_⟩;refine⟨_,Ar _,?_⟩;refine⟨rfl,?_⟩;refine apO h rfl fun _ h=>?_;refine⟨_,rfl,?_⟩;exact p11 _ _ wk h
 rintro v5 h;(conv=>whnf);refine .inl ?_;(conv=>whnf);refine .inr ?_;exact fin h
theorem Ln {a0:List UInt8}{r:Addr×Int}(h:CY a0=some r):yC wl 93 [AV.d (D.l 1 D.u8 a0)] [] (.tup [.d (Addr.toD r.1),.d (D.i r.2)]) []:=by
 refine oK Tryz.f93 ⟨rfl,?_⟩;unfold CY at h;refine AN h (fun v1=>⟨y3 a0::X::yr 2 0::dd 11 (yb v1::dd 28 ([])),N::N::yB Addr.zv::nn 40 ([])⟩) ?_ ?_
 ·intro _ h;refine⟨a0.length,X10 _,?_⟩;refine Aj h fun h=>?_;refine⟨a0.length,X10 _,?_⟩;exact AQ h
 rintro v1 h;refine goC ?_;refine Ad h ?_ ?_<;>intro h
 ·exact fin h
 refine⟨a0.length,X10 _,?_⟩;refine⟨a0.length,X10 _,?_⟩;refine AN h (fun v3=>⟨X::X::yr 2 0::X::yr 4 0::dd 38 ([]),bW v3⟩) ?_ ?_
 ·intro _ h;revert h;refine Ah 20 1 D.u8 rfl (fun i5 v6=>⟨X::X::yr 2 0::X::yr 4 0::dd 15 (y3 a0::yi (a0.length:Int)::yi (i5:Int)::dd 20 ([])),bW v6⟩) ?_ ?_ ?_
  ·exact wk
  ·rintro v6 K7 h;refine goC ?_;refine BK C5 ?_;exact AQ h
  rintro _ i5 x9 v6 K7 b5 c5 e5 h p10;refine goC ?_;refine BJ (C0 b5) ?_;refine goC ?_;refine⟨BI (f:=D.u8) b5,D.u8 x9,c5,rfl,?_⟩;refine⟨by decide,_,Av _,?_⟩;refine⟨by decide,_,NU v6.Lo _,?_⟩;refine⟨_,Av _,?_⟩;refine⟨by decide,_,Av _,?_⟩;refine⟨_,Av _,?_⟩;refine⟨_,Av _,?_⟩;refine⟨_,e5,?_⟩;exact p10 _ _ wk h
 rintro v3 h;exact fin h
theorem LY {a0:Addr}{a1:Int}{r:JAC×Int}(h:EC a0 a1=some r):yC wl 48 [AV.d (Addr.toD a0),AV.d (D.i a1)] [] (.tup [.d (JAC.toD r.1),.d (D.i r.2)]) []:=by
 refine oK Tryz.f48 ⟨rfl,?_⟩;unfold EC at h;refine goC ?_;refine AK h (fun _=>Hk) fun _ h=>?_;refine goC ?_;refine Ad h ?_ ?_<;>intro h
 ·exact fin h
 refine AN h (fun v3=>⟨X::yi a1::yr 2 0::X::yr 4 0::dd 10 (yb v3::dd 38 ([])),N::N::yB (Addr.av a0)::N::yB JAC.zv::nn 49 ([])⟩) ?_ ?_
 ·intro _ h;refine Br h fun h=>?_;refine AK h (fun _=>QX) fun _ h=>?_;exact AQ h
 rintro v3 h;refine goC ?_;refine Ad h ?_ ?_<;>intro h
 ·exact fin h
 refine O7 [26] h (fun _=>GU) fun _ h=>?_;refine AN h (fun v9=>⟨X::yi a1::X::X::yr 4 0::X::yO 26 D.u8 v9::dd 47 ([]),nn 4 (yB JAC.zv::nn 21 (yR 5 1 D.u8 v9::nn 27 ([])))⟩) ?_ ?_
 ·intro _ h;revert h;refine Aw (fun (v11,v12)=>⟨X::yi a1::X::X::yr 4 0::X::yO 26 D.u8 v12::yi v11::dd 46 ([]),nn 4 (yB JAC.zv::nn 21 (yR 5 1 D.u8 v12::nn 27 ([])))⟩) ?_ ?_
  ·exact wk
  rintro _ ⟨v11,v12⟩ _ h p15;refine⟨v12.length,DK,?_⟩;refine⟨_,rfl,?_⟩;refine goC ?_;refine Aj h fun h=>?_;refine goC ?_;refine⟨by decide,_,rfl,?_⟩;obtain⟨v16,g17,h⟩:=AD h;refine⟨rfl,BN (f:=D.u8) g17,?_⟩;refine⟨rfl,D.u8 v16,(BS (f:=D.u8) g17),?_⟩;refine⟨by decide,_,rfl,?_⟩;refine⟨_,Av _,?_⟩;refine⟨Int.natCast_nonneg _,_,dX (128:UInt8) _,?_⟩;refine⟨_,Ar _,?_⟩;obtain⟨v18,g19,h⟩:=AD h;refine⟨rfl,BN (f:=D.u8) g19,?_⟩;obtain⟨v20,g21,h⟩:=AD h;have g21l:=Hr g21;refine⟨rfl,rfl,D.u8 v18,(BS (f:=D.u8) g19),?_⟩;refine⟨_,L9 (f:=D.u8) g21,?_⟩;refine⟨_,rfl,?_⟩;exact p15 _ _ wk h
 rintro v9 h;refine⟨rfl,?_⟩;refine KD h (fun _=>Ln) ?_;rintro⟨_,_⟩ h;exact fin h
theorem HZ {a0:JAI}{r:JAC×JAI}(h:Db a0=some r):yC wl 16 [.ref 0 0] [.box (JAI.av a0)] (.d (JAC.toD r.1)) [.box (JAI.av r.2)]:=by
 refine oK Tryz.f16 ⟨rfl,?_⟩;unfold Db at h;refine AK h (fun _=>Ns) ?_;rintro⟨v1,v2⟩ h;refine AN h (fun v4=>⟨yr 0 0::X::yr 3 0::yr 4 0::yi v4::dd 34 ([]),bK v2 v1⟩) ?_ ?_
 ·intro _ h;exact selC h
 rintro v4 h;refine AK h (fun _=>AG) ?_;rintro⟨_,_⟩ h;refine goC ?_;refine AN h (fun (v9,v10)=>⟨X::X::yr 3 0::yr 4 0::yi v9::dd 34 ([]),bK v10 v1⟩) ?_ ?_
 ·intro _ h;refine Ad h ?_ ?_<;>intro h
  ·refine⟨_,rfl,?_⟩;refine AK h (fun _=>AG) ?_;rintro⟨_,_⟩ h;exact AQ h
  refine AN h (fun (v15,v16)=>⟨X::X::yr 3 0::yr 4 0::yi v15::dd 34 ([]),bK v16 v1⟩) ?_ ?_
  ·intro _ h;refine Ad h ?_ ?_<;>intro h
   ·refine AK h (fun _=>AG) ?_;rintro⟨_,_⟩ h;refine⟨_,rfl,?_⟩;exact AQ h
   refine AN h (fun (v21,v22)=>⟨X::X::yr 3 0::yr 4 0::yi v21::dd 34 ([]),bK v22 v1⟩) ?_ ?_
   ·intro _ h;refine Aj h fun h=>?_;refine AK h (fun _=>AG) ?_;rintro⟨_,_⟩ h;obtain⟨v27,g28,h⟩:=AD h;refine⟨rfl,BN (f:=D.i) g28,?_⟩;refine⟨rfl,D.i v27,(BS (f:=D.i) g28),?_⟩;exact AQ h
   rintro⟨v21,v22⟩ h;exact AQ h
  rintro⟨v15,v16⟩ h;exact AQ h
 rintro⟨v9,v10⟩ h;refine AK h (fun _=>LY) ?_;rintro⟨_,_⟩ h;exact fin h
theorem RY {a0:JAC}{r:Bool}(h:D1 a0=some r):yC wl 34 [AV.d (JAC.toD a0)] [] (.d (D.b r)) []:=by
 refine oK Tryz.f34 ⟨rfl,?_⟩;unfold D1 at h;refine AK h (fun _=>LY) ?_;rintro⟨_,_⟩ h;refine AN h (fun v4=>⟨X::X::yb v4::dd 17 ([]),nn 20 ([])⟩) ?_ ?_
 ·intro _ h;exact selC h
 rintro v4 h;exact fin h
theorem KR {a0:Int}{r:Int}(h:Bf a0=some r):yC wl 107 [AV.d (D.i a0)] [] (.d (D.i r)) []:=by
 refine oK Tryz.f107 ⟨rfl,?_⟩;unfold Bf at h;refine goC ?_;refine AN h (fun v1=>⟨X::X::X::yi a0::yb v1::dd 10 ([]),nn 15 ([])⟩) ?_ ?_
 ·intro _ h;refine Br h fun h=>?_;refine AN h (fun v3=>⟨X::X::X::yi a0::yb v3::dd 10 ([]),nn 15 ([])⟩) ?_ ?_
  ·intro _ h;refine Br h fun h=>?_;refine AN h (fun v5=>⟨X::X::X::yi a0::yb v5::dd 10 ([]),nn 15 ([])⟩) ?_ ?_
   ·intro _ h;exact selC h
   rintro v5 h;exact AQ h
  rintro v3 h;exact AQ h
 rintro v1 h;refine goC ?_;refine Ad h ?_ ?_<;>intro h
 ·exact fin h
 refine goC ?_;refine Ad h ?_ ?_<;>intro h
 ·exact fin h
 refine AN h (fun v7=>⟨dd 11 (yb v7::X::X::X::[]),nn 15 ([])⟩) ?_ ?_
 ·intro _ h;refine Br h fun h=>?_;refine AN h (fun v9=>⟨dd 11 (yb v9::X::X::X::[]),nn 15 ([])⟩) ?_ ?_
  ·intro _ h;exact selC h
  rintro v9 h;exact AQ h
 rintro v7 h;refine goC ?_;refine Ad h ?_ ?_<;>intro h
 ·exact fin h
 exact fin h
theorem Nx {a0:Int}{r:Bool}(h:DY a0=some r):yC wl 74 [AV.d (D.i a0)] [] (.d (D.b r)) []:=by
 refine oK Tryz.f74 ⟨rfl,?_⟩;unfold DY at h;refine AN h (fun v1=>⟨X::X::yb v1::dd 11 ([]),nn 14 ([])⟩) ?_ ?_
 ·intro _ h;refine AK h (fun _=>KR) fun _ h=>?_;refine Aj h fun h=>?_;exact selC h
 rintro v1 h;exact fin h
theorem KN {a0:JAD}{r:Bool}(h:F3 a0=some r):yC wl 35 [AV.d (JAD.toD a0)] [] (.d (D.b r)) []:=by
 refine oK Tryz.f35 ⟨rfl,?_⟩;unfold F3 at h;refine⟨a0.Other.length,X10 _,?_⟩;refine AN h (fun _=>⟨X::yr 1 0::dd 122 ([]),N::yB (JAD.av a0)::nn 122 ([])⟩) ?_ ?_
 ·intro _ h;revert h;refine Ah 6 3 JAA.toD rfl (fun i2 _=>⟨X::yr 1 0::dd 4 (AV.d (D.l 3 JAA.toD a0.Other)::yi (a0.Other.length:Int)::yi (i2:Int)::dd 115 ([])),N::yB (JAD.av a0)::nn 122 ([])⟩) ?_ ?_ ?_
  ·exact wk
  ·rintro _ K3 h;refine goC ?_;refine BK C5 ?_;exact AQ h
  rintro _ i2 x5 _ K3 b2 c2 e2 h p6;refine goC ?_;refine BJ (C0 b2) ?_;refine goC ?_;refine⟨BI (f:=JAA.toD) b2,JAA.toD x5,c2,rfl,?_⟩;refine AN h (fun v7=>⟨X::yr 1 0::dd 4 (AV.d (D.l 3 JAA.toD a0.Other)::yi (a0.Other.length:Int)::yi (i2:Int)::dd 44 (yb v7::dd 70 ([]))),N::yB (JAD.av a0)::nn 122 ([])⟩) ?_ ?_
  ·intro _ h;refine .inl (dO ?_);refine Ad h ?_ ?_<;>intro h
   ·refine cO ?_;exact AQ h
   refine Ad h ?_ ?_<;>intro h
   ·refine cO ?_;exact AQ h
   refine A2 h (fun _=>Nx) (fun _=>rfl) fun _ h=>?_;refine Ad h ?_ ?_<;>intro h
   ·refine cO ?_;exact AQ h
   refine Ad h ?_ ?_<;>intro h
   ·refine cO ?_;exact AQ h
   refine⟨x5.Data.length,X10 _,?_⟩;refine Ad h ?_ ?_<;>intro h
   ·refine cO ?_;exact AQ h
   refine Ad h ?_ ?_<;>intro h
   ·refine⟨_,rfl,?_⟩;(conv=>whnf);refine By h (fun _=>rfl) fun _ h=>?_;refine cO ?_;exact AQ h
   refine cO ?_;exact AQ h
  rintro v7 h;refine goC ?_;refine Ad h ?_ ?_<;>intro h
  ·exact fin h
  refine⟨_,e2,?_⟩;exact p6 _ _ wk h
 rintro _ h;refine AN h (fun v13=>⟨X::X::yb v13::dd 121 ([]),nn 124 ([])⟩) ?_ ?_
 ·intro _ h;refine Aj h fun h=>?_;refine Aj h fun h=>?_;refine AK h (fun _=>KJ) fun _ h=>?_;refine Aj h fun h=>?_;refine AK h (fun _=>Hk) fun _ h=>?_;refine Aj h fun h=>?_;refine Aj h fun h=>?_;refine Aj h fun h=>?_;refine Aj h fun h=>?_;refine Aj h fun h=>?_;refine Ad h ?_ ?_<;>intro h
  ·refine AK h (fun _=>Hu) fun _ h=>?_;refine Aj h fun h=>?_;refine AK h (fun _=>FU) fun _ h=>?_;refine Aj h fun h=>?_;refine⟨a0.Other.length,X10 _,?_⟩;exact AQ h
  refine Aj h fun h=>?_;refine Aj h fun h=>?_;refine AK h (fun _=>Hu) fun _ h=>?_;refine Aj h fun h=>?_;refine AK h (fun _=>FU) fun _ h=>?_;refine Aj h fun h=>?_;refine⟨a0.Other.length,X10 _,?_⟩;exact AQ h
 rintro v13 h;exact fin h
theorem SC {a0:List JAE}{a1:List JAE}{r:Bool}(h:EQ a0 a1=some r):yC wl 79 [AV.d (D.l 2 JAE.toD a0),AV.d (D.l 2 JAE.toD a1)] [] (.d (D.b r)) []:=by
 refine oK Tryz.f79 ⟨rfl,?_⟩;unfold EQ at h;refine⟨a0.length,X10 _,?_⟩;refine⟨a1.length,X10 _,?_⟩;refine goC ?_;refine Ad h ?_ ?_<;>intro h
 ·exact fin h
 refine⟨a0.length,X10 _,?_⟩;refine AN h (fun _=>⟨dd 61 ([]),nn 61 ([])⟩) ?_ ?_
 ·intro _ h;revert h;refine Ah 14 2 JAE.toD rfl (fun i2 _=>⟨X::y0 a1::dd 12 (y0 a0::yi (a0.length:Int)::yi (i2:Int)::dd 44 ([])),nn 61 ([])⟩) ?_ ?_ ?_
  ·exact wk
  ·rintro _ K3 h;refine goC ?_;refine BK C5 ?_;exact AQ h
  rintro _ i2 x5 _ K3 b2 c2 e2 h p6;refine goC ?_;refine BJ (C0 b2) ?_;refine AN h (fun _=>⟨X::y0 a1::dd 12 (y0 a0::yi (a0.length:Int)::yi (i2:Int)::dd 44 ([])),nn 61 ([])⟩) ?_ ?_
  ·intro _ h;refine⟨BI (f:=JAE.toD) b2,JAE.toD x5,c2,rfl,?_⟩;refine AN h (fun v8=>⟨X::y0 a1::X::X::X::yi (i2:Int)::yr 6 0::dd 7 (y0 a0::yi (a0.length:Int)::yi (i2:Int)::dd 23 (yb v8::dd 20 ([]))),nn 6 (yB (JAE.av x5)::nn 54 ([]))⟩) ?_ ?_
   ·intro _ h;refine .inl (dO ?_);(conv=>whnf);refine By h (fun _=>rfl) fun _ h=>?_;refine Ad h ?_ ?_<;>intro h
    ·refine cO ?_;exact AQ h
    refine⟨x5.ASNs.length,X10 _,?_⟩;(conv=>whnf);refine By h (fun _=>rfl) fun v12 h=>?_;refine⟨v12.ASNs.length,X10 _,?_⟩;refine cO ?_;exact AQ h
   rintro v8 h;refine goC ?_;refine Ad h ?_ ?_<;>intro h
   ·exact fin h
   refine⟨x5.ASNs.length,X10 _,?_⟩;refine AN h (fun _=>⟨X::y0 a1::dd 12 (y0 a0::yi (a0.length:Int)::yi (i2:Int)::dd 44 ([])),nn 61 ([])⟩) ?_ ?_
   ·intro _ h;revert h;refine Ah 42 1 D.i rfl (fun i15 _=>⟨X::y0 a1::X::X::X::yi (i2:Int)::dd 8 (y0 a0::yi (a0.length:Int)::yi (i2:Int)::dd 25 (AV.d (D.l 1 D.i x5.ASNs)::yi (x5.ASNs.length:Int)::yi (i15:Int)::dd 16 ([]))),nn 61 ([])⟩) ?_ ?_ ?_
    ·exact wk
    ·rintro _ K16 h;refine goC ?_;refine BK C5 ?_;exact AQ h
    rintro _ i15 x18 _ K16 b15 c15 e15 h p19;refine goC ?_;refine BJ (C0 b15) ?_;refine goC ?_;refine⟨BI (f:=D.i) b15,D.i x18,c15,rfl,?_⟩;(conv=>whnf);refine By h (fun _=>rfl) fun _ h=>?_;(conv=>whnf);refine By h (fun _=>rfl) fun _ h=>?_;refine goC ?_;refine Ad h ?_ ?_<;>intro h
    ·exact fin h
    refine⟨_,e15,?_⟩;exact p19 _ _ wk h
   rintro _ h;exact AQ h
  rintro _ h;refine⟨_,e2,?_⟩;exact p6 _ _ wk h
 rintro _ h;exact fin h
theorem Rw {a0:List JAB}{a1:List JAB}{r:Bool}(h:ER a0 a1=some r):yC wl 80 [AV.d (D.l 2 JAB.toD a0),AV.d (D.l 2 JAB.toD a1)] [] (.d (D.b r)) []:=by
 refine oK Tryz.f80 ⟨rfl,?_⟩;unfold ER at h;refine⟨a0.length,X10 _,?_⟩;refine⟨a1.length,X10 _,?_⟩;refine goC ?_;refine Ad h ?_ ?_<;>intro h
 ·exact fin h
 refine⟨a0.length,X10 _,?_⟩;refine AN h (fun _=>⟨dd 26 ([]),nn 26 ([])⟩) ?_ ?_
 ·intro _ h;revert h;refine Ah 12 2 JAB.toD rfl (fun i2 _=>⟨X::y1 a1::dd 10 (y1 a0::yi (a0.length:Int)::yi (i2:Int)::dd 11 ([])),nn 26 ([])⟩) ?_ ?_ ?_
  ·exact wk
  ·rintro _ K3 h;refine goC ?_;refine BK C5 ?_;exact AQ h
  rintro _ i2 x5 _ K3 b2 c2 e2 h p6;refine goC ?_;refine BJ (C0 b2) ?_;refine goC ?_;refine⟨BI (f:=JAB.toD) b2,JAB.toD x5,c2,rfl,?_⟩;refine .inl (dO ?_);(conv=>whnf);refine By h (fun _=>rfl) fun _ h=>?_;refine cO ?_;refine goC ?_;refine Ad h ?_ ?_<;>intro h
  ·exact fin h
  refine⟨_,e2,?_⟩;exact p6 _ _ wk h
 rintro _ h;exact fin h
theorem Ly {a0:List JAF}{a1:List JAF}{r:Bool}(h:CH a0 a1=some r):yC wl 81 [AV.d (D.l 3 JAF.toD a0),AV.d (D.l 3 JAF.toD a1)] [] (.d (D.b r)) []:=by
 refine oK Tryz.f81 ⟨rfl,?_⟩;unfold CH at h;refine⟨a0.length,X10 _,?_⟩;refine⟨a1.length,X10 _,?_⟩;refine goC ?_;refine Ad h ?_ ?_<;>intro h
 ·exact fin h
 refine⟨a0.length,X10 _,?_⟩;refine AN h (fun _=>⟨dd 26 ([]),nn 26 ([])⟩) ?_ ?_
 ·intro _ h;revert h;refine Ah 12 3 JAF.toD rfl (fun i2 _=>⟨X::y2 a1::dd 10 (y2 a0::yi (a0.length:Int)::yi (i2:Int)::dd 11 ([])),nn 26 ([])⟩) ?_ ?_ ?_
  ·exact wk
  ·rintro _ K3 h;refine goC ?_;refine BK C5 ?_;exact AQ h
  rintro _ i2 x5 _ K3 b2 c2 e2 h p6;refine goC ?_;refine BJ (C0 b2) ?_;refine goC ?_;refine⟨BI (f:=JAF.toD) b2,JAF.toD x5,c2,rfl,?_⟩;refine .inl (dO ?_);(conv=>whnf);refine By h (fun _=>rfl) fun _ h=>?_;refine cO ?_;refine goC ?_;refine Ad h ?_ ?_<;>intro h
  ·exact fin h
  refine⟨_,e2,?_⟩;exact p6 _ _ wk h
 rintro _ h;exact fin h
theorem Nu {a0:List JAA}{a1:List JAA}{r:Bool}(h:CV a0 a1=some r):yC wl 82 [AV.d (D.l 3 JAA.toD a0),AV.d (D.l 3 JAA.toD a1)] [] (.d (D.b r)) []:=by
 refine oK Tryz.f82 ⟨rfl,?_⟩;unfold CV at h;refine⟨a0.length,X10 _,?_⟩;refine⟨a1.length,X10 _,?_⟩;refine goC ?_;refine Ad h ?_ ?_<;>intro h
 ·exact fin h
 refine⟨a0.length,X10 _,?_⟩;refine AN h (fun _=>⟨dd 50 ([]),nn 50 ([])⟩) ?_ ?_
 ·intro _ h;revert h;refine Ah 12 3 JAA.toD rfl (fun i2 _=>⟨X::y4 a1::dd 10 (y4 a0::yi (a0.length:Int)::yi (i2:Int)::dd 35 ([])),nn 50 ([])⟩) ?_ ?_ ?_
  ·exact wk
  ·rintro _ K3 h;refine goC ?_;refine BK C5 ?_;exact AQ h
  rintro _ i2 x5 _ K3 b2 c2 e2 h p6;refine goC ?_;refine BJ (C0 b2) ?_;refine goC ?_;refine⟨BI (f:=JAA.toD) b2,JAA.toD x5,c2,rfl,?_⟩;refine AN h (fun v7=>⟨X::y4 a1::dd 10 (y4 a0::yi (a0.length:Int)::yi (i2:Int)::dd 33 (yb v7::X::[])),nn 50 ([])⟩) ?_ ?_
  ·intro _ h;refine .inl (dO ?_);(conv=>whnf);refine By h (fun _=>rfl) fun _ h=>?_;refine Ad h ?_ ?_<;>intro h
   ·refine cO ?_;exact AQ h
   (conv=>whnf);refine By h (fun _=>rfl) fun _ h=>?_;refine Ad h ?_ ?_<;>intro h
   ·refine cO ?_;exact AQ h
   refine⟨x5.Data,rfl,?_⟩;(conv=>whnf);refine By h (fun _=>rfl) fun v13 h=>?_;refine⟨v13.Data,rfl,?_⟩;refine cO ?_;exact AQ h
  rintro v7 h;refine goC ?_;refine Ad h ?_ ?_<;>intro h
  ·exact fin h
  refine⟨_,e2,?_⟩;exact p6 _ _ wk h
 rintro _ h;exact fin h
theorem Rq {a0:JAD}{a1:JAD}{r:Bool}(h:Dq a0 a1=some r):yC wl 36 [AV.d (JAD.toD a0),AV.d (JAD.toD a1)] [] (.d (D.b r)) []:=by
 refine oK Tryz.f36 ⟨rfl,?_⟩;unfold Dq at h;refine AN h (fun v1=>⟨dd 4 (yb v1::dd 61 ([])),nn 66 ([])⟩) ?_ ?_
 ·intro _ h;refine Aj h fun h=>?_;refine AK h (fun _=>SC) fun _ h=>?_;refine Aj h fun h=>?_;refine Aj h fun h=>?_;refine Aj h fun h=>?_;refine Aj h fun h=>?_;refine Aj h fun h=>?_;refine AK h (fun _=>Rw) fun _ h=>?_;refine Aj h fun h=>?_;refine AK h (fun _=>Ly) fun _ h=>?_;refine Aj h fun h=>?_;refine AK h (fun _=>Nu) fun _ h=>?_;exact AQ h
 rintro v1 h;exact fin h
theorem C4 {a0:Int}{a1:Int}{r:(List UInt8)}(h:AT a0 a1=some r):yC wl 106 [AV.d (D.i a0),AV.d (D.i a1)] [] (.d (D.l 1 D.u8 r)) []:=by
 refine oK Tryz.f106 ⟨rfl,?_⟩;unfold AT at h;refine⟨_,rfl,?_⟩;refine AN h (fun v1=>⟨dd 5 (yO 5 D.u8 v1::dd 17 ([])),nn 5 (yR 5 1 D.u8 v1::nn 17 ([]))⟩) ?_ ?_
 ·intro _ h;revert h;refine Aw (fun (v3,v4)=>⟨yi a0::dd 4 (yO 5 D.u8 v4::yi v3::dd 16 ([])),nn 5 (yR 5 1 D.u8 v4::nn 17 ([]))⟩) ?_ ?_
  ·exact wk
  rintro _ ⟨v3,v4⟩ _ h p7;refine goC ?_;refine Aj h fun h=>?_;refine goC ?_;refine⟨_,Av _,?_⟩;refine⟨_,Av _,?_⟩;refine⟨Int.natCast_nonneg _,_,rfl,?_⟩;refine⟨_,Ar _,?_⟩;refine⟨rfl,?_⟩;refine apO h rfl fun _ h=>?_;refine⟨_,rfl,?_⟩;exact p7 _ _ wk h
 rintro v1 h;(conv=>whnf);refine .inl ?_;(conv=>whnf);refine .inl ?_;refine⟨rfl,?_⟩;exact fin h
theorem RP {a0:JAD}{r:(List JAA)×Int}(h:GB a0=some r):yC wl 55 [AV.d (JAD.toD a0)] [] (.tup [.d (D.l 3 JAA.toD r.1),.d (D.i r.2)]) []:=by
 refine oK Tryz.f55 ⟨rfl,?_⟩;unfold GB at h;refine AK h (fun _=>KN) fun _ h=>?_;refine goC ?_;refine Ad h ?_ ?_<;>intro h
 ·exact fin h
 refine AN h (fun v3=>⟨Vi,N::yB (JAD.av a0)::N::N::some (OB.row 88 3 (List.map JAA.toD []) .no)::nn 19 (some (OB.map 3 44 (Bw D.i (D.l 1 D.u8) v3))::nn 170 ([]))⟩) ?_ ?_
 ·intro _ h;refine Aj h fun h=>?_;refine⟨_,Ar _,?_⟩;(conv=>whnf);refine .inl ?_;refine⟨rfl,?_⟩;refine⟨_,Ed (ek:=D.i) (ev:=(D.l 1 D.u8)) (l:=[]) (k:=1) (v:=([(Aa a0.Origin)]:List UInt8)) BP,?_⟩;exact AQ h
 rintro v3 h;refine AN h (fun v5=>⟨X::yr 1 0::X::X::AV.own 4 (List.map JAA.toD []).length::AV.mp 24::dd 35 (yb v5::dd 153 ([])),N::yB (JAD.av a0)::N::N::some (OB.row 88 3 (List.map JAA.toD []) .no)::nn 19 (some (OB.map 3 44 (Bw D.i (D.l 1 D.u8) v3))::nn 170 ([]))⟩) ?_ ?_
 ·intro _ h;refine Br h fun h=>?_;refine⟨a0.Path.length,X10 _,?_⟩;exact AQ h
 rintro v5 h;refine AN h (fun v7=>⟨Vi,N::yB (JAD.av a0)::N::N::some (OB.row 88 3 (List.map JAA.toD []) .no)::nn 19 (some (OB.map 3 44 (Bw D.i (D.l 1 D.u8) v7))::nn 170 ([]))⟩) ?_ ?_
 ·intro _ h;refine Aj h fun h=>?_;refine⟨a0.Path.length,X10 _,?_⟩;refine AN h (fun v9=>⟨X::yr 1 0::X::X::AV.own 4 (List.map JAA.toD []).length::AV.mp 24::yO 42 D.u8 v9::dd 188 ([]),N::yB (JAD.av a0)::N::N::some (OB.row 88 3 (List.map JAA.toD []) .no)::nn 19 (some (OB.map 3 44 (Bw D.i (D.l 1 D.u8) v3))::nn 17 (yR 5 1 D.u8 v9::nn 152 ([])))⟩) ?_ ?_
  ·intro _ h;revert h;refine Ah 44 2 JAE.toD rfl (fun i11 v12=>⟨dn (a0.Path.length:Int) (i11:Int) v12 a0.Path,N::yB (JAD.av a0)::N::N::some (OB.row 88 3 (List.map JAA.toD []) .no)::nn 19 (some (OB.map 3 44 (Bw D.i (D.l 1 D.u8) v3))::nn 17 (yR 5 1 D.u8 v12::nn 152 ([])))⟩) ?_ ?_ ?_
   ·exact wk
   ·rintro v12 K13 h;refine goC ?_;refine BK C5 ?_;exact AQ h
   rintro _ i11 x15 v12 K13 b11 c11 e11 h p16;refine goC ?_;refine BJ (C0 b11) ?_;refine AN h (fun v17=>⟨dn (a0.Path.length:Int) (i11:Int) v17 a0.Path,N::yB (JAD.av a0)::N::N::some (OB.row 88 3 (List.map JAA.toD []) .no)::nn 19 (some (OB.map 3 44 (Bw D.i (D.l 1 D.u8) v3))::nn 17 (yR 5 1 D.u8 v17::nn 152 ([])))⟩) ?_ ?_
   ·intro _ h;refine⟨BI (f:=JAE.toD) b11,JAE.toD x15,c11,rfl,?_⟩;refine AN h (fun v19=>⟨X::yr 1 0::X::X::AV.own 4 (List.map JAA.toD []).length::AV.mp 24::yO 42 D.u8 v12::X::yr 8 0::yv v19::dd 34 (AV.d (D.l 2 JAE.toD a0.Path)::yi (a0.Path.length:Int)::yi (i11:Int)::dd 148 ([])),N::yB (JAD.av a0)::N::N::some (OB.row 88 3 (List.map JAA.toD []) .no)::N::N::N::yB (JAE.av x15)::nn 15 (some (OB.map 3 44 (Bw D.i (D.l 1 D.u8) v3))::nn 17 (yR 5 1 D.u8 v12::nn 152 ([])))⟩) ?_ ?_
    ·intro _ h;exact selC h
    rintro v19 h;refine⟨x15.ASNs.length,X10 _,?_⟩;refine⟨_,Ar _,?_⟩;refine⟨rfl,?_⟩;refine apO h rfl fun _ h=>?_;refine⟨x15.ASNs.length,X10 _,?_⟩;refine AN h (fun v23=>⟨dn (a0.Path.length:Int) (i11:Int) v23 a0.Path,N::yB (JAD.av a0)::N::N::some (OB.row 88 3 (List.map JAA.toD []) .no)::nn 19 (some (OB.map 3 44 (Bw D.i (D.l 1 D.u8) v3))::nn 17 (yR 5 1 D.u8 v23::nn 152 ([])))⟩) ?_ ?_
    ·intro _ h;revert h;refine Ah 61 1 D.i rfl (fun i25 v26=>⟨X::yr 1 0::X::X::AV.own 4 (List.map JAA.toD []).length::AV.mp 24::yO 42 D.u8 v26::dd 37 (AV.d (D.l 2 JAE.toD a0.Path)::yi (a0.Path.length:Int)::yi (i11:Int)::dd 14 (AV.d (D.l 1 D.i x15.ASNs)::yi (x15.ASNs.length:Int)::yi (i25:Int)::dd 131 ([]))),N::yB (JAD.av a0)::N::N::some (OB.row 88 3 (List.map JAA.toD []) .no)::nn 19 (some (OB.map 3 44 (Bw D.i (D.l 1 D.u8) v3))::nn 17 (yR 5 1 D.u8 v26::nn 152 ([])))⟩) ?_ ?_ ?_
     ·exact wk
     ·rintro v26 K27 h;refine goC ?_;refine BK C5 ?_;exact AQ h
     rintro _ i25 x29 v26 K27 b25 c25 e25 h p30;refine goC ?_;refine BJ (C0 b25) ?_;refine goC ?_;refine⟨BI (f:=D.i) b25,D.i x29,c25,rfl,?_⟩;refine AK h (fun _=>C4) fun _ h=>?_;refine apO h rfl fun _ h=>?_;refine⟨_,e25,?_⟩;exact p30 _ _ wk h
    rintro v23 h;exact AQ h
   rintro v17 h;refine⟨_,e11,?_⟩;exact p16 _ _ wk h
  rintro v9 h;(conv=>whnf);refine .inl ?_;refine⟨rfl,?_⟩;refine⟨_,Ed (ek:=D.i) (ev:=(D.l 1 D.u8)) (l:=v3) (k:=2) (v:=v9) BP,?_⟩;exact AQ h
 rintro v7 h;refine AN h (fun v35=>⟨X::yr 1 0::X::X::AV.own 4 (List.map JAA.toD []).length::AV.mp 24::dd 78 (yb v35::dd 110 ([])),N::yB (JAD.av a0)::N::N::some (OB.row 88 3 (List.map JAA.toD []) .no)::nn 19 (some (OB.map 3 44 (Bw D.i (D.l 1 D.u8) v7))::nn 170 ([]))⟩) ?_ ?_
 ·intro _ h;exact selC h
 rintro v35 h;refine AN h (fun v37=>⟨Vi,N::yB (JAD.av a0)::N::N::some (OB.row 88 3 (List.map JAA.toD []) .no)::nn 19 (some (OB.map 3 44 (Bw D.i (D.l 1 D.u8) v37))::nn 170 ([]))⟩) ?_ ?_
 ·intro _ h;refine Aj h fun h=>?_;refine O7 [88] h (fun _=>GU) fun v39 h=>?_;(conv=>whnf);refine .inl ?_;refine⟨rfl,?_⟩;refine⟨_,Ed (ek:=D.i) (ev:=(D.l 1 D.u8)) (l:=v7) (k:=3) (v:=v39) BP,?_⟩;exact AQ h
 rintro v37 h;refine AN h (fun v41=>⟨Vi,N::yB (JAD.av a0)::N::N::some (OB.row 88 3 (List.map JAA.toD []) .no)::nn 19 (some (OB.map 3 44 (Bw D.i (D.l 1 D.u8) v41))::nn 170 ([]))⟩) ?_ ?_
 ·intro _ h;refine Aj h fun h=>?_;refine AK h (fun _=>C4) fun v43 h=>?_;refine⟨_,Ed (ek:=D.i) (ev:=(D.l 1 D.u8)) (l:=v37) (k:=4) (v:=v43) BP,?_⟩;exact AQ h
 rintro v41 h;refine AN h (fun v45=>⟨Vi,N::yB (JAD.av a0)::N::N::some (OB.row 88 3 (List.map JAA.toD []) .no)::nn 19 (some (OB.map 3 44 (Bw D.i (D.l 1 D.u8) v45))::nn 170 ([]))⟩) ?_ ?_
 ·intro _ h;refine Aj h fun h=>?_;refine AK h (fun _=>C4) fun v47 h=>?_;refine⟨_,Ed (ek:=D.i) (ev:=(D.l 1 D.u8)) (l:=v41) (k:=5) (v:=v47) BP,?_⟩;exact AQ h
 rintro v45 h;refine⟨a0.Communities.length,X10 _,?_⟩;refine AN h (fun (v49,v50)=>⟨Vi,N::yB (JAD.av a0)::N::N::some (OB.row 88 3 (List.map JAA.toD []) .no)::nn 19 (some (OB.amap 3 44 (Bw D.i (D.l 1 D.u8) v49) (.int .i64 8) 112 (List.map D.u8 v50).length)::nn 87 (some (OB.row 5 1 (List.map D.u8 v50) .yes)::nn 82 ([])))⟩) ?_ ?_
 ·intro _ h;obtain⟨_,g52,h⟩:=AD h;revert h;refine Ah 104 2 JAB.toD rfl (fun i53 (v54,v55)=>⟨X::yr 1 0::X::X::AV.own 4 (List.map JAA.toD []).length::AV.mp 24::dd 98 (AV.d (D.l 2 JAB.toD a0.Communities)::yi (a0.Communities.length:Int)::yi (i53:Int)::dd 88 ([])),N::yB (JAD.av a0)::N::N::some (OB.row 88 3 (List.map JAA.toD []) .no)::nn 19 (some (OB.amap 3 44 (Bw D.i (D.l 1 D.u8) v54) (.int .i64 8) 112 (List.map D.u8 v55).length)::nn 87 (some (OB.row 5 1 (List.map D.u8 v55) .yes)::nn 82 ([])))⟩) ?_ ?_ ?_
  ·exact (.mk rfl (And.intro (.refl _) (And.intro (.refl _) (And.intro (.refl _) (And.intro (.refl _) (And.intro (.refl _) (And.intro (.refl _) True.intro)))))) (And.intro ⟨_,rfl,And.intro ⟨rfl,.refl _⟩ (And.intro ⟨rfl,.refl _⟩ (And.intro ⟨rfl,.refl _⟩ (And.intro ⟨rfl,.refl _⟩ (And.intro ⟨rfl,.refl _⟩ (And.intro ⟨rfl,.refl _⟩ (And.intro ⟨rfl,.refl _⟩ (And.intro ⟨rfl,.refl _⟩ (And.intro ⟨rfl,.refl _⟩ (And.intro ⟨rfl,.refl _⟩ (And.intro ⟨rfl,.refl _⟩ (True.intro)))))))))))⟩ (And.intro (.inl ⟨_,rfl,⟨id,trivial⟩⟩) (And.intro (.inr ⟨.inl rfl,⟨_,PL BP g52⟩,rfl,rfl,_,_,_,rfl⟩) (And.intro (.inr ⟨rfl,rfl,by decide⟩) (True.intro))))) rfl)
  ·rintro⟨v54,v55⟩ K56 h;refine goC ?_;refine BK C5 ?_;exact AQ h
  rintro _ i53 x58 ⟨v54,v55⟩ K56 b53 c53 e53 h p59;refine goC ?_;refine BJ (C0 b53) ?_;refine goC ?_;refine⟨BI (f:=JAB.toD) b53,JAB.toD x58,c53,rfl,?_⟩;refine .inl (dO ?_);(conv=>whnf);refine .inr ⟨rfl,rfl,⟨_,Bd (ek:=D.i) (ev:=(D.l 1 D.u8)) (l:=v54) (k:=8) BP⟩,rfl,?_⟩;refine A2 h (fun _=>C4) (fun _=>rfl) fun _ h=>?_;refine apO h rfl fun _ h=>?_;refine A2 h (fun _=>C4) (fun _=>rfl) fun _ h=>?_;refine apO h rfl fun v66 h=>?_;(conv=>whnf);refine .inr ?_;refine⟨rfl,?_⟩;refine⟨_,Ed (ek:=D.i) (ev:=(D.l 1 D.u8)) (l:=v54) (k:=8) (v:=v66) BP,?_⟩;refine cO ?_;refine⟨_,e53,?_⟩;exact p59 _ _ wk h
 rintro⟨v49,v50⟩ h;refine⟨a0.JAF.length,X10 _,?_⟩;refine AN h (fun (v68,v69)=>⟨Vi,N::yB (JAD.av a0)::N::N::some (OB.row 88 3 (List.map JAA.toD []) .no)::nn 19 (some (OB.amap 3 44 (Bw D.i (D.l 1 D.u8) v68) (.int .i64 32) 131 (List.map D.u8 v69).length)::nn 106 (some (OB.row 5 1 (List.map D.u8 v69) .yes)::nn 63 ([])))⟩) ?_ ?_
 ·intro _ h;obtain⟨_,g71,h⟩:=AD h;revert h;refine Ah 123 3 JAF.toD rfl (fun i72 (v73,v74)=>⟨X::yr 1 0::X::X::AV.own 4 (List.map JAA.toD []).length::AV.mp 24::dd 117 (AV.d (D.l 3 JAF.toD a0.JAF)::yi (a0.JAF.length:Int)::yi (i72:Int)::dd 69 ([])),N::yB (JAD.av a0)::N::N::some (OB.row 88 3 (List.map JAA.toD []) .no)::nn 19 (some (OB.amap 3 44 (Bw D.i (D.l 1 D.u8) v73) (.int .i64 32) 131 (List.map D.u8 v74).length)::nn 106 (some (OB.row 5 1 (List.map D.u8 v74) .yes)::nn 63 ([])))⟩) ?_ ?_ ?_
  ·exact (.mk rfl (And.intro (.refl _) (And.intro (.refl _) (And.intro (.refl _) (And.intro (.refl _) (And.intro (.refl _) (And.intro (.refl _) True.intro)))))) (And.intro ⟨_,rfl,And.intro ⟨rfl,.refl _⟩ (And.intro ⟨rfl,.refl _⟩ (And.intro ⟨rfl,.refl _⟩ (And.intro ⟨rfl,.refl _⟩ (And.intro ⟨rfl,.refl _⟩ (And.intro ⟨rfl,.refl _⟩ (And.intro ⟨rfl,.refl _⟩ (And.intro ⟨rfl,.refl _⟩ (And.intro ⟨rfl,.refl _⟩ (And.intro ⟨rfl,.refl _⟩ (And.intro ⟨rfl,.refl _⟩ (True.intro)))))))))))⟩ (And.intro (.inl ⟨_,rfl,⟨id,trivial⟩⟩) (And.intro (.inr ⟨.inr ⟨_,_,_,rfl⟩,⟨_,PL BP g71⟩,rfl,rfl,_,_,_,rfl⟩) (And.intro (.inr ⟨rfl,rfl,by decide⟩) (True.intro))))) rfl)
  ·rintro⟨v73,v74⟩ K75 h;refine goC ?_;refine BK C5 ?_;exact AQ h
  rintro _ i72 x77 ⟨v73,v74⟩ K75 b72 c72 e72 h p78;refine goC ?_;refine BJ (C0 b72) ?_;refine goC ?_;refine⟨BI (f:=JAF.toD) b72,JAF.toD x77,c72,rfl,?_⟩;refine .inl (dO ?_);(conv=>whnf);refine .inr ⟨rfl,rfl,⟨_,Bd (ek:=D.i) (ev:=(D.l 1 D.u8)) (l:=v73) (k:=32) BP⟩,rfl,?_⟩;refine A2 h (fun _=>C4) (fun _=>rfl) fun _ h=>?_;refine apO h rfl fun _ h=>?_;refine A2 h (fun _=>C4) (fun _=>rfl) fun _ h=>?_;refine apO h rfl fun _ h=>?_;refine A2 h (fun _=>C4) (fun _=>rfl) fun _ h=>?_;refine apO h rfl fun v89 h=>?_;(conv=>whnf);refine .inr ?_;refine⟨rfl,?_⟩;refine⟨_,Ed (ek:=D.i) (ev:=(D.l 1 D.u8)) (l:=v73) (k:=32) (v:=v89) BP,?_⟩;refine cO ?_;refine⟨_,e72,?_⟩;exact p78 _ _ wk h
 rintro⟨v68,v69⟩ h;refine AN h (fun v91=>⟨Vi,N::yB (JAD.av a0)::N::N::some (OB.row 88 3 (List.map JAA.toD []) .no)::nn 19 (some (OB.map 3 44 (Bw D.i (D.l 1 D.u8) v91))::nn 170 ([]))⟩) ?_ ?_
 ·intro _ h;refine Aj h fun h=>?_;refine AK h (fun _=>C4) fun v93 h=>?_;refine⟨_,Ed (ek:=D.i) (ev:=(D.l 1 D.u8)) (l:=v68) (k:=35) (v:=v93) BP,?_⟩;exact AQ h
 rintro v91 h;refine AN h (fun v95=>⟨dd 4 (yO 4 JAA.toD v95::dd 190 ([])),nn 4 (yR 88 3 JAA.toD v95::nn 190 ([]))⟩) ?_ ?_
 ·intro _ h;revert h;refine Aw (fun (v97,v98)=>⟨dK v97 v98,N::yB (JAD.av a0)::N::N::yR 88 3 JAA.toD v98::nn 19 (some (OB.map 3 44 (Bw D.i (D.l 1 D.u8) v91))::nn 170 ([]))⟩) ?_ ?_
  ·exact wk
  rintro _ ⟨v97,v98⟩ _ h p101;refine goC ?_;refine Aj h fun h=>?_;refine AN h (fun v102=>⟨dK v97 v102,N::yB (JAD.av a0)::N::N::yR 88 3 JAA.toD v102::nn 19 (some (OB.map 3 44 (Bw D.i (D.l 1 D.u8) v91))::nn 170 ([]))⟩) ?_ ?_
  ·intro _ h;obtain⟨v104,g105,h⟩:=AD h;obtain⟨v106,g107,h⟩:=AD h;refine⟨_,Bd (ek:=D.i) (ev:=(D.l 1 D.u8)) (l:=v91) (k:=v97) BP,(D.l 1 D.u8) v104,Dz (z:=[]) rfl g105,v106,cH g107,?_⟩;refine AN h (fun v108=>⟨X::yr 1 0::X::X::yO 4 JAA.toD v108::AV.mp 24::dd 10 (yi v97::dd 135 (yi v97::dd 42 ([]))),N::yB (JAD.av a0)::N::N::yR 88 3 JAA.toD v108::nn 19 (some (OB.map 3 44 (Bw D.i (D.l 1 D.u8) v91))::nn 170 ([]))⟩) ?_ ?_
   ·intro _ h;refine Aj h fun h=>?_;refine AK h (fun _=>KR) fun _ h=>?_;refine apN (f:=D.u8) h fun _ h=>?_;(conv=>whnf);refine .inl ?_;refine⟨rfl,?_⟩;refine⟨rfl,?_⟩;refine apO h rfl fun _ h=>?_;exact AQ h
   rintro v108 h;refine⟨a0.Other.length,X10 _,?_⟩;refine AN h (fun v115=>⟨dK v97 v115,N::yB (JAD.av a0)::N::N::yR 88 3 JAA.toD v115::nn 19 (some (OB.map 3 44 (Bw D.i (D.l 1 D.u8) v91))::nn 170 ([]))⟩) ?_ ?_
   ·intro _ h;revert h;refine Ah 172 3 JAA.toD rfl (fun i117 v118=>⟨ew v97 (a0.Other.length:Int) (i117:Int) v118 a0.Other,N::yB (JAD.av a0)::N::N::yR 88 3 JAA.toD v118::nn 19 (some (OB.map 3 44 (Bw D.i (D.l 1 D.u8) v91))::nn 170 ([]))⟩) ?_ ?_ ?_
    ·exact wk
    ·rintro v118 K119 h;refine goC ?_;refine BK C5 ?_;exact AQ h
    rintro _ i117 x121 v118 K119 b117 c117 e117 h p122;refine goC ?_;refine BJ (C0 b117) ?_;refine goC ?_;refine⟨BI (f:=JAA.toD) b117,JAA.toD x121,c117,rfl,?_⟩;refine AN h (fun v123=>⟨ew v97 (a0.Other.length:Int) (i117:Int) v123 a0.Other,N::yB (JAD.av a0)::N::N::yR 88 3 JAA.toD v123::nn 19 (some (OB.map 3 44 (Bw D.i (D.l 1 D.u8) v91))::nn 170 ([]))⟩) ?_ ?_
    ·intro _ h;refine Aj h fun h=>?_;refine .inl (dO ?_);refine apN (f:=D.u8) h fun _ h=>?_;(conv=>whnf);refine .inl ?_;refine⟨rfl,?_⟩;refine⟨rfl,?_⟩;refine apO h rfl fun _ h=>?_;refine cO ?_;exact AQ h
    rintro v123 h;refine⟨_,e117,?_⟩;exact p122 _ _ wk h
   rintro v115 h;exact AQ h
  rintro v102 h;refine⟨_,rfl,?_⟩;exact p101 _ _ wk h
 rintro v95 h;(conv=>whnf);refine .inl ?_;refine⟨rfl,?_⟩;exact fin h
theorem Rk {a0:List JAA}{r:(List UInt8)×Int}(h:Hn a0=some r):yC wl 57 [AV.d (D.l 3 JAA.toD a0)] [] (.tup [.d (D.l 1 D.u8 r.1),.d (D.i r.2)]) []:=by
 refine oK Tryz.f57 ⟨rfl,?_⟩;unfold Hn at h;refine⟨a0.length,X10 _,?_⟩;refine AN h (fun _=>⟨y4 a0::dd 88 ([]),nn 89 ([])⟩) ?_ ?_
 ·intro _ h;revert h;refine Ah 10 3 JAA.toD rfl (fun i2 _=>⟨y4 a0::dd 9 (y4 a0::yi (a0.length:Int)::yi (i2:Int)::dd 76 ([])),nn 89 ([])⟩) ?_ ?_ ?_
  ·exact wk
  ·rintro _ K3 h;refine goC ?_;refine BK C5 ?_;exact AQ h
  rintro _ i2 x5 _ K3 b2 c2 e2 h p6;refine goC ?_;refine BJ (C0 b2) ?_;refine goC ?_;refine⟨BI (f:=JAA.toD) b2,JAA.toD x5,c2,rfl,?_⟩;refine AN h (fun v7=>⟨y4 a0::dd 9 (y4 a0::yi (a0.length:Int)::yi (i2:Int)::dd 26 (yb v7::dd 49 ([]))),nn 89 ([])⟩) ?_ ?_
  ·intro _ h;refine Br h fun h=>?_;refine Br h fun h=>?_;refine Br h fun h=>?_;refine Br h fun h=>?_;refine⟨x5.Data.length,X10 _,?_⟩;exact AQ h
  rintro v7 h;refine goC ?_;refine Ad h ?_ ?_<;>intro h
  ·(conv=>whnf);refine .inl ?_;refine⟨rfl,?_⟩;exact fin h
  refine⟨_,e2,?_⟩;exact p6 _ _ wk h
 rintro _ h;refine⟨a0.length,X10 _,?_⟩;refine AN h (fun v9=>⟨dd 6 (yO 6 D.u8 v9::dd 82 ([])),nn 6 (yR 5 1 D.u8 v9::nn 82 ([]))⟩) ?_ ?_
 ·intro _ h;revert h;refine Ah 41 3 JAA.toD rfl (fun i11 v12=>⟨dd 6 (yO 6 D.u8 v12::dd 34 (y4 a0::yi (a0.length:Int)::yi (i11:Int)::dd 45 ([]))),nn 6 (yR 5 1 D.u8 v12::nn 82 ([]))⟩) ?_ ?_ ?_
  ·exact wk
  ·rintro v12 K13 h;refine goC ?_;refine BK C5 ?_;exact AQ h
  rintro _ i11 x15 v12 K13 b11 c11 e11 h p16;refine goC ?_;refine BJ (C0 b11) ?_;refine goC ?_;refine⟨BI (f:=JAA.toD) b11,JAA.toD x15,c11,rfl,?_⟩;refine⟨x15.Data.length,X10 _,?_⟩;refine AN h (fun v17=>⟨dd 6 (yO 6 D.u8 v17::X::yr 8 0::dd 32 (y4 a0::yi (a0.length:Int)::yi (i11:Int)::dd 45 ([]))),nn 6 (yR 5 1 D.u8 v17::N::yB (JAA.av x15)::nn 80 ([]))⟩) ?_ ?_
  ·intro _ h;refine Ad h ?_ ?_<;>intro h
   ·refine⟨_,Ar _,?_⟩;refine⟨_,Ar _,?_⟩;refine⟨_,Ar _,?_⟩;refine⟨_,Ar _,?_⟩;refine⟨by decide,_,rfl,?_⟩;refine⟨_,Ar _,?_⟩;refine⟨_,Ar _,?_⟩;refine⟨rfl,?_⟩;refine apO h rfl fun _ h=>?_;exact AQ h
   refine⟨_,Ar _,?_⟩;refine⟨_,Ar _,?_⟩;refine⟨_,Ar _,?_⟩;refine⟨_,Ar _,?_⟩;refine⟨rfl,?_⟩;refine apO h rfl fun _ h=>?_;exact AQ h
  rintro v17 h;refine apO h rfl fun _ h=>?_;refine⟨_,e11,?_⟩;exact p16 _ _ wk h
 rintro v9 h;refine⟨v9.length,DK,?_⟩;refine goC ?_;refine Ad h ?_ ?_<;>intro h
 ·(conv=>whnf);refine .inl ?_;refine⟨rfl,?_⟩;exact fin h
 (conv=>whnf);refine .inl ?_;refine⟨rfl,?_⟩;exact fin h
theorem GI {a0:List JAC}{a1:Bool}{r:(List UInt8)}(h:EN a0 a1=some r):yC wl 97 [AV.d (D.l 4 JAC.toD a0),AV.d (D.b a1)] [] (.d (D.l 1 D.u8 r)) []:=by
 refine oK Tryz.f97 ⟨rfl,?_⟩;unfold EN at h;refine⟨a0.length,X10 _,?_⟩;refine AN h (fun v1=>⟨dd 5 (yO 5 D.u8 v1::dd 30 ([])),nn 5 (yR 5 1 D.u8 v1::nn 30 ([]))⟩) ?_ ?_
 ·intro _ h;revert h;refine Ah 8 4 JAC.toD rfl (fun i3 v4=>⟨X::yb a1::X::X::X::yO 5 D.u8 v4::X::X::y5 a0::yi (a0.length:Int)::yi (i3:Int)::dd 25 ([]),nn 5 (yR 5 1 D.u8 v4::nn 30 ([]))⟩) ?_ ?_ ?_
  ·exact wk
  ·rintro v4 K5 h;refine goC ?_;refine BK C5 ?_;exact AQ h
  rintro _ i3 x7 v4 K5 b3 c3 e3 h p8;refine goC ?_;refine BJ (C0 b3) ?_;refine goC ?_;refine⟨BI (f:=JAC.toD) b3,JAC.toD x7,c3,rfl,?_⟩;refine AN h (fun v9=>⟨X::yb a1::X::X::X::yO 5 D.u8 v9::X::X::y5 a0::yi (a0.length:Int)::yi (i3:Int)::dd 25 ([]),nn 5 (yR 5 1 D.u8 v9::nn 30 ([]))⟩) ?_ ?_
  ·intro _ h;refine Aj h fun h=>?_;refine .inl (dO ?_);refine⟨_,Ar _,?_⟩;refine⟨rfl,?_⟩;refine apO h rfl fun _ h=>?_;refine Xh h (fun _=>GU) rfl fun v13 h=>?_;refine⟨_,rfl,?_⟩;refine⟨by decide,_,rfl,?_⟩;(conv=>whnf);refine .inr (.inl ?_);obtain⟨_,g15,h⟩:=AD h;have g21c:=Ei g15;refine⟨aj (f:=D.u8) g15,rfl,(Int.toNat 0),(Int.toNat (AI (Int.tdiv (AI (x7.Len+7)) 8))-Int.toNat 0),rfl,rfl,?_⟩;refine⟨DK,List.map D.u8 (List.take (Int.toNat (AI (Int.tdiv (AI (x7.Len+7)) 8))-Int.toNat 0) (List.drop (Int.toNat 0) v13)),WZ,?_⟩;refine apO h rfl fun _ h=>?_;refine cO ?_;exact AQ h
  rintro v9 h;refine⟨_,e3,?_⟩;exact p8 _ _ wk h
 rintro v1 h;(conv=>whnf);refine .inl ?_;(conv=>whnf);refine .inl ?_;refine⟨rfl,?_⟩;exact fin h
theorem NK {a0:List JAA}{a1:JAA}{r:(List JAA)}(h:F8 a0 a1=some r):yC wl 98 [AV.d (D.l 3 JAA.toD a0),AV.d (JAA.toD a1)] [] (.d (D.l 3 JAA.toD r)) []:=by
 refine oK Tryz.f98 ⟨rfl,?_⟩;unfold F8 at h;refine AN h (fun v1=>⟨y4 a0::X::X::yr 3 0::X::yi v1::dd 27 ([]),N::N::N::yB (JAA.av a1)::nn 29 ([])⟩) ?_ ?_
 ·intro _ h;revert h;refine Aw (fun v3=>⟨y4 a0::X::X::yr 3 0::X::yi v3::dd 27 ([]),N::N::N::yB (JAA.av a1)::nn 29 ([])⟩) ?_ ?_
  ·exact wk
  rintro _ v3 _ h p6;refine AN h (fun v7=>⟨y4 a0::X::X::yr 3 0::X::yi v3::dd 13 (yb v7::dd 13 ([])),N::N::N::yB (JAA.av a1)::nn 29 ([])⟩) ?_ ?_
  ·intro _ h;refine .inl (dO ?_);refine⟨a0.length,X10 _,?_⟩;refine Ad h ?_ ?_<;>intro h
   ·(conv=>whnf);refine By h (fun _=>rfl) fun _ h=>?_;refine cO ?_;exact AQ h
   refine cO ?_;exact AQ h
  rintro v7 h;refine goC ?_;refine Aj h fun h=>?_;refine goC ?_;refine⟨_,rfl,?_⟩;exact p6 _ _ wk h
 rintro v1 h;refine .inl (dO ?_);(conv=>whnf);refine MQ (f:=JAA.toD) h fun _ h=>?_;refine apN (f:=JAA.toD) h fun _ h=>?_;refine⟨rfl,?_⟩;refine apO h rfl fun _ h=>?_;(conv=>whnf);refine PY (f:=JAA.toD) h fun _ h=>?_;refine apO h rfl fun _ h=>?_;refine cO ?_;(conv=>whnf);refine .inl ?_;(conv=>whnf);refine .inl ?_;refine⟨rfl,?_⟩;exact fin h
theorem Qa {a0:JAG}{r:(List UInt8)×Int}(h:F7 a0=some r):yC wl 50 [AV.d (JAG.toD a0)] [] (.tup [.d (D.l 1 D.u8 r.1),.d (D.i r.2)]) []:=by
 refine oK Tryz.f50 ⟨rfl,?_⟩;unfold F7 at h;refine⟨a0.Announce.length,X10 _,?_⟩;refine AN h (fun v1=>⟨X::yr 1 0::X::X::y4 v1::dd 91 ([]),N::yB (JAG.av a0)::nn 94 ([])⟩) ?_ ?_
 ·intro _ h;refine Aj h fun h=>?_;refine AK h (fun _=>RP) ?_;rintro⟨_,_⟩ h;refine goC ?_;refine Aj h fun h=>?_;exact fin h
 rintro v1 h;refine AK h (fun _=>GI) fun v6 h=>?_;refine⟨v6.length,X10 _,?_⟩;refine AN h (fun v8=>⟨X::yr 1 0::X::X::y4 v8::dd 91 ([]),N::yB (JAG.av a0)::nn 94 ([])⟩) ?_ ?_
 ·intro _ h;refine Aj h fun h=>?_;refine O7 [38] h (fun _=>GU) fun _ h=>?_;refine⟨rfl,?_⟩;refine apO h rfl fun _ h=>?_;refine⟨rfl,?_⟩;refine apO h rfl fun _ h=>?_;refine apO h rfl fun _ h=>?_;refine⟨rfl,?_⟩;refine AK h (fun _=>NK) fun _ h=>?_;exact AQ h
 rintro v8 h;refine AK h (fun _=>GI) fun v20 h=>?_;refine⟨v20.length,X10 _,?_⟩;refine AN h (fun v22=>⟨X::yr 1 0::X::X::y4 v22::dd 91 ([]),N::yB (JAG.av a0)::nn 94 ([])⟩) ?_ ?_
 ·intro _ h;refine Aj h fun h=>?_;refine apO h rfl fun _ h=>?_;refine⟨rfl,?_⟩;refine AK h (fun _=>NK) fun _ h=>?_;exact AQ h
 rintro v22 h;refine AK h (fun _=>Rk) ?_;rintro⟨v28,_⟩ h;refine goC ?_;refine Ad h ?_ ?_<;>intro h
 ·(conv=>whnf);refine .inl ?_;refine⟨rfl,?_⟩;exact fin h
 refine AK h (fun _=>GI) fun v31 h=>?_;refine⟨v31.length,X10 _,?_⟩;refine⟨by decide,_,rfl,?_⟩;refine⟨_,Ar _,?_⟩;refine⟨v31.length,X10 _,?_⟩;refine⟨_,Ar _,?_⟩;refine apO h rfl fun _ h=>?_;refine⟨v28.length,X10 _,?_⟩;refine⟨by decide,_,rfl,?_⟩;refine⟨_,Ar _,?_⟩;refine⟨v28.length,X10 _,?_⟩;refine⟨_,Ar _,?_⟩;refine⟨rfl,?_⟩;refine apO h rfl fun _ h=>?_;refine apO h rfl fun _ h=>?_;refine AK h (fun _=>GI) fun _ h=>?_;refine apO h rfl fun _ h=>?_;(conv=>whnf);refine .inl ?_;refine⟨rfl,?_⟩;exact fin h
theorem Qv {a0:JAG}{r:Bool}(h:G4 a0=some r):yC wl 21 [AV.d (JAG.toD a0)] [] (.d (D.b r)) []:=by
 refine oK Tryz.f21 ⟨rfl,?_⟩;unfold G4 at h;refine AN h (fun v1=>⟨X::yr 1 0::dd 16 (yb v1::dd 73 ([])),Yx a0⟩) ?_ ?_
 ·intro _ h;refine⟨a0.Withdraw.length,X10 _,?_⟩;refine Br h fun h=>?_;refine⟨a0.Announce.length,X10 _,?_⟩;exact AQ h
 rintro v1 h;refine goC ?_;refine Ad h ?_ ?_<;>intro h
 ·exact fin h
 refine .inl (dO ?_);refine apN (f:=JAC.toD) h fun _ h=>?_;refine apO h rfl fun v4 h=>?_;refine⟨v4.length,DK,?_⟩;refine cO ?_;refine AN h (fun _=>⟨X::yr 1 0::dd 90 ([]),Yx a0⟩) ?_ ?_
 ·intro _ h;revert h;refine Q9 21 41 4 .no JAC.toD rfl (fun i7 _=>⟨X::yr 1 0::dd 22 (yO 21 JAC.toD v4::yi (v4.length:Int)::yi (i7:Int)::dd 65 ([])),N::yB (JAG.av a0)::nn 19 (yR 41 4 JAC.toD v4::nn 70 ([]))⟩) ?_ ?_ ?_
  ·exact wk
  ·rintro _ K8 h;refine goC ?_;refine BK C5 ?_;exact AQ h
  rintro _ i7 x10 _ K8 b7 c7 e7 h p11;refine goC ?_;refine BJ (C0 b7) ?_;refine goC ?_;refine⟨rfl,BI (f:=JAC.toD) b7,?_⟩;refine⟨rfl,JAC.toD x10,c7,?_⟩;refine AK h (fun _=>RY) fun _ h=>?_;refine goC ?_;refine Ad h ?_ ?_<;>intro h
  ·exact fin h
  refine⟨_,e7,?_⟩;exact p11 _ _ wk h
 rintro _ h;refine AN h (fun v14=>⟨X::yr 1 0::dd 42 (yb v14::dd 47 ([])),Yx a0⟩) ?_ ?_
 ·intro _ h;refine .inl (dO ?_);refine⟨a0.Announce.length,X10 _,?_⟩;refine Ad h ?_ ?_<;>intro h
  ·refine A2 h (fun _=>KG) (fun _=>rfl) fun _ h=>?_;refine A2 h (fun _=>Rq) (fun _=>rfl) fun _ h=>?_;refine cO ?_;exact AQ h
  refine cO ?_;exact AQ h
 rintro v14 h;refine goC ?_;refine Ad h ?_ ?_<;>intro h
 ·exact fin h
 refine⟨a0.Announce.length,X10 _,?_⟩;refine AN h (fun _=>⟨X::yr 1 0::dd 90 ([]),Yx a0⟩) ?_ ?_
 ·intro _ h;revert h;refine Ah 46 4 JAC.toD rfl (fun i21 _=>⟨X::yr 1 0::dd 44 (AV.d (D.l 4 JAC.toD a0.Announce)::yi (a0.Announce.length:Int)::yi (i21:Int)::dd 43 ([])),Yx a0⟩) ?_ ?_ ?_
  ·exact wk
  ·rintro _ K22 h;refine goC ?_;refine BK C5 ?_;exact AQ h
  rintro _ i21 x24 _ K22 b21 c21 e21 h p25;refine goC ?_;refine BJ (C0 b21) ?_;refine goC ?_;refine⟨BI (f:=JAC.toD) b21,JAC.toD x24,c21,rfl,?_⟩;refine AN h (fun v26=>⟨X::yr 1 0::dd 44 (AV.d (D.l 4 JAC.toD a0.Announce)::yi (a0.Announce.length:Int)::yi (i21:Int)::dd 29 (yb v26::dd 13 ([]))),Yx a0⟩) ?_ ?_
  ·intro _ h;refine Br h fun h=>?_;refine Br h fun h=>?_;refine Br h fun h=>?_;refine AK h (fun _=>KN) fun _ h=>?_;exact AQ h
  rintro v26 h;refine goC ?_;refine Ad h ?_ ?_<;>intro h
  ·exact fin h
  refine⟨_,e21,?_⟩;exact p25 _ _ wk h
 rintro _ h;refine AK h (fun _=>Qa) ?_;rintro⟨v30,_⟩ h;refine AN h (fun v33=>⟨X::X::yb v33::dd 89 ([]),nn 92 ([])⟩) ?_ ?_
 ·intro _ h;refine Aj h fun h=>?_;refine⟨v30.length,X10 _,?_⟩;exact AQ h
 rintro v33 h;exact fin h
theorem LS {a0:JAI}{r:JAG×JAI}(h:EG a0=some r):yC wl 13 [.ref 0 0] [.box (JAI.av a0)] (.d (JAG.toD r.1)) [.box (JAI.av r.2)]:=by
 refine oKx 2 Tryz.f13 ⟨rfl,?_⟩;unfold EG at h;refine AN h (fun _=>⟨yr 0 0::X::yr 3 0::dd 5 (AV.d (D.agg [D.i (-1),D.nil 2,D.b false,D.u64 (0:UInt64),D.u64 (0:UInt64),D.i (-1),D.i (-1),D.i (-1),D.nil 2,D.nil 3,D.nil 3])::dd 67 ([])),yB (JAI.av a0)::N::N::yB JAG.zv::nn 75 ([])⟩) ?_ ?_
 ·intro _ h;(conv=>whnf);refine inl Tryz.f17 77 (by kernel_rfl) (by kernel_rfl) ⟨rfl,?_⟩;exact AQ h
 rintro _ h;refine AK h (fun _=>AG) ?_;rintro⟨_,_⟩ h;refine AN h (fun (v5,v6)=>⟨yr 0 0::X::yr 3 0::yr 4 0::dd 72 ([]),yB (JAI.av v5)::N::N::yB JAG.zv::zS5 (-1) false (0:UInt64) v6::nn 17 (yR 41 4 JAC.toD v6::nn 56 ([]))⟩) ?_ ?_
 ·intro _ h;revert h;refine Aw (fun (v8,v9,v10)=>⟨yr 0 0::X::yr 3 0::yr 4 0::yi v8::dd 71 ([]),yB (JAI.av v9)::N::N::yB JAG.zv::zS5 (-1) false (0:UInt64) v10::nn 17 (yR 41 4 JAC.toD v10::nn 56 ([]))⟩) ?_ ?_
  ·exact wk
  rintro _ ⟨v8,v9,v10⟩ _ h p13;refine goC ?_;refine Aj h fun h=>?_;refine goC ?_;refine .inl (dO ?_);refine A2 h (fun _=>HZ) (fun _=>rfl) ?_;rintro⟨_,_⟩ h;refine⟨rfl,?_⟩;refine apO h rfl fun _ h=>?_;refine cO ?_;refine⟨_,rfl,?_⟩;exact p13 _ _ wk h
 rintro⟨v5,v6⟩ h;refine AK h (fun _=>AG) ?_;rintro⟨_,_⟩ h;refine goC ?_;refine Ad h ?_ ?_<;>intro h
 ·(conv=>whnf);refine .inl ?_;refine⟨rfl,?_⟩;exact fin h
 refine AK h (fun _=>AG) ?_;rintro⟨v22,_⟩ h;refine AK h (fun _=>AG) ?_;rintro⟨_,_⟩ h;refine AN h (fun (v28,v29)=>⟨yr 0 0::X::yr 3 0::yr 4 0::X::yb (v22==1)::dd 70 ([]),dl (-1) false (0:UInt64) v6 v29 v28⟩) ?_ ?_
 ·intro _ h;revert h;refine Aw (fun (v31,v32,v33)=>⟨yr 0 0::X::yr 3 0::yr 4 0::X::yb (v22==1)::yi v31::dd 69 ([]),dl (-1) false (0:UInt64) v6 v33 v32⟩) ?_ ?_
  ·exact wk
  rintro _ ⟨v31,v32,v33⟩ _ h p36;refine goC ?_;refine Aj h fun h=>?_;refine goC ?_;refine AK h (fun _=>HZ) ?_;rintro⟨_,v38⟩ h;refine AN h (fun v40=>⟨yr 0 0::X::yr 3 0::yr 4 0::X::yb (v22==1)::yi v31::dd 69 ([]),dl (-1) false (0:UInt64) v6 v40 v38⟩) ?_ ?_
  ·intro _ h;refine Aj h fun h=>?_;refine⟨rfl,?_⟩;refine apO h rfl fun _ h=>?_;exact AQ h
  rintro v40 h;refine⟨_,rfl,?_⟩;exact p36 _ _ wk h
 rintro⟨v28,v29⟩ h;refine⟨v29.length,DK,?_⟩;refine goC ?_;refine Ad h ?_ ?_<;>intro h
 ·(conv=>whnf);refine .inl ?_;refine⟨rfl,?_⟩;refine⟨rfl,?_⟩;exact fin h
 refine AK h (fun _=>L2) ?_;rintro⟨v44,v45⟩ h;refine⟨_,rfl,?_⟩;refine AK h (fun _=>NQ) fun _ h=>?_;refine AN h (fun (v49,v50,v51)=>⟨X::X::yr 3 0::yr 4 0::dd 72 ([]),yB (JAI.av v45)::N::N::yB JAG.zv::yB [yO 22 JAC.toD v6,yi (if v44.Origin > 0 then v44.Origin else 0),AV.d (D.l 2 JAE.toD v44.Path),yb v49,yu v50,yu v51,AV.d (D.i v44.MED),AV.d (D.i v44.Pref),AV.d (D.i v44.OTC),AV.d (D.l 2 JAB.toD v44.Communities),AV.d (D.l 3 JAF.toD v44.JAF),AV.d (D.l 3 JAA.toD v44.Other),yO 48 JAC.toD v29]::nn 17 (yR 41 4 JAC.toD v6::nn 25 (yR 41 4 JAC.toD v29::nn 30 ([])))⟩) ?_ ?_
 ·intro _ h;refine Aj h fun h=>?_;refine AK h (fun _=>PR) fun _ h=>?_;exact AQ h
 rintro⟨v49,v50,v51⟩ h;refine⟨rfl,?_⟩;refine⟨rfl,?_⟩;refine KD h (fun _=>Qv) fun _ h=>?_;refine goC ?_;refine Ad h ?_ ?_<;>intro h
 ·refine AN h (fun _=>⟨X::X::yr 3 0::dd 70 (AV.d (D.agg [D.i (-1),D.nil 2,D.b false,D.u64 (0:UInt64),D.u64 (0:UInt64),D.i (-1),D.i (-1),D.i (-1),D.nil 2,D.nil 3,D.nil 3])::X::X::[]),yB (JAI.av v45)::N::N::yB JAG.zv::nn 75 ([])⟩) ?_ ?_
  ·intro _ h;(conv=>whnf);refine inl Tryz.f17 77 (by kernel_rfl) (by kernel_rfl) ⟨rfl,?_⟩;exact AQ h
  rintro _ h;exact fin h
 (conv=>whnf);refine .inl ?_;refine⟨rfl,?_⟩;refine⟨rfl,?_⟩;exact fin h
theorem LW {a0:List UInt8}{a1:Int}{r:(List UInt8)}(h:Fp a0 a1=some r):yC wl 87 [AV.own 0 (List.map D.u8 a0).length,AV.d (D.i a1)] [.row 5 1 (List.map D.u8 a0) .no] (AV.own 0 (List.map D.u8 r).length) [.row 5 1 (List.map D.u8 r) .no]:=by
 refine oK Tryz.f87 ⟨rfl,?_⟩;unfold Fp at h;refine⟨by decide,_,rfl,?_⟩;refine⟨_,Ar _,?_⟩;refine⟨_,Ar _,?_⟩;refine⟨rfl,?_⟩;refine apO h rfl fun _ h=>?_;(conv=>whnf);refine .inl ?_;exact fin h
theorem Bt {a0:Int}{a1:Int}{a2:Int}{r:Bool}(h:A9 a0 a1 a2=some r):yC wl 118 [AV.d (D.i a0),AV.d (D.i a1),AV.d (D.i a2)] [] (.d (D.b r)) []:=by
 refine oK Tryz.f118 ⟨rfl,?_⟩;unfold A9 at h;refine AN h (fun v1=>⟨dd 6 (yb v1::dd 8 ([])),nn 15 ([])⟩) ?_ ?_
 ·intro _ h;exact selC h
 rintro v1 h;exact fin h
theorem IH {a0:List JAA}{r:(List UInt8)×Int}(h:Do a0=some r):yC wl 94 [AV.d (D.l 3 JAA.toD a0)] [] (.tup [.d (D.l 1 D.u8 r.1),.d (D.i r.2)]) []:=by
 refine oK Tryz.f94 ⟨rfl,?_⟩;unfold Do at h;refine⟨a0.length,X10 _,?_⟩;refine AN h (fun _=>⟨y4 a0::dd 79 ([]),nn 80 ([])⟩) ?_ ?_
 ·intro _ h;revert h;refine Ah 11 3 JAA.toD rfl (fun i2 _=>⟨y4 a0::dd 10 (y4 a0::yi (a0.length:Int)::yi (i2:Int)::dd 66 ([])),nn 80 ([])⟩) ?_ ?_ ?_
  ·exact wk
  ·rintro _ K3 h;refine goC ?_;refine BK C5 ?_;exact AQ h
  rintro _ i2 x5 _ K3 b2 c2 e2 h p6;refine goC ?_;refine BJ (C0 b2) ?_;refine goC ?_;refine⟨BI (f:=JAA.toD) b2,JAA.toD x5,c2,rfl,?_⟩;refine AN h (fun v7=>⟨y4 a0::dd 10 (y4 a0::yi (a0.length:Int)::yi (i2:Int)::dd 18 (yb v7::dd 47 ([]))),nn 80 ([])⟩) ?_ ?_
  ·intro _ h;refine AK h (fun _=>Bt) fun _ h=>?_;refine Br h fun h=>?_;refine AK h (fun _=>Bt) fun _ h=>?_;refine Br h fun h=>?_;refine⟨x5.Data.length,X10 _,?_⟩;exact AQ h
  rintro v7 h;refine goC ?_;refine Ad h ?_ ?_<;>intro h
  ·(conv=>whnf);refine .inl ?_;refine⟨rfl,?_⟩;exact fin h
  refine⟨_,e2,?_⟩;exact p6 _ _ wk h
 rintro _ h;refine⟨a0.length,X10 _,?_⟩;refine AN h (fun v13=>⟨dd 6 (yO 6 D.u8 v13::dd 73 ([])),nn 6 (yR 5 1 D.u8 v13::nn 73 ([]))⟩) ?_ ?_
 ·intro _ h;revert h;refine Ah 34 3 JAA.toD rfl (fun i15 v16=>⟨dd 6 (yO 6 D.u8 v16::dd 27 (y4 a0::yi (a0.length:Int)::yi (i15:Int)::dd 43 ([]))),nn 6 (yR 5 1 D.u8 v16::nn 73 ([]))⟩) ?_ ?_ ?_
  ·exact wk
  ·rintro v16 K17 h;refine goC ?_;refine BK C5 ?_;exact AQ h
  rintro _ i15 x19 v16 K17 b15 c15 e15 h p20;refine goC ?_;refine BJ (C0 b15) ?_;refine goC ?_;refine⟨BI (f:=JAA.toD) b15,JAA.toD x19,c15,rfl,?_⟩;refine .inl (dO ?_);refine⟨_,Ar _,?_⟩;refine⟨_,Ar _,?_⟩;refine⟨x19.Data.length,X10 _,?_⟩;refine cO ?_;refine AN h (fun v21=>⟨dd 6 (yO 6 D.u8 v21::X::yr 8 0::dd 25 (y4 a0::yi (a0.length:Int)::yi (i15:Int)::dd 43 ([]))),nn 6 (yR 5 1 D.u8 v21::N::yB (JAA.av x19)::nn 71 ([]))⟩) ?_ ?_
  ·intro _ h;refine Ad h ?_ ?_<;>intro h
   ·refine⟨_,Ar _,?_⟩;refine⟨_,Ar _,?_⟩;refine⟨by decide,_,rfl,?_⟩;refine⟨_,Ar _,?_⟩;refine⟨_,Ar _,?_⟩;refine⟨rfl,?_⟩;refine apO h rfl fun _ h=>?_;exact AQ h
   refine⟨_,Ar _,?_⟩;refine⟨_,Ar _,?_⟩;refine⟨rfl,?_⟩;refine apO h rfl fun _ h=>?_;exact AQ h
  rintro v21 h;refine apO h rfl fun v27 h=>?_;refine⟨v27.length,DK,?_⟩;refine goC ?_;refine Ad h ?_ ?_<;>intro h
  ·(conv=>whnf);refine .inl ?_;refine⟨rfl,?_⟩;exact fin h
  refine⟨_,e15,?_⟩;exact p20 _ _ wk h
 rintro v13 h;(conv=>whnf);refine .inl ?_;refine⟨rfl,?_⟩;exact fin h
theorem Gw {a0:Addr}{r:Bool}(h:E8 a0=some r):yC wl 99 [AV.d (Addr.toD a0)] [] (.d (D.b r)) []:=by
 refine oK Tryz.f99 ⟨rfl,?_⟩;unfold E8 at h;refine AN h (fun v1=>⟨X::X::yb v1::dd 12 ([]),nn 15 ([])⟩) ?_ ?_
 ·intro _ h;refine Br h fun h=>?_;exact selC h
 rintro v1 h;exact fin h
theorem FY {a0:Addr}{r:(List UInt8)}(h:BQ a0=some r):yC wl 135 [AV.d (Addr.toD a0)] [] (.d (D.l 1 D.u8 r)) []:=by
 refine oK Tryz.f135 ⟨rfl,?_⟩;unfold BQ at h;refine AK h (fun _=>Gw) fun _ h=>?_;refine goC ?_;refine Ad h ?_ ?_<;>intro h
 ·(conv=>whnf);refine .inl ?_;exact fin h
 refine AN h (fun v3=>⟨X::yr 1 0::X::yi v3::dd 34 ([]),N::yB (Addr.av a0)::nn 36 ([])⟩) ?_ ?_
 ·intro _ h;exact selC h
 rintro v3 h;obtain⟨_,g5,h⟩:=AD h;refine⟨XP g5 (X29 rfl),D.u8 (0:UInt8),rfl,(List.map D.u8 (List.replicate (Int.toNat v3) (0:UInt8))),List.map_replicate.symm,?_⟩;refine⟨_,rfl,?_⟩;refine AN h (fun v6=>⟨dd 4 (yO 12 D.u8 v6::dd 33 ([])),nn 12 (yR 5 1 D.u8 v6::nn 25 ([]))⟩) ?_ ?_
 ·intro _ h;revert h;refine Aw (fun (v8,v9,v10)=>⟨X::yr 1 0::X::X::yO 12 D.u8 v10::yi v8::dd 32 ([]),N::yB (Addr.av v9)::nn 10 (yR 5 1 D.u8 v10::nn 25 ([]))⟩) ?_ ?_
  ·exact wk
  rintro _ ⟨v8,v9,v10⟩ _ h p13;refine goC ?_;refine Aj h fun h=>?_;refine goC ?_;refine⟨_,Ar _,?_⟩;obtain⟨v14,g15,h⟩:=AD h;refine⟨rfl,BN (f:=D.u8) g15,?_⟩;obtain⟨v16,g17,h⟩:=AD h;have g17l:=Hr g17;refine⟨rfl,rfl,D.u8 v14,(BS (f:=D.u8) g15),?_⟩;refine⟨_,L9 (f:=D.u8) g17,?_⟩;refine⟨by decide,_,NU v9.Lo _,?_⟩;refine⟨by decide,_,Av _,?_⟩;refine⟨_,Av _,?_⟩;refine⟨by decide,_,NU v9.Hi _,?_⟩;refine⟨_,rfl,?_⟩;exact p13 _ _ wk h
 rintro v6 h;(conv=>whnf);refine .inl ?_;(conv=>whnf);refine .inl ?_;refine⟨rfl,?_⟩;exact fin h
theorem HN {a0:List UInt8}{a1:List JAC}{a2:Bool}{r:(List UInt8)}(h:DX a0 a1 a2=some r):yC wl 96 [AV.own 0 (List.map D.u8 a0).length,AV.d (D.l 4 JAC.toD a1),AV.d (D.b a2)] [.row 5 1 (List.map D.u8 a0) .no] (AV.own 0 (List.map D.u8 r).length) [.row 5 1 (List.map D.u8 r) .no]:=by
 refine oK Tryz.f96 ⟨rfl,?_⟩;unfold DX at h;refine⟨a1.length,X10 _,?_⟩;refine AN h (fun v1=>⟨yO 0 D.u8 v1::dd 36 ([]),yR 5 1 D.u8 v1::nn 37 ([])⟩) ?_ ?_
 ·intro _ h;revert h;refine Ah 9 4 JAC.toD rfl (fun i3 v4=>⟨yO 0 D.u8 v4::X::yb a2::dd 6 (y5 a1::yi (a1.length:Int)::yi (i3:Int)::dd 25 ([])),yR 5 1 D.u8 v4::nn 37 ([])⟩) ?_ ?_ ?_
  ·exact wk
  ·rintro v4 K5 h;refine goC ?_;refine BK C5 ?_;exact AQ h
  rintro _ i3 x7 v4 K5 b3 c3 e3 h p8;refine goC ?_;refine BJ (C0 b3) ?_;refine goC ?_;refine⟨BI (f:=JAC.toD) b3,JAC.toD x7,c3,rfl,?_⟩;refine AN h (fun v9=>⟨yO 0 D.u8 v9::X::yb a2::dd 6 (y5 a1::yi (a1.length:Int)::yi (i3:Int)::dd 25 ([])),yR 5 1 D.u8 v9::nn 37 ([])⟩) ?_ ?_
  ·intro _ h;refine Aj h fun h=>?_;refine .inl (dO ?_);refine⟨_,Ar _,?_⟩;refine⟨rfl,?_⟩;refine apO h rfl fun _ h=>?_;refine A2 h (fun _=>FY) (fun _=>rfl) fun _ h=>?_;refine⟨_,rfl,?_⟩;refine⟨by decide,_,rfl,?_⟩;(conv=>whnf);refine MQ (f:=D.u8) h fun _ h=>?_;refine apO h rfl fun _ h=>?_;refine cO ?_;exact AQ h
  rintro v9 h;refine⟨_,e3,?_⟩;exact p8 _ _ wk h
 rintro v1 h;(conv=>whnf);refine .inl ?_;exact fin h
theorem Gk {a0:Int}{r:Bool}(h:EB a0=some r):yC wl 139 [AV.d (D.i a0)] [] (.d (D.b r)) []:=by
 refine oK Tryz.f139 ⟨rfl,?_⟩;unfold EB at h;refine AN h (fun v1=>⟨X::X::yb v1::dd 6 ([]),nn 9 ([])⟩) ?_ ?_
 ·intro _ h;exact selC h
 rintro v1 h;exact fin h
theorem Jr {a0:List JAE}{r:Bool}(h:FP a0=some r):yC wl 138 [AV.d (D.l 2 JAE.toD a0)] [] (.d (D.b r)) []:=by
 refine oK Tryz.f138 ⟨rfl,?_⟩;unfold FP at h;refine⟨a0.length,X10 _,?_⟩;refine AN h (fun v1=>⟨X::X::X::yi v1::dd 71 ([]),nn 75 ([])⟩) ?_ ?_
 ·intro _ h;revert h;refine Ah 8 2 JAE.toD rfl (fun i3 v4=>⟨y0 a0::X::X::yi v4::dd 4 (y0 a0::yi (a0.length:Int)::yi (i3:Int)::dd 64 ([])),nn 75 ([])⟩) ?_ ?_ ?_
  ·exact wk
  ·rintro v4 K5 h;refine goC ?_;refine BK C5 ?_;exact AQ h
  rintro _ i3 x7 v4 K5 b3 c3 e3 h p8;refine goC ?_;refine BJ (C0 b3) ?_;refine AN h (fun _=>⟨y0 a0::X::X::yi (AI (v4+(x7.ASNs.length:Int)))::dd 4 (y0 a0::yi (a0.length:Int)::yi (i3:Int)::dd 64 ([])),nn 75 ([])⟩) ?_ ?_
  ·intro _ h;refine⟨BI (f:=JAE.toD) b3,JAE.toD x7,c3,rfl,?_⟩;refine AN h (fun v10=>⟨y0 a0::X::X::yi v4::X::yr 5 0::X::X::y0 a0::yi (a0.length:Int)::yi (i3:Int)::dd 25 (yb v10::dd 38 ([])),nn 5 (yB (JAE.av x7)::nn 69 ([]))⟩) ?_ ?_
   ·intro _ h;refine⟨x7.ASNs.length,X10 _,?_⟩;refine Br h fun h=>?_;refine Aj h fun h=>?_;refine Aj h fun h=>?_;refine⟨_,rfl,?_⟩;(conv=>whnf);refine By h (fun _=>rfl) fun _ h=>?_;exact AQ h
   rintro v10 h;refine goC ?_;refine Ad h ?_ ?_<;>intro h
   ·exact fin h
   refine⟨x7.ASNs.length,X10 _,?_⟩;refine AN h (fun _=>⟨y0 a0::X::X::yi v4::X::yr 5 0::X::X::y0 a0::yi (a0.length:Int)::yi (i3:Int)::dd 64 ([]),nn 5 (yB (JAE.av x7)::nn 69 ([]))⟩) ?_ ?_
   ·intro _ h;revert h;refine Ah 38 1 D.i rfl (fun i15 _=>⟨y0 a0::X::X::yi v4::X::yr 5 0::X::X::y0 a0::yi (a0.length:Int)::yi (i3:Int)::dd 27 (AV.d (D.l 1 D.i x7.ASNs)::yi (x7.ASNs.length:Int)::yi (i15:Int)::dd 34 ([])),nn 5 (yB (JAE.av x7)::nn 69 ([]))⟩) ?_ ?_ ?_
    ·exact wk
    ·rintro _ K16 h;refine goC ?_;refine BK C5 ?_;exact AQ h
    rintro _ i15 x18 _ K16 b15 c15 e15 h p19;refine goC ?_;refine BJ (C0 b15) ?_;refine goC ?_;refine⟨BI (f:=D.i) b15,D.i x18,c15,rfl,?_⟩;refine AN h (fun v20=>⟨y0 a0::X::X::yi v4::X::yr 5 0::X::X::y0 a0::yi (a0.length:Int)::yi (i3:Int)::dd 27 (AV.d (D.l 1 D.i x7.ASNs)::yi (x7.ASNs.length:Int)::yi (i15:Int)::dd 24 (yb v20::dd 9 ([]))),nn 5 (yB (JAE.av x7)::nn 69 ([]))⟩) ?_ ?_
    ·intro _ h;refine AK h (fun _=>Gk) fun _ h=>?_;refine Br h fun h=>?_;refine Aj h fun h=>?_;refine Aj h fun h=>?_;refine⟨_,rfl,?_⟩;(conv=>whnf);refine By h (fun _=>rfl) fun _ h=>?_;exact AQ h
    rintro v20 h;refine goC ?_;refine Ad h ?_ ?_<;>intro h
    ·exact fin h
    refine⟨_,e15,?_⟩;exact p19 _ _ wk h
   rintro _ h;refine⟨x7.ASNs.length,X10 _,?_⟩;refine⟨_,rfl,?_⟩;exact AQ h
  rintro _ h;refine⟨_,e3,?_⟩;exact p8 _ _ wk h
 rintro v1 h;exact fin h
theorem Ju {a0:List Int}{r:Int}(h:Dn a0=some r):yC wl 188 [AV.d (D.l 1 D.i a0)] [] (.d (D.i r)) []:=by
 refine oK Tryz.f188 ⟨rfl,?_⟩;unfold Dn at h;refine⟨a0.length,X10 _,?_⟩;refine goC ?_;refine Ad h ?_ ?_<;>intro h
 ·exact nomatch h
 (conv=>whnf);refine By h (fun _=>rfl) fun _ h=>?_;refine AN h (fun v3=>⟨X::X::X::yi v3::dd 21 ([]),nn 25 ([])⟩) ?_ ?_
 ·intro _ h;revert h;refine Aw (fun (v5,v6)=>⟨y6 a0::X::X::yi v5::yi v6::dd 20 ([]),nn 25 ([])⟩) ?_ ?_
  ·exact wk
  rintro _ ⟨v5,v6⟩ _ h p9;refine⟨a0.length,X10 _,?_⟩;refine goC ?_;refine Aj h fun h=>?_;refine goC ?_;(conv=>whnf);refine By h (fun _=>rfl) fun _ h=>?_;refine⟨_,rfl,?_⟩;refine⟨_,rfl,?_⟩;exact p9 _ _ wk h
 rintro v3 h;exact fin h
theorem Jw {a0:List Int}{r:Int}(h:Dm a0=some r):yC wl 189 [AV.d (D.l 1 D.i a0)] [] (.d (D.i r)) []:=by
 refine oK Tryz.f189 ⟨rfl,?_⟩;unfold Dm at h;refine⟨a0.length,X10 _,?_⟩;refine goC ?_;refine Ad h ?_ ?_<;>intro h
 ·exact nomatch h
 (conv=>whnf);refine By h (fun _=>rfl) fun _ h=>?_;refine AN h (fun v3=>⟨X::X::X::yi v3::dd 21 ([]),nn 25 ([])⟩) ?_ ?_
 ·intro _ h;revert h;refine Aw (fun (v5,v6)=>⟨y6 a0::X::X::yi v5::yi v6::dd 20 ([]),nn 25 ([])⟩) ?_ ?_
  ·exact wk
  rintro _ ⟨v5,v6⟩ _ h p9;refine⟨a0.length,X10 _,?_⟩;refine goC ?_;refine Aj h fun h=>?_;refine goC ?_;(conv=>whnf);refine By h (fun _=>rfl) fun _ h=>?_;refine⟨_,rfl,?_⟩;refine⟨_,rfl,?_⟩;exact p9 _ _ wk h
 rintro v3 h;exact fin h
theorem HW {a0:Int}{a1:List Int}{r:Bool}(h:Di a0 a1=some r):yC wl 181 [AV.d (D.i a0),AV.d (D.l 1 D.i a1)] [] (.d (D.b r)) []:=by
 refine oK Tryz.f181 ⟨rfl,?_⟩;unfold Di at h;refine AN h (fun v1=>⟨dd 4 (yb v1::dd 9 ([])),nn 14 ([])⟩) ?_ ?_
 ·intro _ h;refine AK h (fun _=>Ju) fun _ h=>?_;refine Aj h fun h=>?_;refine AK h (fun _=>Jw) fun _ h=>?_;exact AQ h
 rintro v1 h;exact fin h
theorem NB {a0:JAB}{r:Bool}(h:Ew a0=some r):yC wl 163 [AV.d (JAB.toD a0)] [] (.d (D.b r)) []:=by
 refine oK Tryz.f163 ⟨rfl,?_⟩;unfold Ew at h;refine⟨rfl,?_⟩;refine KD h (fun _=>HW) fun _ h=>?_;exact fin h
theorem Ig {a0:Int}{r:Bool}(h:cmp_isNaN_int a0=some r):yC wl 151 [AV.d (D.i a0)] [] (.d (D.b r)) []:=by
 refine oK Tryz.f151 ⟨rfl,?_⟩;unfold cmp_isNaN_int at h;exact fin h
theorem A0 {a0:Int}{a1:Int}{r:Int}(h:cmp_Compare_int a0 a1=some r):yC wl 122 [AV.d (D.i a0),AV.d (D.i a1)] [] (.d (D.i r)) []:=by
 refine oK Tryz.f122 ⟨rfl,?_⟩;unfold cmp_Compare_int at h;refine AK h (fun _=>Ig) fun _ h=>?_;refine AK h (fun _=>Ig) fun _ h=>?_;refine goC ?_;refine Ad h ?_ ?_<;>intro h
 ·refine goC ?_;refine Ad h ?_ ?_<;>intro h
  ·exact fin h
  exact fin h
 refine goC ?_;refine Ad h ?_ ?_<;>intro h
 ·exact fin h
 refine goC ?_;refine Ad h ?_ ?_<;>intro h
 ·exact fin h
 refine goC ?_;refine Ad h ?_ ?_<;>intro h
 ·exact fin h
 exact fin h
theorem G0 {a0:List Int}{r:Int}(h:FK a0=some r):yC wl 182 [AV.d (D.l 1 D.i a0)] [] (.d (D.i r)) []:=by
 refine oK Tryz.f182 ⟨rfl,?_⟩;unfold FK at h;refine⟨a0.length,X10 _,?_⟩;refine AN h (fun _=>⟨X::X::X::yi 0::dd 14 ([]),nn 18 ([])⟩) ?_ ?_
 ·intro _ h;revert h;refine Ah 6 1 D.i rfl (fun i2 _=>⟨X::X::X::yi 0::X::X::y6 a0::yi (a0.length:Int)::yi (i2:Int)::dd 9 ([]),nn 18 ([])⟩) ?_ ?_ ?_
  ·exact wk
  ·rintro _ K3 h;refine goC ?_;refine BK C5 ?_;exact AQ h
  rintro _ i2 x5 _ K3 b2 c2 e2 h p6;refine goC ?_;refine BJ (C0 b2) ?_;refine goC ?_;refine⟨BI (f:=D.i) b2,D.i x5,c2,rfl,?_⟩;refine goC ?_;refine Ad h ?_ ?_<;>intro h
  ·exact fin h
  refine⟨_,e2,?_⟩;exact p6 _ _ wk h
 rintro _ h;exact fin h
theorem Kq {a0:JAB}{a1:JAB}{r:Int}(h:EA a0 a1=some r):yC wl 164 [AV.d (JAB.toD a0),AV.d (JAB.toD a1)] [] (.d (D.i r)) []:=by
 refine oK Tryz.f164 ⟨rfl,?_⟩;unfold EA at h;refine .inl (dO ?_);refine A2 h (fun _=>A0) (fun _=>rfl) fun _ h=>?_;refine A2 h (fun _=>A0) (fun _=>rfl) fun _ h=>?_;refine⟨rfl,?_⟩;refine A2 h (fun _=>G0) (fun _=>rfl) fun _ h=>?_;refine cO ?_;exact fin h
theorem B0 {a0:List JAB}{r:Bool}(h:Ag a0=some r):yC wl 162 [AV.d (D.l 2 JAB.toD a0),AV.fn 163 [],AV.fn 164 []] [] (.d (D.b r)) []:=by
 refine oK Tryz.f162 ⟨rfl,?_⟩;unfold Ag at h;refine⟨a0.length,X10 _,?_⟩;refine AN h (fun _=>⟨y1 a0::dd 38 ([]),nn 39 ([])⟩) ?_ ?_
 ·intro _ h;revert h;refine Ah 9 2 JAB.toD rfl (fun i2 _=>⟨y1 a0::AV.fn 163 []::AV.fn 164 []::dd 6 (y1 a0::yi (a0.length:Int)::yi (i2:Int)::dd 27 ([])),nn 39 ([])⟩) ?_ ?_ ?_
  ·exact wk
  ·rintro _ K3 h;refine goC ?_;refine BK C5 ?_;exact AQ h
  rintro _ i2 x5 _ K3 b2 c2 e2 h p6;refine goC ?_;refine BJ (C0 b2) ?_;refine goC ?_;refine⟨BI (f:=JAB.toD) b2,JAB.toD x5,c2,rfl,?_⟩;refine AN h (fun v7=>⟨y1 a0::AV.fn 163 []::AV.fn 164 []::dd 6 (y1 a0::yi (a0.length:Int)::yi (i2:Int)::dd 22 (yb v7::dd 4 ([]))),nn 39 ([])⟩) ?_ ?_
  ·intro _ h;refine .inl (dO ?_);refine A2 h (fun _=>NB) (fun _=>rfl) fun _ h=>?_;refine Ad h ?_ ?_<;>intro h
   ·refine cO ?_;exact AQ h
   refine Ad h ?_ ?_<;>intro h
   ·refine⟨_,rfl,?_⟩;(conv=>whnf);refine By h (fun _=>rfl) fun _ h=>?_;refine A2 h (fun _=>Kq) (fun _=>rfl) fun _ h=>?_;refine cO ?_;exact AQ h
   refine cO ?_;exact AQ h
  rintro v7 h;refine goC ?_;refine Ad h ?_ ?_<;>intro h
  ·exact fin h
  refine⟨_,e2,?_⟩;exact p6 _ _ wk h
 rintro _ h;refine⟨a0.length,X10 _,?_⟩;exact fin h
theorem Fo {a0:List JAB}{r:Bool}(h:DN a0=some r):yC wl 140 [AV.d (D.l 2 JAB.toD a0)] [] (.d (D.b r)) []:=by
 refine oK Tryz.f140 ⟨rfl,?_⟩;unfold DN at h;refine AK h (fun _=>B0) fun _ h=>?_;exact fin h
theorem JJ {a0:JAF}{r:Bool}(h:DR a0=some r):yC wl 166 [AV.d (JAF.toD a0)] [] (.d (D.b r)) []:=by
 refine oK Tryz.f166 ⟨rfl,?_⟩;unfold DR at h;refine⟨rfl,?_⟩;refine KD h (fun _=>HW) fun _ h=>?_;exact fin h
theorem H9 {a0:JAF}{a1:JAF}{r:Int}(h:CW a0 a1=some r):yC wl 167 [AV.d (JAF.toD a0),AV.d (JAF.toD a1)] [] (.d (D.i r)) []:=by
 refine oK Tryz.f167 ⟨rfl,?_⟩;unfold CW at h;refine .inl (dO ?_);refine A2 h (fun _=>A0) (fun _=>rfl) fun _ h=>?_;refine A2 h (fun _=>A0) (fun _=>rfl) fun _ h=>?_;refine A2 h (fun _=>A0) (fun _=>rfl) fun _ h=>?_;refine⟨rfl,?_⟩;refine A2 h (fun _=>G0) (fun _=>rfl) fun _ h=>?_;refine cO ?_;exact fin h
theorem Be {a0:List JAF}{r:Bool}(h:Ab a0=some r):yC wl 165 [AV.d (D.l 3 JAF.toD a0),AV.fn 166 [],AV.fn 167 []] [] (.d (D.b r)) []:=by
 refine oK Tryz.f165 ⟨rfl,?_⟩;unfold Ab at h;refine⟨a0.length,X10 _,?_⟩;refine AN h (fun _=>⟨y2 a0::dd 38 ([]),nn 39 ([])⟩) ?_ ?_
 ·intro _ h;revert h;refine Ah 9 3 JAF.toD rfl (fun i2 _=>⟨y2 a0::AV.fn 166 []::AV.fn 167 []::dd 6 (y2 a0::yi (a0.length:Int)::yi (i2:Int)::dd 27 ([])),nn 39 ([])⟩) ?_ ?_ ?_
  ·exact wk
  ·rintro _ K3 h;refine goC ?_;refine BK C5 ?_;exact AQ h
  rintro _ i2 x5 _ K3 b2 c2 e2 h p6;refine goC ?_;refine BJ (C0 b2) ?_;refine goC ?_;refine⟨BI (f:=JAF.toD) b2,JAF.toD x5,c2,rfl,?_⟩;refine AN h (fun v7=>⟨y2 a0::AV.fn 166 []::AV.fn 167 []::dd 6 (y2 a0::yi (a0.length:Int)::yi (i2:Int)::dd 22 (yb v7::dd 4 ([]))),nn 39 ([])⟩) ?_ ?_
  ·intro _ h;refine .inl (dO ?_);refine A2 h (fun _=>JJ) (fun _=>rfl) fun _ h=>?_;refine Ad h ?_ ?_<;>intro h
   ·refine cO ?_;exact AQ h
   refine Ad h ?_ ?_<;>intro h
   ·refine⟨_,rfl,?_⟩;(conv=>whnf);refine By h (fun _=>rfl) fun _ h=>?_;refine A2 h (fun _=>H9) (fun _=>rfl) fun _ h=>?_;refine cO ?_;exact AQ h
   refine cO ?_;exact AQ h
  rintro v7 h;refine goC ?_;refine Ad h ?_ ?_<;>intro h
  ·exact fin h
  refine⟨_,e2,?_⟩;exact p6 _ _ wk h
 rintro _ h;refine⟨a0.length,X10 _,?_⟩;exact fin h
theorem EF {a0:List JAF}{r:Bool}(h:Bg a0=some r):yC wl 141 [AV.d (D.l 3 JAF.toD a0)] [] (.d (D.b r)) []:=by
 refine oK Tryz.f141 ⟨rfl,?_⟩;unfold Bg at h;refine AK h (fun _=>Be) fun _ h=>?_;exact fin h
theorem Eu {a0:Int}{r:Bool}(h:Ba a0=some r):yC wl 116 [AV.d (D.i a0)] [] (.d (D.b r)) []:=by
 refine oK Tryz.f116 ⟨rfl,?_⟩;unfold Ba at h;refine AN h (fun v1=>⟨X::X::yb v1::dd 12 ([]),nn 15 ([])⟩) ?_ ?_
 ·intro _ h;obtain⟨v3,g4,h⟩:=AD h;refine⟨_,Bd (ek:=D.i) (ev:=D.i) (l:=Bz) (k:=a0) BP,D.i v3,Dz (z:=0) rfl g4,_,rfl,?_⟩;refine Aj h fun h=>?_;exact selC h
 rintro v1 h;exact fin h
theorem HT {a0:List JAA}{r:Bool}(h:Df a0=some r):yC wl 142 [AV.d (D.l 3 JAA.toD a0)] [] (.d (D.b r)) []:=by
 refine oK Tryz.f142 ⟨rfl,?_⟩;unfold Df at h;refine⟨a0.length,X10 _,?_⟩;refine AN h (fun _=>⟨y4 a0::dd 51 ([]),nn 52 ([])⟩) ?_ ?_
 ·intro _ h;revert h;refine Ah 5 3 JAA.toD rfl (fun i2 _=>⟨y4 a0::dd 4 (y4 a0::yi (a0.length:Int)::yi (i2:Int)::dd 44 ([])),nn 52 ([])⟩) ?_ ?_ ?_
  ·exact wk
  ·rintro _ K3 h;refine goC ?_;refine BK C5 ?_;exact AQ h
  rintro _ i2 x5 _ K3 b2 c2 e2 h p6;refine goC ?_;refine BJ (C0 b2) ?_;refine goC ?_;refine⟨BI (f:=JAA.toD) b2,JAA.toD x5,c2,rfl,?_⟩;refine AN h (fun v7=>⟨y4 a0::dd 4 (y4 a0::yi (a0.length:Int)::yi (i2:Int)::dd 39 (yb v7::dd 4 ([]))),nn 52 ([])⟩) ?_ ?_
  ·intro _ h;refine .inl (dO ?_);refine A2 h (fun _=>Eu) (fun _=>rfl) fun _ h=>?_;refine Ad h ?_ ?_<;>intro h
   ·refine cO ?_;exact AQ h
   refine A2 h (fun _=>Bt) (fun _=>rfl) fun _ h=>?_;refine Ad h ?_ ?_<;>intro h
   ·refine cO ?_;exact AQ h
   refine Ad h ?_ ?_<;>intro h
   ·refine cO ?_;exact AQ h
   refine⟨x5.Data.length,X10 _,?_⟩;refine Ad h ?_ ?_<;>intro h
   ·refine cO ?_;exact AQ h
   refine Ad h ?_ ?_<;>intro h
   ·refine⟨_,rfl,?_⟩;(conv=>whnf);refine By h (fun _=>rfl) fun _ h=>?_;refine cO ?_;exact AQ h
   refine cO ?_;exact AQ h
  rintro v7 h;refine goC ?_;refine Ad h ?_ ?_<;>intro h
  ·exact fin h
  refine⟨_,e2,?_⟩;exact p6 _ _ wk h
 rintro _ h;refine⟨a0.length,X10 _,?_⟩;exact fin h
theorem Hm {a0:JAD}{r:Bool}(h:DO a0=some r):yC wl 105 [AV.d (JAD.toD a0)] [] (.d (D.b r)) []:=by
 refine oK Tryz.f105 ⟨rfl,?_⟩;unfold DO at h;refine AN h (fun v1=>⟨X::X::yb v1::dd 48 ([]),nn 51 ([])⟩) ?_ ?_
 ·intro _ h;refine AK h (fun _=>Bt) fun _ h=>?_;refine Aj h fun h=>?_;refine AK h (fun _=>Jr) fun _ h=>?_;refine Aj h fun h=>?_;refine AK h (fun _=>Gw) fun _ h=>?_;refine Aj h fun h=>?_;refine AK h (fun _=>Bt) fun _ h=>?_;refine Aj h fun h=>?_;refine AK h (fun _=>Bt) fun _ h=>?_;refine Aj h fun h=>?_;refine Ad h ?_ ?_<;>intro h
  ·refine AK h (fun _=>Fo) fun _ h=>?_;refine Aj h fun h=>?_;refine AK h (fun _=>EF) fun _ h=>?_;refine Aj h fun h=>?_;refine AK h (fun _=>HT) fun _ h=>?_;exact AQ h
  refine AK h (fun _=>Gk) fun _ h=>?_;refine Aj h fun h=>?_;refine AK h (fun _=>Fo) fun _ h=>?_;refine Aj h fun h=>?_;refine AK h (fun _=>EF) fun _ h=>?_;refine Aj h fun h=>?_;refine AK h (fun _=>HT) fun _ h=>?_;exact AQ h
 rintro v1 h;exact fin h
theorem FS {a0:List UInt8}{r:(List UInt8)}(h:A8 a0=some r):yC wl 119 [AV.d (D.l 1 D.u8 a0)] [] (.d (D.l 1 D.u8 r)) []:=by
 refine oK Tryz.f119 ⟨rfl,?_⟩;unfold A8 at h;refine⟨?_,fun hz=>?_⟩
 ·refine goC ?_;refine apO h rfl fun _ h=>?_;(conv=>whnf);refine .inl ?_;(conv=>whnf);refine .inl ?_;refine⟨rfl,?_⟩;exact fin h
 obtain rfl:a0=[]:=(by simpa using hz);replace h:=aK h;refine goC ?_;(conv=>whnf);refine .inl ?_;exact fin h
end Go.AX.Q19
end
