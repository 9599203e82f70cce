/-
  Texts of one proof, packed.
-/
import Derived.Test.YtbohbnpaadcfmaaGreatDoorKG5
import Derived.Test.YtbohbnpaadcfmaaGreatDoorKG6
import Derived.KernelRfl
set_option linter.all false
set_option maxRecDepth 100000
set_option maxHeartbeats 4000000
open List renaming length_map→X10,length_append→X11,length_cons→X12,length_nil→X13,mem_singleton→X14,length_drop→X17,length_take→X18,mem_cons_of_mem→X19,length_replicate→X20,length_set→X21,length_singleton→X22,mem_append→X23
open Option.some renaming inj→X25
open Bool renaming and_eq_true→X27,eq_iff_iff→X28
open Nat renaming le_of_ble_eq_true→X29
section
namespace Go.AX.Q19
open Go Go.AX
theorem IK {α:Type}(l:List α):((l.length:Int) != (([]:List α).length:Int))=!decide (l=[]):=by
 cases l with
 | nil=>rfl
 | cons x t=>
  rw[decide_eq_false (by simp),Bool.not_false,bne_iff_ne]
  simp only[X12,X13]
  omega
theorem aB (l:List JAE):Dp l []=some (decide (l=[])):=by
 unfold Dp
 rw[IK]
 cases l with
 | nil=>rfl
 | cons x t=>rw[decide_eq_false (by simp)];rfl
theorem Zx (l:List JAB):Dl l []=some (decide (l=[])):=by
 unfold Dl
 rw[IK]
 cases l with
 | nil=>rfl
 | cons x t=>rw[decide_eq_false (by simp)];rfl
theorem aA (l:List JAF):BP l []=some (decide (l=[])):=by
 unfold BP
 rw[IK]
 cases l with
 | nil=>rfl
 | cons x t=>rw[decide_eq_false (by simp)];rfl
theorem Zo (l:List JAA):Bc l []=some (decide (l=[])):=by
 unfold Bc
 rw[IK]
 cases l with
 | nil=>rfl
 | cons x t=>rw[decide_eq_false (by simp)];rfl
theorem VY (a:JAC):isE a=((a.Origin==-1)&&(decide (a.Path=[])&&(Addr.eqd a.Next zAd&&((a.MED==-1)&&((a.Pref==-1)&&((a.OTC==-1)&&(decide (a.Communities=[])&&(decide (a.JAF=[])&&decide (a.Other=[]))))))))):=by
 have h:=Um a
 unfold Cb at h
 have e :∀x:Bool,cond true x false=x:=fun x=>rfl
 rw[AH,show eA.Path=[] from rfl,show eA.Communities=[] from rfl,show eA.JAF=[] from rfl,show eA.Other=[] from rfl,aB,AC,Zx,AC,aA,AC,Zo,AC] at h
 have h2:(if (a.Origin==-1)=true then if decide (a.Path=[])=true then if Addr.eqd a.Next zAd=true then if (a.MED==-1)=true then if (a.Pref==-1)=true then if (a.OTC==-1)=true then if decide (a.Communities=[])=true then if decide (a.JAF=[])=true then some (decide (a.Other=[])) else some false else some false else some false else some false else some false else some false else some false else some false)=some (isE a):=h
 generalize isE a=r at h2 ⊢
 generalize (a.Origin==-1)=c1 at h2 ⊢
 generalize decide (a.Path=[])=c2 at h2 ⊢
 generalize Addr.eqd a.Next zAd=c3 at h2 ⊢
 generalize (a.MED==-1)=c4 at h2 ⊢
 generalize (a.Pref==-1)=c5 at h2 ⊢
 generalize (a.OTC==-1)=c6 at h2 ⊢
 generalize decide (a.Communities=[])=c7 at h2 ⊢
 generalize decide (a.JAF=[])=c8 at h2 ⊢
 generalize decide (a.Other=[])=c9 at h2 ⊢
 cases c1<;>cases c2<;>cases c3<;>cases c4<;>cases c5<;>cases c6<;>cases c7<;>cases c8<;>simpa using h2.symm
theorem Ny (a:JAC):isE a=true↔a=eA:=by
 constructor
 ·intro h
  rw[VY] at h
  simp only[X27,beq_iff_eq,decide_eq_true_eq] at h
  obtain⟨h1,h2,h3,h4,h5,h6,h7,h8,h9⟩:=h
  have h3:=(Addr.eqd_iff _ _).1 h3
  obtain⟨a1,a2,a3,a4,a5,a6,a7,a8,a9⟩:=a
  dsimp only at *
  subst h1 h2 h3 h4 h5 h6 h7 h8 h9
  rfl
 rintro rfl
 have:=Um eA
 rw[WU] at this
 exact (X25 this).symm
theorem aJ:VA eA:=L6.1 (by decide)
theorem ZI:wrS eA=[]:=by
 unfold wrS
 rw[List.flatMap_eq_nil_iff]
 intro k _
 have:G eA (k:Int)=none:=by
  unfold G
  have n1:¬ (eA.Origin≠-1):=fun q=>q rfl
  have n2:¬ (eA.Origin≠-1\/eA.Path≠[]):=fun q=>q.elim (fun q=>q rfl) fun q=>q rfl
  have n3:¬ (GO eA=true):=by decide
  have n4:¬ (eA.MED≠-1):=fun q=>q rfl
  have n5:¬ (eA.Pref≠-1):=fun q=>q rfl
  have n6:¬ (eA.Communities≠[]):=fun q=>q rfl
  have n7:¬ (eA.JAF≠[]):=fun q=>q rfl
  have n8:¬ (eA.OTC≠-1):=fun q=>q rfl
  rw[if_neg n1,if_neg n2,if_neg n3,if_neg n4,if_neg n5,if_neg n6,if_neg n7,if_neg n8]
  simp only[ite_self]
 unfold ent
 rw[this]
 rfl
def G8 (p:JAD):Nat:=1+(p.Len.toNat+7)/8
def LK (l:List JAD):Nat:=(l.map G8).foldr (· + ·) 0
theorem UJ {p:JAD}(h:Bn p):(KU p).length=G8 p:=by
 obtain⟨h1,h2,h3,_⟩:=h
 obtain⟨_,e2⟩:=IF h1
 have:=(w_L p.Addr).1
 unfold KU G8
 simp only[X12,X18]
 omega
theorem Ou :∀{l:List JAD},(∀p∈l,Bn p/\p.Addr.V6=false)->(Aq false l).length=LK l/\Aq true l=[]
 | [],_=>⟨rfl,rfl⟩
 | p::t,h=>by
  obtain⟨g,h6⟩:=h p (by simp)
  obtain⟨i1,i2⟩:=Ou (l:=t) fun q hq=>h q (X19 _ hq)
  rw[Ew,Ew,h6,if_pos (by decide),if_neg (by decide),X11,UJ g,i1,i2]
  exact⟨rfl,rfl⟩
theorem Rn :∀{l:List JAD},(∀p∈l,Bn p/\p.Addr.V6=false)->LK l<=5*l.length
 | [],_=>Nat.le_refl _
 | p::t,h=>by
  obtain⟨g,h6⟩:=h p (by simp)
  have:=Rn (l:=t) fun q hq=>h q (X19 _ hq)
  obtain⟨_,g2,g3,_⟩:=g
  have hw:p.Addr.w=32:=by unfold Addr.w;rw[h6];rfl
  have hs:G8 p<=5:=by unfold G8;omega
  show G8 p+LK t<=_
  rw[X12]
  omega
theorem Tz {l:List JAD}(h :∀p∈l,Bn p/\p.Addr.V6=false)(hl:l.length<=100):DY ⟨l,eA,[]⟩=true/\(CH ⟨l,eA,[]⟩).1.length=4+LK l/\(CH ⟨l,eA,[]⟩).2=0:=by
 obtain⟨c1,c2⟩:=Ou h
 have cs:=Rn h
 have e2:Dv ⟨l,eA,[]⟩=[]:=by
  rw[RF,Qy]
  show (if 0<(Aq true l).length then _ else _)=_
  rw[c2,if_neg (by decide)]
  rfl
 have hp:CH ⟨l,eA,[]⟩=(HD ⟨l,eA,[]⟩ [],0):=by
  unfold CH
  rw[e2]
  rfl
 have hlen:(HD ⟨l,eA,[]⟩ []).length=4+LK l:=by
  unfold HD
  have t :∀n,(two n).length=2:=fun n=>rfl
  have z:(Aq false ([]:List JAD)).length=0:=rfl
  simp only[X11,t,X13]
  rw[c1,z]
  omega
 refine⟨?_,by rw[hp];exact hlen,by rw[hp]⟩
 have hE:isE eA=true:=(Ny eA).2 rfl
 unfold DY TL
 rw[hp]
 dsimp only
 rw[hlen,decide_eq_true (p:=l.length<=256) (by omega),List.append_nil,List.all_eq_true.2 (fun p hp=>(G2 p).2.2 (h p hp).1),hE,decide_eq_true (p:=4+LK l<=4077) (by omega)]
 rfl
theorem ZO {x y:Nat}(hx:x<2^56):x ||| 2^56*y=2^56*y+x:=by
 rw[Nat.or_comm]
 exact (Nat.two_pow_add_eq_or_of_lt hx y).symm
theorem W7 (lo hi:UInt64):(AN ((BitVec.ofInt 64 ((AN (Int.fdiv (lo.toNat:Int) (2^(min (Int.toNat 8) 64)))).toNat:Int) ||| BitVec.ofInt 64 ((AN ((hi.toNat:Int)*(2^(min (Int.toNat 56) 64)))).toNat:Int)).toNat:Int)).toNat=2^56*(hi.toNat%256)+lo.toNat/256/\
  (AN (Int.fdiv (hi.toNat:Int) (2^(min (Int.toNat 8) 64)))).toNat=hi.toNat/256:=by
 have hl:=lo.toNat_lt
 have hh:=hi.toNat_lt
 have e1:Int.fdiv (lo.toNat:Int) (2^(min (Int.toNat 8) 64))=((lo.toNat/256:Nat):Int):=fd lo.toNat 8
 have e2:Int.fdiv (hi.toNat:Int) (2^(min (Int.toNat 8) 64))=((hi.toNat/256:Nat):Int):=fd hi.toNat 8
 have e3:((hi.toNat:Int)*(2^(min (Int.toNat 56) 64)))=((hi.toNat*2^56:Nat):Int):=by
  rw[Int.natCast_mul]
  rfl
 rw[e1,e2,e3,A8,A8,A8,A8]
 have f1:(UInt64.ofNat (lo.toNat/256)).toNat=lo.toNat/256:=by rw[UInt64.toNat_ofNat'];omega
 have f2:(UInt64.ofNat (hi.toNat/256)).toNat=hi.toNat/256:=by rw[UInt64.toNat_ofNat'];omega
 have f3:(UInt64.ofNat (hi.toNat*2^56)).toNat=2^56*(hi.toNat%256):=by rw[UInt64.toNat_ofNat'];omega
 refine⟨?_,f2⟩
 rw[f1,f3,BitVec.ofInt_natCast,BitVec.ofInt_natCast,BitVec.toNat_or,BitVec.toNat_ofNat,BitVec.toNat_ofNat,Nat.mod_eq_of_lt (by omega),Nat.mod_eq_of_lt (by omega),ZO (by omega),UInt64.toNat_ofNat']
 omega
theorem X1 (x:Addr)(b:Bool):(Addr.n ⟨b,AN (Int.fdiv (x.Hi.toNat:Int) (2^(min (Int.toNat 8) 64))),AN ((BitVec.ofInt 64 ((AN (Int.fdiv (x.Lo.toNat:Int) (2^(min (Int.toNat 8) 64)))).toNat:Int) ||| BitVec.ofInt 64 ((AN ((x.Hi.toNat:Int)*(2^(min (Int.toNat 56) 64)))).toNat:Int)).toNat:Int)⟩)=x.n/256:=by
 obtain⟨s1,s2⟩:=W7 x.Lo x.Hi
 unfold Addr.n
 rw[s1,s2]
 have hl:=x.Lo.toNat_lt
 omega
theorem XV (x:Addr):Ah (x.Lo.toNat:Int)=UInt8.ofNat x.n:=by
 rw[CJ]
 apply Ug
 unfold Addr.n
 omega
theorem Iu {a:Addr}(h:a.ok=true):A5 a=some (byB a):=by
 have hB:=(IF h).2
 have hL:a.L=16\/a.L=4:=by unfold Addr.L;split<;>omega
 unfold A5
 rw[Ec,AC,h,if_neg (by decide),AH]
 have key :∀n:Int,n=a.L->(Option.bind (chk (0<=n/\n<=n/\n<=1048576)) fun _=>
  AI (τ:=(List UInt8)) (fun k4=>
   A1 (σ:=Int×Addr×(List UInt8)) (fun next5 (v6,v7,v8)=>
    if (decide (v6 ≥ 0)) then
     Option.bind (geti v8 v6) fun v9=>
     Option.bind (seti v8 v6 (Ah (v7.Lo.toNat:Int))) fun v10=>
     next5 ((AS (v6-1)),(⟨v7.V6,(AN (Int.fdiv (v7.Hi.toNat:Int) (2^(min (Int.toNat 8) 64)))),(AN ((BitVec.ofInt 64 ((AN (Int.fdiv (v7.Lo.toNat:Int) (2^(min (Int.toNat 8) 64)))).toNat:Int) ||| BitVec.ofInt 64 ((AN ((v7.Hi.toNat:Int)*(2^(min (Int.toNat 56) 64)))).toNat:Int)).toNat:Int))⟩:Addr),v10)
    else
     k4 v8
   ) fuel ((AS (n-1)),a,(List.replicate (Int.toNat n) (0:UInt8)))
  ) fun v11=>
  some v11)=some (byB a):=by
  intro n hn
  have ck:chk (0<=n/\n<=n/\n<=1048576)=some ():=by unfold chk;rw[if_pos (by omega)]
  rw[ck,AC,AH]
  refine (Dz (fun s:Int×Addr×List UInt8=>∃j:Nat,j<=a.L/\s.1=(a.L:Int)-1-(j:Int)/\s.2.1.n=a.n/256^j/\s.2.2.length=a.L/\∀k,a.L-j<=k->k<a.L->s.2.2[k]?=some (Kv a (a.L-1-k))) (fun s=>(s.1+1).toNat) (fun s=>some (byB a)) ?_ fuel (AS (n-1),a,List.replicate (Int.toNat n) (0:UInt8)) ?_ ?_).trans rfl
  ·rintro next ⟨i,x,l⟩ ⟨j,hj,h1,h2,h3,h4⟩ hk
   dsimp only at h1 h2 h3 h4 ⊢
   subst h1
   rcases (by omega:j=a.L\/j<a.L) with e | hlt
   ·rw[if_neg (by simp only[decide_eq_true_eq];omega)]
    congr 1
    apply List.ext_getElem?
    intro k
    by_cases q:k<a.L
    ·rw[h4 k (by omega) q,ZN h q]
    rw[List.getElem?_eq_none (by omega),List.getElem?_eq_none (by omega)]
   obtain⟨y,hy,_⟩:=Ok.geti (l:=l) (i:=(a.L:Int)-1-(j:Int)) (by omega)
   have hs:seti l ((a.L:Int)-1-(j:Int)) (Ah (x.Lo.toNat:Int))=some (l.set (a.L-1-j) (UInt8.ofNat x.n)):=by
    unfold seti
    rw[if_pos (by omega),XV]
    congr 2
    omega
   rw[if_pos (by simp only[decide_eq_true_eq];omega),hy,AC,hs,AC,AQ (by omega)]
   refine hk _ ⟨j+1,by omega,by dsimp only;omega,?_,by dsimp only;rw[X21];exact h3,?_⟩ (by dsimp only;omega)
   ·dsimp only
    rw[X1,h2,Nat.div_div_eq_div_mul,Nat.pow_succ]
   dsimp only
   intro k k1 k2
   rw[List.getElem?_set]
   by_cases q:a.L-1-j=k
   ·rw[if_pos q,if_pos (by omega),<- q]
    have e2:a.L-1-(a.L-1-j)=j:=by omega
    rw[e2,h2]
    unfold Kv
    rw[Nat.pow_mul]
   rw[if_neg q]
   exact h4 k (by omega) k2
  ·refine⟨0,by omega,by dsimp only;rw[AQ (by omega)];omega,by simp,?_,fun k k1 k2=>by omega⟩
   dsimp only
   rw[X20]
   omega
  dsimp only
  rw[AQ (by omega)]
  exact Be (by omega)
 unfold Addr.L at key
 by_cases h6:a.V6=true
 ·rw[if_pos h6]
  rw[if_pos h6] at key
  exact key 16 rfl
 rw[if_neg h6]
 rw[if_neg h6] at key
 exact key 4 rfl
theorem Za (d:List UInt8)(h:d.length<=2048):(CY [⟨128,15,d⟩]).2=0/\(CY [⟨128,15,d⟩]).1=Ez [⟨128,15,d⟩]\/2044<d.length:=by
 by_cases q:2044<d.length
 ·exact .inr q
 left
 have hj:Ez [⟨128,15,d⟩]=Nc ⟨128,15,d⟩:=by unfold Ez;rw[List.flatMap_cons,List.flatMap_nil,List.append_nil]
 have hl:=N1 ⟨128,15,d⟩
 have hk:([⟨128,15,d⟩]:List JAA).all okJ=true:=by
  unfold okJ
  simp only[List.all_cons,List.all_nil,Bool.and_true]
  simp
  omega
 dsimp only at hl
 unfold CY
 rw[if_pos hk,hj,if_neg (by omega)]
 exact⟨rfl,rfl⟩
theorem Xj {l:List JAD}(h :∀p∈l,Bn p)(hl:l.length<=40):DY ⟨l,eA,[]⟩=true:=by
 have c1:=Bt (six:=true) h
 have c2:=Bt (six:=false) h
 have hlen :∀a:List UInt8,(HD ⟨l,eA,[]⟩ a).length=4+(Aq false l).length+a.length:=fun a=>by
  unfold HD
  have t :∀n,(two n).length=2:=fun n=>rfl
  have z:(Aq false ([]:List JAD)).length=0:=rfl
  simp only[X11,t]
  rw[z]
  omega
 have e2:Dv ⟨l,eA,[]⟩=if 0<(Aq true l).length then [x15 ⟨l,eA,[]⟩] else []:=by
  rw[RF,Qy]
  rfl
 have hp:(CH ⟨l,eA,[]⟩).2=0/\(CH ⟨l,eA,[]⟩).1.length<=4077:=by
  unfold CH
  rw[e2]
  split
  ·have hd:(x15 ⟨l,eA,[]⟩).Data.length=3+(Aq true l).length:=by unfold x15;simp only[X11,X12,X13]
   have hx:x15 ⟨l,eA,[]⟩=⟨128,15,(x15 ⟨l,eA,[]⟩).Data⟩:=rfl
   rw[hx]
   rcases Za (x15 ⟨l,eA,[]⟩).Data (by omega) with ⟨j1,j2⟩|q
   ·rw[j1,if_neg (by decide)]
    refine⟨rfl,?_⟩
    dsimp only
    rw[hlen,j2]
    have:=N1 (x15 ⟨l,eA,[]⟩)
    have e:Ez [⟨128,15,(x15 ⟨l,eA,[]⟩).Data⟩]=Nc (x15 ⟨l,eA,[]⟩):=by unfold Ez;rw[List.flatMap_cons,List.flatMap_nil,List.append_nil];rfl
    rw[e]
    omega
   omega
  have j:CY []=([],0):=rfl
  rw[j,if_neg (by decide)]
  refine⟨rfl,?_⟩
  dsimp only
  rw[hlen,X13]
  omega
 have hE:isE eA=true:=(Ny eA).2 rfl
 unfold DY TL
 rw[hp.1]
 dsimp only
 rw[decide_eq_true (p:=l.length<=256) (by omega),List.append_nil,List.all_eq_true.2 (fun p hp=>(G2 p).2.2 (h p hp)),hE,decide_eq_true (p:=(CH ⟨l,eA,[]⟩).1.length<=4077) hp.2]
 rfl
theorem Uy {lo:UInt64}(h:lo.toNat<4294967296):(⟨false,0,lo⟩:Addr).ok=true:=
 U5 (x:=(((0:UInt64).toNat:Int)==0)) (y:=decide ((lo.toNat:Int)<4294967296)) (by simp) (decide_eq_true (by omega))
theorem ok6 (hi lo:UInt64):(⟨true,hi,lo⟩:Addr).ok=true:=by unfold Addr.ok;simp only[cond_true]
theorem NF {x:Int}(h0:0<=x)(h1:x<4294967296):(AN x).toNat<4294967296:=by
 obtain⟨k,rfl⟩ :∃k:Nat,x=k:=⟨x.toNat,by omega⟩
 rw[A8]
 simp only[UInt64.toNat_ofNat']
 omega
theorem Nl {d:JAI}(hd:Dk d):Ok (ED d) fun r=>r.1.ok=true/\Dk r.2:=by
 unfold ED
 refine .bind (AM hd (by omega)) ?_
 rintro⟨c,d⟩ ⟨c1,c2,hd⟩
 dsimp only at c1 c2 hd ⊢
 refine .ite (fun _=>.bind (AM hd (by omega)) ?_) fun _=>.ite (fun _=>.bind (AM hd (by omega)) ?_) fun _=>.ite (fun _=>.bind (AM hd (by omega)) ?_) fun _=>.ite (fun _=>.bind (AM hd (by omega)) ?_) fun _=>.ite (fun _=>.bind (AM hd (by omega)) ?_) fun _=>.bind (AM hd (by omega)) ?_
 ·rintro⟨v,d⟩ ⟨v1,v2,hd⟩
  dsimp only at v1 v2 hd ⊢
  refine .bind (AM hd (by omega)) ?_
  rintro⟨u,d⟩ ⟨u1,u2,hd⟩
  dsimp only at u1 u2 hd ⊢
  refine .ret ⟨Uy ?_,hd⟩
  have e1:v*(2^(min (Int.toNat 8) 64))=v*256:=rfl
  rw[e1,AQ (x:=v*256) (by omega),AQ (x:=167772160+v*256) (by omega),AQ (by omega)]
  exact NF (by omega) (by omega)
 ·rintro⟨v,d⟩ ⟨v1,v2,hd⟩
  dsimp only at v1 v2 hd ⊢
  refine .bind (AM hd (by omega)) ?_
  rintro⟨u,d⟩ ⟨u1,u2,hd⟩
  exact .ret ⟨ok6 _ _,hd⟩
 ·rintro⟨v,d⟩ ⟨v1,v2,hd⟩
  dsimp only at v1 v2 hd ⊢
  refine .bind (.geti (by simp;omega)) fun x hx=>.ret ⟨Uy ?_,hd⟩
  have:=hx.1
  simp only[List.mem_cons,List.not_mem_nil,or_false] at this
  rcases this with rfl | rfl | rfl | rfl | rfl<;>decide
 ·rintro⟨v,d⟩ ⟨v1,v2,hd⟩
  dsimp only at v1 v2 hd ⊢
  refine .bind (.geti (by simp;omega)) fun x hx=>.bind (AM hd (by omega)) ?_
  rintro⟨u,d⟩ ⟨u1,u2,hd⟩
  dsimp only at u1 u2 hd ⊢
  exact .bind (.geti (by simp;omega)) fun y hy=>.ret ⟨ok6 _ _,hd⟩
 ·rintro⟨v,d⟩ ⟨v1,v2,hd⟩
  dsimp only at v1 v2 hd ⊢
  refine .bind (AM hd (by omega)) ?_
  rintro⟨u,d⟩ ⟨u1,u2,hd⟩
  dsimp only at u1 u2 hd ⊢
  refine .bind (AM hd (by omega)) ?_
  rintro⟨u,d⟩ ⟨u1,u2,hd⟩
  dsimp only at u1 u2 hd ⊢
  refine .bind (AM hd (by omega)) ?_
  rintro⟨u,d⟩ ⟨u1,u2,hd⟩
  exact .ret ⟨ok6 _ _,hd⟩
 rintro⟨v,d⟩ ⟨v1,v2,hd⟩
 dsimp only at v1 v2 hd ⊢
 exact .ret ⟨Uy (NF (by omega) (by omega)),hd⟩
theorem D5 {d:JAI}(hd:Dk d):Ok (BX d) fun r=>Bn r.1/\Dk r.2:=by
 unfold BX
 refine .bind (Nl hd) ?_
 rintro⟨a,d⟩ ⟨ha,hd⟩
 dsimp only at ha hd ⊢
 rw[Hv]
 have hw:(if a.V6=true then (128:Int) else 32)=a.w:=by unfold Addr.w;split<;>rfl
 have hwb:a.w=128\/a.w=32:=by unfold Addr.w;split<;>simp
 rw[hw]
 refine .bind (AM hd (by omega)) ?_
 rintro⟨c,d⟩ ⟨c1,c2,hd⟩
 dsimp only at c1 c2 hd ⊢
 refine .join (fun p:Int×JAI=>(0<=p.1/\p.1<=a.w)/\Dk p.2) (fun k hk=>?_) ?_
 ·refine .ite (fun _=>?_) fun _=>?_
  ·rw[AQ (x:=(a.w:Int)+1) (by omega)]
   refine .bind (AM hd (by omega)) ?_
   rintro⟨v,d⟩ ⟨v1,v2,hd⟩
   exact hk _ ⟨by simp only at v1 v2 ⊢;omega,hd⟩
  refine .join (fun p:Int×JAI=>(0<=p.1/\p.1<=a.w)/\Dk p.2) (fun k2 hk2=>.ite (fun _=>.bind (AM hd (by omega)) ?_) fun _=>?_) ?_
  ·rintro⟨v,d⟩ ⟨v1,v2,hd⟩
   dsimp only at v1 v2 hd ⊢
   rw[AQ (by omega)]
   exact hk2 _ ⟨by simp only;omega,hd⟩
  ·refine .join (fun p:Int×JAI=>(0<=p.1/\p.1<=a.w)/\Dk p.2) (fun k3 hk3=>.ite (fun _=>.bind (AM hd (by omega)) ?_) fun _=>hk3 _ ⟨by simp only;omega,hd⟩) ?_
   ·rintro⟨v,d⟩ ⟨v1,v2,hd⟩
    dsimp only at v1 v2 hd ⊢
    refine .bind (.geti (by simp;omega)) fun x hx=>hk3 _ ⟨?_,hd⟩
    have:=hx.1
    simp only[List.mem_cons,List.not_mem_nil,or_false] at this
    simp only
    rcases this with rfl | rfl | rfl | rfl | rfl<;>omega
   rintro⟨v,d⟩ h;exact hk2 _ h
  rintro⟨v,d⟩ h;exact hk _ h
 rintro⟨v,d⟩ ⟨⟨v1,v2⟩,hd⟩
 dsimp only at v1 v2 hd ⊢
 obtain⟨r,e,h1,h2⟩:=HO a v
 rw[h1,AC]
 rcases h2 with ⟨_,rfl,rfl⟩|⟨h3,_⟩
 ·exact .ret ⟨Xc ha v1 v2,hd⟩
 exact absurd ⟨ha,v1,v2⟩ h3
def WrJ {ρ:Type}(a:JAC)(K:Int×List JAA->Option ρ):Option ρ:=
 AI (τ:=Int×(List JAA)) (fun k1=>
  Option.bind (CG a) fun v2=>
  if (!v2) then
   k1 (1,[])
  else
   AI (τ:=(List JAA)) (fun k3=>
    AI (τ:=(List JAA)) (fun k4=>
     if (a.Origin != (-1)) then
      Option.bind (some (Option.getD (A4 Ba 1) 0)) fun v5=>
      Option.bind (apnd (α:=JAA) 40 [] ([(⟨v5,1,([(Ah a.Origin)]:List UInt8)⟩:JAA)]:List JAA)) fun _=>
      k4 ([(⟨v5,1,([(Ah a.Origin)]:List UInt8)⟩:JAA)]:List JAA)
     else
      k4 []
    ) fun v6=>
    k3 v6
   ) fun v7=>
   AI (τ:=(List JAA)) (fun k8=>
    if (a.Origin != (-1)) then
     Option.bind (BH a.Path) fun v9=>
     AI (τ:=(List JAA)) (fun k10=>
      Option.bind (some (Option.getD (A4 Ba 2) 0)) fun v11=>
      Option.bind (apnd (α:=JAA) 40 v7 ([(⟨v11,2,v9⟩:JAA)]:List JAA)) fun v12=>
      k10 v12
     ) fun v13=>
     k8 v13
    else
     Option.bind (BH a.Path) fun v14=>
     AI (τ:=(List JAA)) (fun k15=>
      AI (τ:=(List JAA)) (fun k16=>
       if (cond false true (decide ((a.Path.length:Int) > 0))) then
        Option.bind (some (Option.getD (A4 Ba 2) 0)) fun v17=>
        Option.bind (apnd (α:=JAA) 40 v7 ([(⟨v17,2,v14⟩:JAA)]:List JAA)) fun v18=>
        k16 v18
       else
        k16 v7
      ) fun v19=>
      k15 v19
     ) fun v20=>
     k8 v20
   ) fun v21=>
   AI (τ:=(List JAA)) (fun k22=>
    if (!a.Next.V6) then
     Option.bind (A5 a.Next) fun v23=>
     AI (τ:=(List JAA)) (fun k24=>
      AI (τ:=(List JAA)) (fun k25=>
       if (cond true (!(Addr.eqd a.Next (⟨false,(0:UInt64),(0:UInt64)⟩:Addr))) false) then
        Option.bind (some (Option.getD (A4 Ba 3) 0)) fun v26=>
        Option.bind (apnd (α:=JAA) 40 v21 ([(⟨v26,3,v23⟩:JAA)]:List JAA)) fun v27=>
        k25 v27
       else
        k25 v21
      ) fun v28=>
      k24 v28
     ) fun v29=>
     k22 v29
    else
     Option.bind (A5 a.Next) fun v30=>
     AI (τ:=Unit) (fun k31=>
      k31 ()
     ) fun _=>
     k22 v21
   ) fun v32=>
   Option.bind (A2 ([a.MED]:List Int)) fun v33=>
   AI (τ:=(List JAA)) (fun k34=>
    AI (τ:=(List JAA)) (fun k35=>
     if (a.MED != (-1)) then
      Option.bind (some (Option.getD (A4 Ba 4) 0)) fun v36=>
      Option.bind (apnd (α:=JAA) 40 v32 ([(⟨v36,4,v33⟩:JAA)]:List JAA)) fun v37=>
      k35 v37
     else
      k35 v32
    ) fun v38=>
    k34 v38
   ) fun v39=>
   Option.bind (A2 ([a.Pref]:List Int)) fun v40=>
   AI (τ:=(List JAA)) (fun k41=>
    AI (τ:=(List JAA)) (fun k42=>
     if (a.Pref != (-1)) then
      Option.bind (some (Option.getD (A4 Ba 5) 0)) fun v43=>
      Option.bind (apnd (α:=JAA) 40 v39 ([(⟨v43,5,v40⟩:JAA)]:List JAA)) fun v44=>
      k42 v44
     else
      k42 v39
    ) fun v45=>
    k41 v45
   ) fun v46=>
   Option.bind (BN a.Communities) fun v47=>
   AI (τ:=(List JAA)) (fun k48=>
    AI (τ:=(List JAA)) (fun k49=>
     if (decide ((a.Communities.length:Int) > 0)) then
      Option.bind (some (Option.getD (A4 Ba 8) 0)) fun v50=>
      Option.bind (apnd (α:=JAA) 40 v46 ([(⟨v50,8,v47⟩:JAA)]:List JAA)) fun v51=>
      k49 v51
     else
      k49 v46
    ) fun v52=>
    k48 v52
   ) fun v53=>
   Option.bind (C9 a.JAF) fun v54=>
   AI (τ:=(List JAA)) (fun k55=>
    AI (τ:=(List JAA)) (fun k56=>
     if (decide ((a.JAF.length:Int) > 0)) then
      Option.bind (some (Option.getD (A4 Ba 32) 0)) fun v57=>
      Option.bind (apnd (α:=JAA) 40 v53 ([(⟨v57,32,v54⟩:JAA)]:List JAA)) fun v58=>
      k56 v58
     else
      k56 v53
    ) fun v59=>
    k55 v59
   ) fun v60=>
   Option.bind (A2 ([a.OTC]:List Int)) fun v61=>
   AI (τ:=(List JAA)) (fun k62=>
    AI (τ:=(List JAA)) (fun k63=>
     if (a.OTC != (-1)) then
      Option.bind (some (Option.getD (A4 Ba 35) 0)) fun v64=>
      Option.bind (apnd (α:=JAA) 40 v60 ([(⟨v64,35,v61⟩:JAA)]:List JAA)) fun v65=>
      k63 v65
     else
      k63 v60
    ) fun v66=>
    k62 v66
   ) fun v67=>
   AI (τ:=(List JAA)) (fun k68=>
    Ak (σ:=(List JAA)) (fun v69=>
     k68 v69
    ) (fun next70 (x71:JAA) i72 v69=>
     Option.bind (BK x71.Data) fun v73=>
     Option.bind (apnd (α:=JAA) 40 v69 ([{ x71 with Data:=v73 }]:List JAA)) fun v74=>
     next70 v74
    ) a.Other 0 v67
   ) fun v75=>
   Option.bind (FO CC v75) fun v76=>
   k1 (0,v76)
 ) K
theorem Uj {a:JAC}(v:VA a){ρ:Type}(K:Int×List JAA->Option ρ):WrJ a K=K (0,wrS a):=by
 have hs:=HB v.p
 have hc:=(Eg.1 v.c)
 have hl:=(Em.1 v.l).2.2
 unfold WrJ
 rw[AH,Ot v.sm,AC,L6.2 v,if_neg (by decide)]
 have s1 :∀{ρ:Type} (q:List JAA->Option ρ),AI (τ:=(List JAA)) (fun k2=>
   AI (τ:=(List JAA)) (fun k3=>
    if (a.Origin != (-1))=true then
     Option.bind (some (Option.getD (A4 Ba 1) 0)) fun v4=>
     Option.bind (apnd (α:=JAA) 40 [] ([(⟨v4,1,([(Ah a.Origin)]:List UInt8)⟩:JAA)]:List JAA)) fun _=>
     k3 ([(⟨v4,1,([(Ah a.Origin)]:List UInt8)⟩:JAA)]:List JAA)
    else
     k3 []
   ) fun v5=>
   k2 v5
  ) q=q (ent a 1):=by
  intro ρ q
  have hG:G a 1=if a.Origin≠-1 then some [Ah a.Origin] else none:=rfl
  unfold ent
  rw[AH,AH,K4,hG]
  by_cases h:a.Origin=-1
  ·rw[if_neg (by simp[h]),if_neg (by simp[h])]
  rw[if_pos (by simpa using h),if_pos h,AC,AP (by decide) (by simp),AC]
 rw[s1]
 have hpath:BH a.Path=some (Jk a.Path):=Vy (by omega)
 have s2 :∀{ρ:Type} (w:List JAA) (hw:w.length<=1) (q:List JAA->Option ρ),AI (τ:=(List JAA)) (fun k7=>
   if (a.Origin != (-1))=true then
    Option.bind (BH a.Path) fun v8=>
    AI (τ:=(List JAA)) (fun k9=>
     Option.bind (some (Option.getD (A4 Ba 2) 0)) fun v10=>
     Option.bind (apnd (α:=JAA) 40 w ([(⟨v10,2,v8⟩:JAA)]:List JAA)) fun v11=>
     k9 v11
    ) fun v12=>
    k7 v12
   else
    Option.bind (BH a.Path) fun v13=>
    AI (τ:=(List JAA)) (fun k14=>
     AI (τ:=(List JAA)) (fun k15=>
      if (cond false true (decide ((a.Path.length:Int) > 0)))=true then
       Option.bind (some (Option.getD (A4 Ba 2) 0)) fun v16=>
       Option.bind (apnd (α:=JAA) 40 w ([(⟨v16,2,v13⟩:JAA)]:List JAA)) fun v17=>
       k15 v17
      else
       k15 w
     ) fun v18=>
     k14 v18
    ) fun v19=>
    k7 v19
  ) q=q (w++ent a 2):=by
  intro ρ w hw q
  have hG:G a 2=if a.Origin≠-1\/a.Path≠[] then some (Jk a.Path) else none:=rfl
  have e:(a.Path≠[])↔0<a.Path.length:=List.length_pos_iff.symm
  unfold ent
  rw[AH,hpath,K4,hG]
  by_cases h:a.Origin=-1
  ·rw[if_neg (by simp[h]),AC,AH,AH,cond_false]
   by_cases h2:0<a.Path.length
   ·rw[if_pos (by simp only[decide_eq_true_eq];omega),if_pos (.inr (e.2 h2)),AC,AP (by decide) (by simp;omega),AC]
   rw[if_neg (by simp only[decide_eq_true_eq];omega),if_neg (by rw[e];omega),List.append_nil]
  rw[if_pos (by simpa using h),if_pos (.inl h),AC,AH,AC,AP (by decide) (by simp;omega),AC]
 have l1:=Fg a 1
 have l2:=Fg a 2
 have l3:=Fg a 3
 have l4:=Fg a 4
 have l5:=Fg a 5
 have l8:=Fg a 8
 have l32:=Fg a 32
 refine (s2 _ (by omega) _).trans ?_
 have s3 :∀{ρ:Type} (w:List JAA) (hw:w.length<=2) (q:List JAA->Option ρ),AI (τ:=(List JAA)) (fun k21=>
   if (!a.Next.V6)=true then
    Option.bind (A5 a.Next) fun v22=>
    AI (τ:=(List JAA)) (fun k23=>
     AI (τ:=(List JAA)) (fun k24=>
      if (cond true (!(Addr.eqd a.Next (⟨false,(0:UInt64),(0:UInt64)⟩:Addr))) false)=true then
       Option.bind (some (Option.getD (A4 Ba 3) 0)) fun v25=>
       Option.bind (apnd (α:=JAA) 40 w ([(⟨v25,3,v22⟩:JAA)]:List JAA)) fun v26=>
       k24 v26
      else
       k24 w
     ) fun v27=>
     k23 v27
    ) fun v28=>
    k21 v28
   else
    Option.bind (A5 a.Next) fun v29=>
    AI (τ:=Unit) (fun k30=>
     k30 ()
    ) fun _=>
    k21 w
  ) q=q (w++ent a 3):=by
  intro ρ w hw q
  have hG:G a 3=if GO a=true then some (b4 a.Next.Lo.toNat) else none:=rfl
  unfold ent
  rw[AH,K4,hG]
  unfold GO
  cases h6:a.Next.V6
  ·rw[if_pos (by rfl),UQ v.n h6,AC,AH,AH]
   cases Addr.eqd a.Next ⟨false,0,0⟩
   ·rw[if_pos (by rfl),if_pos (by rfl),AC,AP (by decide) (by simp;omega),AC]
   rw[if_neg (by decide),if_neg (by decide),List.append_nil]
  obtain⟨r,hr⟩:=XI a.Next
  rw[if_neg (by decide),hr,AC,AH,if_neg (by simp),List.append_nil]
 refine (s3 _ (by rw[X11];omega) _).trans ?_
 rw[Jz,AC]
 have en :∀(k:Int) (c:Bool) (d:List UInt8),G a k=(if c=true then some d else none)->(if c=true then [(⟨fl k,k,d⟩:JAA)] else [])=ent a k:=by
  intro k c d h
  unfold ent
  rw[h]
  cases c<;>rfl
 have c4:G a 4=if (a.MED != (-1))=true then some (w4 a.MED) else none:=by
  have:G a 4=if a.MED≠-1 then some (w4 a.MED) else none:=rfl
  rw[this];simp only[bne_iff_ne]
 have c5:G a 5=if (a.Pref != (-1))=true then some (w4 a.Pref) else none:=by
  have:G a 5=if a.Pref≠-1 then some (w4 a.Pref) else none:=rfl
  rw[this];simp only[bne_iff_ne]
 have c35:G a 35=if (a.OTC != (-1))=true then some (w4 a.OTC) else none:=by
  have:G a 35=if a.OTC≠-1 then some (w4 a.OTC) else none:=rfl
  rw[this];simp only[bne_iff_ne]
 have c8:G a 8=if decide ((a.Communities.length:Int) > 0)=true then some (a.Communities.flatMap JS) else none:=by
  have:G a 8=if a.Communities≠[] then some (a.Communities.flatMap JS) else none:=rfl
  rw[this]
  cases a.Communities with
  | nil=>rfl
  | cons x t=>rw[if_pos (by simp),if_pos (by simp)]
 have c32:G a 32=if decide ((a.JAF.length:Int) > 0)=true then some (a.JAF.flatMap HM) else none:=by
  have:G a 32=if a.JAF≠[] then some (a.JAF.flatMap HM) else none:=rfl
  rw[this]
  cases a.JAF with
  | nil=>rfl
  | cons x t=>rw[if_pos (by simp),if_pos (by simp)]
 refine (Wi (f:=fl 4) rfl (by simp only[X11];omega)).trans ?_
 rw[en 4 _ _ c4,Jz,AC]
 refine (Wi (f:=fl 5) rfl (by simp only[X11];omega)).trans ?_
 rw[en 5 _ _ c5,UN hc.1 (by omega),AC]
 refine (Wi (f:=fl 8) rfl (by simp only[X11];omega)).trans ?_
 rw[en 8 _ _ c8,UZ (by omega),AC]
 refine (Wi (f:=fl 32) rfl (by simp only[X11];omega)).trans ?_
 rw[en 32 _ _ c32,Jz,AC]
 refine (Wi (f:=fl 35) rfl (by simp only[X11];omega)).trans ?_
 rw[en 35 _ _ c35]
 have l35:=Fg a 35
 refine (Y5 (by have:=v.e;omega) v.sm.d (by simp only[X11];omega)).trans ?_
 have e:ent a 1++ent a 2++ent a 3++ent a 4++ent a 5++ent a 8++ent a 32++ent a 35++a.Other=Nb a:=by
  unfold Nb L8
  simp only[List.flatMap_cons,List.flatMap_nil,List.append_nil,List.append_assoc]
 rw[e,Qp v.O (by unfold Nb;rw[X11];have:=Og a;have:=v.e;omega),AC]
theorem Oj (p:JAD):FK p=some (GM p):=by
 have hg:=(G2 p).2
 have no:¬ Bn p->some false=some (GM p):=fun q=>by
  have:GM p=false:=by
   rw[Bool.eq_false_iff]
   exact fun e=>q (hg.1 e)
  rw[this]
 unfold FK
 rw[AH,Ec,AC,Nj]
 simp only[AC,cond_true]
 by_cases ho:p.Addr.ok=true
 case neg=>
  rw[if_neg ho]
  exact no fun q=>ho q.1
 rw[if_pos ho]
 by_cases h0:0<=p.Len
 case neg=>
  rw[if_neg (by simpa using h0)]
  exact no fun q=>h0 q.2.1
 rw[if_pos (by simpa using h0)]
 by_cases h1:p.Len<=p.Addr.w
 case neg=>
  rw[if_neg (by simpa using h1)]
  exact no fun q=>h1 q.2.2.1
 rw[if_pos (by simpa using h1)]
 obtain⟨k,hk⟩ :∃k:Nat,p.Len=k:=⟨p.Len.toNat,by omega⟩
 have hf:=Na p.Addr (n:=k) (by omega)
 rw[<- hk] at hf
 rw[hf,AC]
 congr 1
 rw[X28,hg,Addr.eqd_iff]
 have e:p.Len.toNat=k:=by omega
 exact⟨fun h=>⟨ho,h0,h1,by rw[e];exact h⟩,fun h=>by have:=h.2.2.2;rw[e] at this;exact this⟩
theorem J8 {acc:List UInt8}{l:List JAD}(ha:acc.length<=1000000)(hl:l.length<=100000)(hg :∀p∈l,Bn p)(six:Bool):Dm acc l six=some (acc++Aq six l):=by
 unfold Dm
 rw[AH]
 refine (Rq (fun (t:List JAD) _ (s:List UInt8)=>s.length+17*t.length<=10000000/\∀p∈t,Bn p) (fun t _ s=>some (s++Aq six t)) ?_ ?_ l 0 acc ⟨by omega,hg⟩).trans rfl
 ·intro i s _
  show some s=some (s++[])
  rw[List.append_nil]
 rintro next p t i s ⟨h1,h2⟩ hn
 simp only[X12] at h1
 have hp:=h2 p (by simp)
 have hcl:=Lu hp
 have ht :∀q∈t,Bn q:=fun q hq=>h2 q (X19 _ hq)
 obtain⟨k1,k2,k3,_⟩:=hp
 have e2:=(IF k1).2
 obtain⟨w1,w2⟩:=w_L p.Addr
 rw[AH,Ew]
 by_cases h6:(p.Addr.V6==six)=true
 ·obtain⟨k,hk⟩ :∃k:Nat,p.Len=k:=⟨p.Len.toNat,by omega⟩
  have e3:AS (Int.tdiv (AS (p.Len+7)) 8)=(((p.Len.toNat+7)/8:Nat):Int):=by
   rw[hk,Int.toNat_natCast,AQ (x:=(k:Int)+7) (by omega),Int.tdiv_eq_ediv_of_nonneg (by omega),AQ (by omega)]
   omega
  have e4:(p.Len.toNat+7)/8<=p.Addr.L:=by omega
  rw[if_pos h6,if_pos h6,AP (by decide) (by simp only[X22];omega),AC,Iu k1,AC,e3,Ge (by omega),AC,
   AP (by decide) (by simp only[X11,X22,X18];omega),AC]
  dsimp only
  rw[hn _ ⟨by
   simp only[X11,X22,X18]
   omega,ht⟩]
  unfold KU
  simp only[List.append_assoc,List.singleton_append,List.cons_append,List.nil_append]
 rw[if_neg h6,if_neg h6]
 dsimp only
 rw[hn _ ⟨by omega,ht⟩,List.nil_append]
theorem Iw {l:List JAD}(hl:l.length<=100000)(hg :∀p∈l,Bn p)(six:Bool):DU l six=some (Aq six l):=J8 (acc:=[]) (by simp) hl hg six
theorem RG (n:Nat):D8 (n:Int)=some (two n):=by
 unfold D8
 rw[AP (by decide) (by simp),AC]
 rfl
theorem R9 {b:List UInt8}(hb:b.length<=1000000)(n:Nat):Fa b (n:Int)=some (b++two n):=by
 unfold Fa
 rw[AP (by decide) (by simp only[X12,X13];omega),AC]
 rfl
theorem XK (a b:JAA):EZ a b=some (Ef (Hk a) (Hk b)):=SO a b
theorem Uz {u:JAG}(g:GoodU u):(Dv u).length<=18/\∀x∈Dv u,x.Data.length<=20000:=by
 have cw6:=Bt (six:=true) g.gw
 have ca6:=Bt (six:=true) g.ga
 have hw:=g.w;have hn:=g.n
 have h0:(lst0 u).length<=16/\∀x∈lst0 u,x.Data.length<=768:=by
  unfold lst0
  split
  ·exact (g.a ‹_›).2
  simp
 have hL:(byB u.JAC.Next).length<=16\/u.Announce.length=0:=by
  rcases Nat.eq_zero_or_pos u.Announce.length with h | h
  ·exact .inr h
  have:=(IF (g.a h).1.n).2
  have:=(w_L u.JAC.Next).2
  exact .inl (by omega)
 have h1:(Ie u).length<=17/\∀x∈Ie u,x.Data.length<=20000:=by
  unfold Ie
  split
  ·refine⟨by rw[Fo];omega,fun x hx=>?_⟩
   rcases Ea.1 hx with hx | rfl
   ·have:=h0.2 x hx;omega
   have hl:(byB u.JAC.Next).length<=16:=hL.resolve_right (by omega)
   simp only[X11,X12,X13]
   omega
  exact⟨by omega,fun x hx=>by have:=h0.2 x hx;omega⟩
 unfold Dv
 split
 ·refine⟨by rw[Fo];omega,fun x hx=>?_⟩
  rcases Ea.1 hx with hx | rfl
  ·exact h1.2 x hx
  simp only[X11,X12,X13]
  omega
 exact⟨by omega,h1.2⟩
theorem WH {u:JAG}(h:WrU u)(he:u.Announce=[]->u.JAC=eA):Fj u=some (Dv u):=by
 have g:=h.g
 have hw:=g.w;have hn:=g.n
 have cw6:=Bt (six:=true) g.gw
 have ca6:=Bt (six:=true) g.ga
 have e00:u.Announce=[]↔¬ 0<u.Announce.length:=by rw[List.length_pos_iff];exact Decidable.not_not.symm
 have v:VA u.JAC:=by
  by_cases hp:0<u.Announce.length
  ·exact (g.a hp).1
  rw[he (e00.2 hp)];exact aJ
 have e0:wrS u.JAC=lst0 u:=by
  unfold lst0
  by_cases hp:0<u.Announce.length
  ·rw[if_pos hp]
  rw[if_neg hp,he (e00.2 hp),ZI]
 have l0:(lst0 u).length<=16:=e0 ▸ KI v
 have c0:0<(Aq true u.Announce).length↔0<u.Announce.length/\u.JAC.Next.V6=true:=by
  rw[V5]
  constructor
  ·intro q
   obtain⟨p,hp⟩:=List.exists_mem_of_ne_nil _ q
   rw[List.mem_filter] at hp
   refine⟨List.length_pos_of_mem hp.1,?_⟩
   rw[<- h.s p hp.1]
   simpa using hp.2
  rintro⟨q1,q2⟩
  obtain⟨p,hp⟩:=List.exists_mem_of_ne_nil _ (List.length_pos_iff.1 q1)
  refine List.ne_nil_of_mem (a:=p) (List.mem_filter.2 ⟨hp,?_⟩)
  rw[h.s p hp,q2];rfl
 have hL:=(IF v.n).2
 have hL2:=(w_L u.JAC.Next).2
 unfold Fj
 show WrJ u.JAC _=_
 rw[Uj v]
 dsimp only
 rw[e0]
 have e1 :∀{ρ:Type} (K:Bool->Option ρ),AI (τ:=Bool) (fun k79=>
  if (decide ((u.Announce.length:Int) > 0)) then
   k79 (cond true u.JAC.Next.V6 false)
  else
   k79 false) K=K (decide (0<(Aq true u.Announce).length)):=by
  intro ρ K
  rw[AH]
  by_cases hp:0<u.Announce.length
  ·rw[if_pos (by simp only[decide_eq_true_eq];omega)]
   congr 1
   rw[X28,decide_eq_true_eq,c0]
   exact⟨fun q=>⟨hp,q⟩,fun q=>q.2⟩
  rw[if_neg (by simp only[decide_eq_true_eq];omega)]
  congr 1
  rw[X28,decide_eq_true_eq,c0]
  exact⟨(fun q=>nomatch q),fun q=>absurd q.1 hp⟩
 rw[e1]
 have e2 :∀{ρ:Type} (K:List JAA->Option ρ),AI (τ:=(List JAA)) (fun k81=>
  if decide (0<(Aq true u.Announce).length) then
   Option.bind (A5 u.JAC.Next) fun v82=>
   Option.bind (apnd (α:=UInt8) 1 ([(0:UInt8),(2:UInt8),(1:UInt8),(16:UInt8)]:List UInt8) v82) fun v83=>
   Option.bind (apnd (α:=UInt8) 1 v83 ([(0:UInt8)]:List UInt8)) fun v84=>
   Option.bind (Dm v84 u.Announce true) fun v85=>
   Option.bind (apnd (α:=JAA) 40 (lst0 u) ([(⟨128,14,v85⟩:JAA)]:List JAA)) fun v86=>
   k81 v86
  else
   k81 (lst0 u)) K=K (lst0 u++if 0<(Aq true u.Announce).length then [x14 u] else []):=by
  intro ρ K
  rw[AH]
  by_cases hp:0<(Aq true u.Announce).length
  ·rw[if_pos (by simpa using hp),if_pos hp,Iu v.n,AC,AP (by decide) (by simp only[X12,X13];omega),AC,
    AP (by decide) (by simp only[X11,X12,X13];omega),AC,
    J8 (by simp only[X11,X12,X13];omega) (by omega) g.ga,AC,AP (by decide) (by simp only[X12,X13];omega),AC]
   rfl
  rw[if_neg (by simpa using hp),if_neg hp,List.append_nil]
 rw[e2,Iw (by omega) g.gw,AC]
 have e3 :∀{ρ:Type} (w:List JAA) (hw:w.length<=17) (K:List JAA->Option ρ),AI (τ:=(List JAA)) (fun k89=>
  if (decide (((Aq true u.Withdraw).length:Int) > 0)) then
   Option.bind (apnd (α:=UInt8) 1 ([(0:UInt8),(2:UInt8),(1:UInt8)]:List UInt8) (Aq true u.Withdraw)) fun v90=>
   Option.bind (apnd (α:=JAA) 40 w ([(⟨128,15,v90⟩:JAA)]:List JAA)) fun v91=>
   k89 v91
  else
   k89 w) K=K (w++if 0<(Aq true u.Withdraw).length then [x15 u] else []):=by
  intro ρ w hw K
  rw[AH]
  by_cases hp:0<(Aq true u.Withdraw).length
  ·rw[if_pos (by simp only[decide_eq_true_eq];omega),if_pos hp,AP (by decide) (by simp only[X12,X13];omega),AC,AP (by decide) (by simp only[X12,X13];omega),AC]
   rfl
  rw[if_neg (by simp only[decide_eq_true_eq];omega),if_neg hp,List.append_nil]
 have l1:(lst0 u++if 0<(Aq true u.Announce).length then [x14 u] else []).length<=17:=by
  rw[X11]
  split<;>simp only[X22,X13]<;>omega
 rw[e3 _ l1,List.append_assoc]
 show Option.bind (FO EZ (raw u)) _=_
 have l2:(raw u).length<=1000000:=by
  have q1:(if 0 < (Aq true u.Withdraw).length then [x15 u] else []).length<=1:=by split<;>simp
  unfold raw
  rw[<- List.append_assoc,X11]
  omega
 rw[Xx h XK l2 (WX h),AC]
def bdP (u:JAG):List UInt8×Bool:=(HD u (CY (Dv u)).1,((CY (Dv u)).2==0)&&decide ((HD u (CY (Dv u)).1).length<=4077))
theorem MX {u:JAG}(h:WrU u)(he:u.Announce=[]->u.JAC=eA):Di u=some (bdP u):=by
 have g:=h.g
 have hw:=g.w;have hn:=g.n
 have cw4:=Bt (six:=false) g.gw
 have ca4:=Bt (six:=false) g.ga
 obtain⟨s1,s2⟩:=Uz g
 have hj:=P7 (l:=Dv u)
 unfold Di bdP
 rw[WH h he,AC,Vp (by omega) (fun x hx=>by have:=s2 x hx;omega),AC]
 dsimp only
 rw[Iw (by omega) g.gw,AC,RG,AC,AP (by decide) (by simp only[two,X12,X13];omega),AC,
  R9 (by simp only[two,X11,X12,X13];omega),AC,
  AP (by decide) (by simp only[two,X11,X12,X13];omega),AC,
  J8 (by simp only[two,X11,X12,X13];omega) (by omega) g.ga,AC,AH]
 show (if ((CY (Dv u)).2==0)=true then some (HD u (CY (Dv u)).1,cond true (decide (((HD u (CY (Dv u)).1).length:Int)<=4077)) false) else some (HD u (CY (Dv u)).1,false))=_
 have e:decide (((HD u (CY (Dv u)).1).length:Int)<=4077)=decide ((HD u (CY (Dv u)).1).length<=4077):=by rw[decide_eq_decide];omega
 rw[e]
 cases ((CY (Dv u)).2==0)<;>rfl
theorem Yw (a b c d:Nat)(ha:a<=1000000)(hb:b<=1000000)(hc:c<=1000000)(hd:d<=1000000):(AS (AS (AS ((a:Int)+b)+c)+d)==0)=(decide (a=0)&&(decide (b=0)&&(decide (c=0)&&decide (d=0)))):=by
 rw[AQ (x:=(a:Int)+b) (by omega),AQ (x:=(a:Int)+b+c) (by omega),AQ (x:=(a:Int)+b+c+d) (by omega)]
 rw[X28]
 simp only[beq_iff_eq,X27,decide_eq_true_eq]
 omega
theorem Up {a:JAC}(h:SmT a):FC a=some (isE a):=by
 unfold FC
 rw[VY,AH,AH,Yw _ _ _ _ h.p h.c h.l h.o]
 have e :∀{α:Type} (l:List α),decide (l.length=0)=decide (l=[]):=fun l=>by rw[decide_eq_decide];exact List.length_eq_zero_iff
 rw[e,e,e,e]
 show (if (a.Origin==(-1))=true then _ else _)=_
 unfold zAd
 cases (a.Origin==(-1))<;>cases (a.MED==(-1))<;>cases (a.Pref==(-1))<;>cases (a.OTC==(-1))<;>cases (Addr.eqd a.Next ⟨false,0,0⟩)<;>simp
theorem Qu (u:JAG) :∀(l:List JAD) (i:Nat),Ak (σ:=JAG) (fun v2=>some ((-1:Int),v2)) (fun next3 (x4:JAD) i5 v2=>Option.bind (Dy x4 v2) fun (v6,v7)=>if v6 then some ((i5:Int),v7) else next3 v7) l i u=some (match l.findIdx? (fun p=>!(p.Addr.V6==u.JAC.Next.V6)) with | some j=>((i+j:Nat):Int)|none=>-1,u)
 | [],_=>rfl
 | x::t,i=>by
  show Option.bind (Dy x u) (fun (v6,v7)=>if v6 then some ((i:Int),v7) else Ak (σ:=JAG) (fun v2=>some ((-1:Int),v2)) _ t (i+1) v7)=_
  rw[show Dy x u=some (!(x.Addr.V6==u.JAC.Next.V6),u) from rfl,AC,List.findIdx?_cons]
  dsimp only
  by_cases hq:(!(x.Addr.V6==u.JAC.Next.V6))=true
  ·rw[if_pos hq,if_pos hq];simp
  rw[if_neg hq,if_neg hq,Qu u t]
  cases t.findIdx? _ with
  | none=>rfl
  | some j=>show some (((i+1+j:Nat):Int),u)=some (((i+(j+1):Nat):Int),u);rw[show i+1+j=i+(j+1) by omega]
theorem fits_any (u:JAG)(l:List JAD):Ac l u=some (l.any (fun p=>!(p.Addr.V6==u.JAC.Next.V6)),u):=by
 unfold Ac Ai
 rw[AH,Qu,AC]
 dsimp only
 congr 2
 cases hf:l.findIdx? (fun p=>!(p.Addr.V6==u.JAC.Next.V6)) with
 | none=>
  rw[List.findIdx?_eq_none_iff] at hf
  have:l.any (fun p=>!(p.Addr.V6==u.JAC.Next.V6))=false:=by
   rw[List.any_eq_false]
   intro x hx
   rw[hf x hx];simp
  rw[this];rfl
 | some j=>
  obtain⟨h1,h2,_⟩:=List.findIdx?_eq_some_iff_getElem.1 hf
  have:l.any (fun p=>!(p.Addr.V6==u.JAC.Next.V6))=true:=List.any_eq_true.2 ⟨_,List.getElem_mem h1,h2⟩
  rw[this]
  simp
def QK (u:JAG):Bool:=(!(decide (u.Announce=[])) || isE u.JAC)&&u.Announce.all (OJ u.JAC)
theorem VM {α:Type}{f:α->Bool}{c:Bool} :∀{l:List α},l≠[]->l.all (fun x=>f x&&c)=(l.all f&&c)
 | [x],_=>by simp
 | x::y::t,_=>by
  rw[List.all_cons,VM (l:=y::t) (by simp),List.all_cons (l:=y::t)]
  cases f x<;>cases c<;>simp
theorem WC {u:JAG}(h:SmT u.JAC):F7 u=some (QK u):=by
 unfold F7 QK
 by_cases ha:u.Announce=[]
 ·rw[if_pos (by rw[ha];rfl),Up h,AC,ha]
  simp
 have hl:0<u.Announce.length:=List.length_pos_iff.2 ha
 rw[if_neg (by rw[beq_iff_eq];omega),AH,Ot h,AC,fits_any,AC,decide_eq_false ha]
 have e:u.Announce.all (OJ u.JAC)=(u.Announce.all (fun p=>p.Addr.V6==u.JAC.Next.V6)&&((u.JAC.Origin != -1)&&(!(Addr.eqd u.JAC.Next zAd)&&Fb u.JAC))):=by
  rw[<- VM ha];rfl
 have e2:u.Announce.any (fun p=>!(p.Addr.V6==u.JAC.Next.V6))=!u.Announce.all (fun p=>p.Addr.V6==u.JAC.Next.V6):=by
  rw[List.not_all_eq_any_not]
 rw[e,e2]
 show (if Fb u.JAC=true then _ else _)=_
 unfold zAd
 cases Fb u.JAC<;>cases (u.JAC.Origin != (-1))<;>cases (Addr.eqd u.JAC.Next ⟨false,0,0⟩)<;>cases u.Announce.all (fun p=>p.Addr.V6==u.JAC.Next.V6)<;>rfl
theorem P3 (l:List JAD):Ab l=some (!l.all GM):=by
 have h:=Zw (f:=EH) (q:=fun p=>!GM p) (l:=l) fun x _=>by unfold EH;rw[Oj,AC]
 rw[<- List.not_all_eq_any_not] at h
 exact h
theorem Yv {u:JAG}(h1:u.Withdraw.length<=256)(h2:u.Announce.length<=256)(h3:(u.Withdraw++u.Announce).all GM=true)(h5:u.Announce.all (OJ u.JAC)=true):WrU u:=by
 have hgood :∀p∈u.Withdraw++u.Announce,Bn p:=fun p hp=>(G2 p).2.1 (List.all_eq_true.1 h3 p hp)
 have hfit :∀p∈u.Announce,p.Addr.V6=u.JAC.Next.V6/\u.JAC.Origin≠-1/\u.JAC.Next≠zAd/\VA u.JAC:=fun p hp=>by
  have:=List.all_eq_true.1 h5 p hp
  unfold OJ at this
  simp only[X27,beq_iff_eq,bne_iff_ne,Bool.not_eq_true'] at this
  obtain⟨a1,a2,a3,a4⟩:=this
  exact⟨a1,a2,(fun q=>by rw[q,(Addr.eqd_iff _ _).2 rfl] at a3;cases a3),L6.1 a4⟩
 refine⟨⟨by omega,by omega,fun p hp=>hgood p (List.mem_append_left _ hp),fun p hp=>hgood p (List.mem_append_right _ hp),fun q=>?_⟩,h1,h2,fun p hp=>(hfit p hp).1,fun q=>?_⟩
 ·obtain⟨p,hp⟩:=List.exists_mem_of_ne_nil _ (List.length_pos_iff.1 q)
  have v:=(hfit p hp).2.2.2
  exact⟨v,KI v,fun x hx=>RP v hx⟩
 obtain⟨p,hp⟩:=List.exists_mem_of_ne_nil _ q
 exact⟨(hfit p hp).2.1,(hfit p hp).2.2.1⟩
theorem H8 (u:JAG):TL u=(bdP u).2/\((bdP u).2=true->CH u=((bdP u).1,0)):=by
 unfold TL CH bdP
 by_cases hj:(CY (Dv u)).2=0
 ·have hne:¬ (CY (Dv u)).2≠0:=fun q=>q hj
  rw[if_neg hne]
  have:((CY (Dv u)).2==0)=true:=by rw[hj];rfl
  rw[this]
  exact⟨rfl,fun _=>rfl⟩
 rw[if_pos hj]
 have:((CY (Dv u)).2==0)=false:=by simpa using hj
 dsimp only
 rw[this]
 exact⟨rfl,fun q=>nomatch q⟩
theorem SS (u:JAG):DY u=(decide (u.Withdraw.length<=256)&&(decide (u.Announce.length<=256)&&((u.Withdraw++u.Announce).all GM&&(QK u&&(bdP u).2)))):=by
 unfold DY QK
 rw[(H8 u).1]
 simp only[Bool.and_assoc]
theorem GP {u:JAG}(hs:SmT u.JAC):CM u=some (DY u):=by
 unfold CM
 rw[AH,SS]
 by_cases h1:u.Withdraw.length<=256
 case neg=>
  rw[if_pos (by simp only[decide_eq_true_eq];omega),decide_eq_false h1]
  rfl
 rw[if_neg (by simp only[decide_eq_true_eq];omega),decide_eq_true h1]
 by_cases h2:u.Announce.length<=256
 case neg=>
  rw[if_pos (by rw[cond_false,decide_eq_true_eq];omega),decide_eq_false h2]
  rfl
 rw[if_neg (by rw[cond_false,decide_eq_true_eq];omega),decide_eq_true h2,P3,AC,P3,AC,WC hs,AC,List.all_append]
 cases k1:u.Withdraw.all GM
 ·rfl
 cases k2:u.Announce.all GM
 ·rfl
 cases k3:QK u
 ·rfl
 have k5:u.Announce.all (OJ u.JAC)=true/\(u.Announce=[]->u.JAC=eA):=by
  unfold QK at k3
  simp only[X27,Bool.or_eq_true,Bool.not_eq_true',decide_eq_false_iff_not] at k3
  exact⟨k3.2,fun q=>(Ny _).1 (k3.1.resolve_left fun w=>w q)⟩
 have hu:=Yv h1 h2 (by rw[List.all_append,k1,k2];rfl) k5.1
 show Option.bind (Di u) _=_
 rw[MX hu k5.2,AC]
 rfl
theorem SD {u:JAG}(h:DY u=true):WrU u/\(u.Announce=[]->u.JAC=eA)/\(bdP u).2=true:=by
 obtain⟨h1,h2,h3⟩:=Qg h KI
 exact⟨h1,fun q=>(Ny _).1 (h3 q),(H8 u).1 ▸ h2⟩
theorem Js {u:JAG}(hs:SmT u.JAC):DN u=some (encS u):=by
 unfold DN encS
 rw[GP hs,AC]
 cases hv:DY u with
 | false=>rfl
 | true=>
  obtain⟨h1,h2,h3⟩:=SD hv
  rw[if_neg (by decide),if_pos rfl,MX h1 h2,AC,(H8 u).2 h3]
def SE (u:JAG):Int:=if DY u=true then 19+((CH u).1.length:Int) else 0
theorem Qc {u:JAG}(h:DY u=true):(CH u).1.length<=4077:=by
 obtain⟨h1,h2,h3⟩:=SD h
 rw[(H8 u).2 h3]
 unfold bdP at h3 ⊢
 simp only[X27,decide_eq_true_eq] at h3
 exact h3.2
theorem NR {u:JAG}(hs:SmT u.JAC):CQ u=some (SE u):=by
 unfold CQ SE
 rw[GP hs,AC]
 cases hv:DY u with
 | false=>rfl
 | true=>
  obtain⟨h1,h2,h3⟩:=SD hv
  have:=Qc hv
  rw[(H8 u).2 h3] at this ⊢
  rw[if_neg (by decide),if_pos rfl,MX h1 h2,AC]
  dsimp only at this ⊢
  rw[AQ (by omega)]
theorem UK {u:JAG}(hs:SmT u.JAC)(hw:u.Withdraw.length<=1000)(hn:u.Announce.length<=1000):G3 u=some (SE u):=by
 unfold G3 SE
 rw[LJ hs hw hn KI,AC]
 unfold encS
 cases hv:DY u with
 | false=>rfl
 | true=>
  obtain⟨h1,h2,h3⟩:=SD hv
  have:=Qc hv
  have e:=(H8 u).2 h3
  rw[if_pos rfl,if_pos rfl]
  rw[e] at this ⊢
  dsimp only at this ⊢
  rw[if_neg (by decide),AQ (by omega)]
structure UOk (u:JAG):Prop where
 v:DY u=true
 s:SmT u.JAC
 w:u.Withdraw.length<=4
 n:u.Announce.length<=5
theorem Ru:SmT eA:=⟨by decide,by decide,by decide,by decide,by decide,fun u hu=>by cases hu⟩
theorem UOk.few {l:List JAD}(h :∀p∈l,Bn p)(hl:l.length<=4):UOk ⟨l,eA,[]⟩:=⟨Xj h (by omega),Ru,hl,Nat.zero_le _⟩
theorem LU {α:Type}{P:α->Prop}{l:List α}{x:α}(h :∀y∈l,P y)(hx:P x) :∀y∈l++[x],P y:=fun y hy=>by
 rcases X23.1 hy with hy | hy
 ·exact h y hy
 rw[X14] at hy
 rw[hy];exact hx
theorem LX {d:JAI}(hd:Dk d):Ok (DT d) fun r=>UOk r.1/\Dk r.2:=by
 unfold DT
 rw[AH]
 refine .bind (AM hd (by omega)) ?_
 rintro⟨v,d⟩ ⟨v1,v2,hd⟩
 dsimp only at v1 v2 hd ⊢
 refine .join (fun p:JAI×List JAD=>(p.2.length<=4/\∀q∈p.2,Bn q)/\Dk p.1) (fun k hk=>?_) ?_
 ·refine .whileI (fun s:Int×JAI×List JAD=>(0<=s.1/\s.1+s.2.2.length<=4/\∀q∈s.2.2,Bn q)/\Dk s.2.1) (fun s=>s.1.toNat) ⟨⟨v1,by simp only[X13];omega,fun q hq=>by cases hq⟩,hd⟩ (Be (by simp only;omega)) ?_
  rintro next ⟨c,d,p⟩ ⟨⟨h1,h2,h3⟩,hd⟩ hnx
  dsimp only at h1 h2 h3 hd ⊢
  refine .ite (fun h=>?_) fun h=>hk (d,p) ⟨⟨by dsimp only;omega,h3⟩,hd⟩
  simp only[decide_eq_true_eq] at h
  refine .bind (D5 hd) ?_
  rintro⟨x,d⟩ ⟨hx,hd⟩
  dsimp only at hx hd ⊢
  refine .bind (Ok.apnd (by decide) (by simp only[X22];omega)) fun r hr=>?_
  rw[AQ (by omega),hr]
  exact hnx _ ⟨⟨by dsimp only;omega,by simp only[X11,X22];omega,LU h3 hx⟩,hd⟩ (by dsimp only;omega)
 rintro⟨d,W⟩ ⟨⟨w1,w2⟩,hd⟩
 dsimp only at w1 w2 hd ⊢
 refine .bind (AM hd (by omega)) ?_
 rintro⟨c,d⟩ ⟨c1,c2,hd⟩
 dsimp only at c1 c2 hd ⊢
 refine .ite (fun _=>.ret ⟨.few w2 w1,hd⟩) fun _=>?_
 refine .bind (AM hd (by omega)) ?_
 rintro⟨six,d⟩ ⟨-,-,hd⟩
 dsimp only at hd ⊢
 refine .bind (AM hd (by omega)) ?_
 rintro⟨v,d⟩ ⟨v1,v2,hd⟩
 dsimp only at v1 v2 hd ⊢
 refine .join (fun p:JAI×List JAD=>(p.2.length<=5/\∀q∈p.2,Bn q)/\Dk p.1) (fun k hk=>?_) ?_
 ·refine .whileI (fun s:Int×JAI×List JAD=>(0<=s.1/\s.1+s.2.2.length<=5/\∀q∈s.2.2,Bn q)/\Dk s.2.1) (fun s=>s.1.toNat) ⟨⟨v1,by simp only[X13];omega,fun q hq=>by cases hq⟩,hd⟩ (Be (by simp only;omega)) ?_
  rintro next ⟨c,d,p⟩ ⟨⟨h1,h2,h3⟩,hd⟩ hnx
  dsimp only at h1 h2 h3 hd ⊢
  refine .ite (fun h=>?_) fun h=>hk (d,p) ⟨⟨by dsimp only;omega,h3⟩,hd⟩
  simp only[decide_eq_true_eq] at h
  refine .bind (D5 hd) ?_
  rintro⟨x,d⟩ ⟨hx,hd⟩
  dsimp only at hx hd ⊢
  refine .join (fun q:List JAD=>q.length<=p.length+1/\∀y∈q,Bn y) (fun k27 hk27=>.ite (fun _=>.bind (Ok.apnd (by decide) (by simp only[X22];omega)) fun r hr=>hk27 _ ?_) fun _=>hk27 _ ⟨by omega,h3⟩) fun q hq=>?_
  ·rw[hr]
   exact⟨by simp only[X11,X22];omega,LU h3 hx⟩
  rw[AQ (by omega)]
  exact hnx _ ⟨⟨by dsimp only;omega,by dsimp only;omega,hq.2⟩,hd⟩ (by dsimp only;omega)
 rintro⟨d,A⟩ ⟨⟨a1,a2⟩,hd⟩
 dsimp only at a1 a2 hd ⊢
 refine .ite (fun h=>?_) fun _=>?_
 ·have:A=[]:=List.eq_nil_of_length_eq_zero (by simp only[beq_iff_eq] at h;omega)
  subst this
  exact .ret ⟨.few w2 w1,hd⟩
 refine .bind (HU hd) ?_
 rintro⟨a,d⟩ ⟨⟨b1,b2,b3,b4,b5,b6,b7⟩,hd⟩
 dsimp only at b1 b2 b3 b4 b5 b6 b7 hd ⊢
 refine .bind (P:=fun _=>True) ⟨_,rfl,trivial⟩ fun f _=>?_
 refine .join (fun _=>True) (fun k hk=>.ite (fun _=>.bind (P:=fun _=>True) ⟨_,rfl,trivial⟩ fun f _=>hk _ trivial) fun _=>hk _ trivial) ?_
 rintro⟨x,y,z⟩ -
 dsimp only
 have hs :∀o n,SmT { a with Origin:=o,Next:=n }:=fun o n=>⟨by dsimp only;omega,by dsimp only;omega,by dsimp only;omega,by dsimp only;omega,by dsimp only;omega,fun u hu=>by have:=b7 u hu;omega⟩
 rw[Ij (hs _ _) (by dsimp only;omega) (by dsimp only;omega) KI,AC]
 refine .ite (fun _=>?_) fun h=>.ret ⟨⟨?_,hs _ _,w1,a1⟩,hd⟩
 ·rw[AH]
  exact .ret ⟨.few (fun q hq=>by cases hq) (Nat.zero_le _),hd⟩
 simpa using h
def p10:JAD:=⟨⟨false,(0:UInt64),(167772160:UInt64)⟩,8⟩
theorem Y6:Bn p10:=by
 unfold Bn
 refine⟨by kernel_rfl,by decide,by decide,by kernel_rfl⟩
theorem Zh:encS ⟨[p10],eA,[]⟩=([0,2,8,10,0,0],0):=by
 unfold encS
 rw[if_pos (Xj (fun p hp=>by rw[X14] at hp;rw[hp];exact Y6) (by decide))]
 kernel_rfl
theorem awake:BV=some true:=by
 unfold BV
 rw[show Db=some eA from rfl,AC]
 show Option.bind (DN ⟨[p10],eA,[]⟩) _=_
 rw[Js Ru,AC,Zh]
 dsimp only
 rw[(by kernel_rfl:HG [0,0,0,0]=some (true,false)),AC]
 kernel_rfl
structure SmUp (u:JAG):Prop where
 s:SmT u.JAC
 w:u.Withdraw.length<=1000
 n:u.Announce.length<=1000
abbrev T12:=Int×(List JAE)×Bool×UInt64×UInt64×Int×Int×Int×(List JAB)×(List JAF)×(List JAA)×(List JAD)
abbrev T13:=(List JAD)×T12
def YP (w:List JAD)(t:T12):JAG:=⟨w,⟨t.1,t.2.1,⟨t.2.2.1,t.2.2.2.1,t.2.2.2.2.1⟩,t.2.2.2.2.2.1,t.2.2.2.2.2.2.1,t.2.2.2.2.2.2.2.1,t.2.2.2.2.2.2.2.2.1,t.2.2.2.2.2.2.2.2.2.1,t.2.2.2.2.2.2.2.2.2.2.1⟩,t.2.2.2.2.2.2.2.2.2.2.2⟩
theorem UOk.sm {u:JAG}(h:UOk u):SmUp u:=⟨h.s,by have:=h.w;omega,by have:=h.n;omega⟩
theorem updateEncodes (l:List Int)(x y:Int)(hl:l.length<=maxLen):Bl l x y=some true:=by
 have hd:Dk ⟨l,0⟩:=⟨Int.le_refl _,Nat.le_trans hl (by decide)⟩
 have main:Ok (Bl l x y) fun r=>r=true:=by
  unfold Bl
  rw[W3,AC]
  refine .bind (LX hd) ?_
  rintro⟨u,d⟩ ⟨hu,hd⟩
  dsimp only at hu hd ⊢
  have hs:=hu.sm
  refine .bind (Aj (by omega)) fun m hm=>?_
  refine .join SmUp (fun k5 hk5=>.join SmUp (fun k6 hk6=>?_) fun v hv=>hk5 _ hv) fun v hv=>?_
  ·refine .ite (fun _=>?_) fun _=>?_
   ·refine .bind (HU hd) ?_
    rintro⟨a,d⟩ ⟨⟨b1,b2,b3,b4,b5,b6,b7⟩,hd⟩
    dsimp only at b1 b2 b3 b4 b5 b6 b7 hd ⊢
    exact hk6 _ ⟨⟨by dsimp only;omega,by dsimp only;omega,by dsimp only;omega,by dsimp only;omega,by dsimp only;omega,fun u hu=>by have:=b7 u hu;omega⟩,hs.w,hs.n⟩
   refine .join (fun t:T13=>SmUp (YP t.1 t.2)) (fun k9 hk9=>?_) fun t ht=>hk6 _ ht
   refine .ite (fun _=>?_) fun _=>?_
   ·have:=hu.n
    refine .bind (Ok.apnd (by decide) (by simp only[X13];omega)) fun _ _=>.bind (D5 hd) ?_
    rintro⟨p,d⟩ ⟨hp,hd⟩
    dsimp only
    refine .bind (Ok.apnd (by decide) (by simp only[X22];omega)) fun r hr=>hk9 _ ⟨hs.s,hs.w,?_⟩
    rw[hr]
    show (u.Announce++[p]).length<=1000
    rw[X11,X22]
    omega
   refine .join (fun t:T13=>SmUp (YP t.1 t.2)) (fun k13 hk13=>?_) fun t ht=>hk9 _ ht
   refine .ite (fun _=>?_) fun _=>?_
   ·refine .bind (Aj (by omega)) fun n hn=>?_
    rw[AQ (x:=255+n) (by omega)]
    refine .join (fun w:List JAD=>w.length<=1000) (fun k hk=>?_) fun w hw=>hk13 _ ⟨hs.s,hw,hs.n⟩
    refine .whileI (fun s:Int×List JAD=>0<=s.1/\(s.2.length:Int)<=s.1/\s.1<=300) (fun s=>(300-s.1).toNat) ⟨by dsimp only;omega,by simp,by dsimp only;omega⟩ (Be (by dsimp only;omega)) ?_
    rintro next ⟨i,w⟩ ⟨h1,h2,h3⟩ hnx
    dsimp only at h1 h2 h3 ⊢
    refine .ite (fun h=>?_) fun _=>hk _ (by omega)
    simp only[decide_eq_true_eq] at h
    refine .bind (Aj (by omega)) fun q hq=>.bind (Ok.apnd (by decide) (by simp only[X22];omega)) fun r hr=>?_
    rw[AQ (x:=i+1) (by omega),hr]
    exact hnx _ ⟨by dsimp only;omega,by simp only[X11,X22];omega,by dsimp only;omega⟩ (by dsimp only;omega)
   refine .join (fun t:T13=>SmUp (YP t.1 t.2)) (fun k22 hk22=>?_) fun t ht=>hk13 _ ht
   refine .ite (fun _=>?_) fun _=>?_
   ·have:=hu.w
    refine .bind (Ok.apnd (by decide) (by simp only[X13];omega)) fun _ _=>.bind (Aj (by omega)) fun q hq=>.bind (Ok.apnd (by decide) (by simp only[X22];omega)) fun r hr=>hk22 _ ⟨hs.s,?_,hs.n⟩
    rw[hr]
    show (u.Withdraw++[_]).length<=1000
    rw[X11,X22]
    omega
   refine .join (fun t:T12=>SmUp (YP u.Withdraw t)) (fun k25 hk25=>?_) fun t ht=>hk22 _ ht
   refine .ite (fun _=>hk25 _ ⟨⟨hs.s.p,hs.s.t,hs.s.c,hs.s.l,hs.s.o,hs.s.d⟩,hs.w,hs.n⟩) fun _=>?_
   rw[AH]
   refine .bind (Aj (by omega)) fun n hn=>?_
   rw[AQ (x:=100+n) (by omega)]
   refine .join (fun w:List JAD=>w.length<=1000) (fun k hk=>?_) fun w hw=>hk25 _ ⟨⟨Nat.zero_le _,Nat.zero_le _,Nat.zero_le _,Nat.zero_le _,Nat.zero_le _,fun u hu=>by cases hu⟩,hs.w,hw⟩
   refine .whileI (fun s:Int×List JAD=>0<=s.1/\(s.2.length:Int)<=s.1/\s.1<=300) (fun s=>(300-s.1).toNat) ⟨by dsimp only;omega,by simp,by dsimp only;omega⟩ (Be (by dsimp only;omega)) ?_
   rintro next ⟨i,w⟩ ⟨h1,h2,h3⟩ hnx
   dsimp only at h1 h2 h3 ⊢
   refine .ite (fun h=>?_) fun _=>hk _ (by omega)
   simp only[decide_eq_true_eq] at h
   refine .bind (Ok.apnd (by decide) (by simp only[X22];omega)) fun r hr=>?_
   rw[AQ (x:=i+1) (by omega),hr]
   exact hnx _ ⟨by dsimp only;omega,by simp only[X11,X22];omega,by dsimp only;omega⟩ (by dsimp only;omega)
  refine .join (fun _=>True) (fun k hk=>.for_ (fun _=>hk _ trivial) fun next z i _ _ hz hn=>?_) fun _ _=>?_
  ·have sz:SmUp z:=by
    simp only[List.mem_cons,List.not_mem_nil,or_false] at hz
    rcases hz with rfl | rfl
    ·exact hs
    exact hv
   rw[Js sz.s,AC,LJ sz.s sz.w sz.n KI,AC]
   rw[AH,GP sz.s,AC,Ij sz.s sz.w sz.n KI,AC,beq_self_eq_true,if_neg (by decide),NR sz.s,AC,UK sz.s sz.w sz.n,AC,bne_self_eq_false,if_neg (by decide),beq_self_eq_true,if_neg (by decide),bne_self_eq_false]
   exact hn _
  rw[awake,AC]
  exact .ret rfl
 obtain⟨r,h1,h2⟩:=main
 rw[h1,h2]
theorem Tf (l:List JAD)(p:JAD):LK (l++[p])=LK l+G8 p:=by
 induction l with
 | nil=>show G8 p+0=0+G8 p;omega
 | cons x t ih=>show G8 x+LK (t++[p])=G8 x+LK t+G8 p;omega
theorem PE {l:List JAD}(h :∀p∈l,Bn p/\p.Addr.V6=false)(hl:l.length<=100):CQ ⟨l,eA,[]⟩=some (23+(LK l:Int)):=by
 obtain⟨h1,h2,h3⟩:=Tz h hl
 rw[NR Ru]
 unfold SE
 rw[if_pos h1,h2]
 congr 1
 omega
theorem updateSizes (l:List Int)(hl:l.length<=maxLen):B9 l=some true:=by
 have hd:Dk ⟨l,0⟩:=⟨Int.le_refl _,Nat.le_trans hl (by decide)⟩
 have main:Ok (B9 l) fun r=>r=true:=by
  unfold B9
  rw[W3,AC,AH]
  show Ok (Option.bind (CQ ⟨[],eA,[]⟩) _) _
  rw[PE (l:=[]) (fun p hp=>by cases hp) (by decide),AC,if_neg (by decide)]
  refine .bind (AM hd (by omega)) ?_
  rintro⟨v,d⟩ ⟨v1,v2,hd⟩
  dsimp only at v1 v2 hd ⊢
  refine .join (fun w:List JAD=>w.length<=40/\∀p∈w,Bn p/\p.Addr.V6=false) (fun k6 hk6=>?_) fun w hw=>?_
  ·refine .whileI (fun s:Int×Int×JAI×List JAD=>(s.1=23+(LK s.2.2.2:Int)/\0<=s.2.1/\s.2.1+s.2.2.2.length<=19/\∀p∈s.2.2.2,Bn p/\p.Addr.V6=false)/\Dk s.2.2.1) (fun s=>s.2.1.toNat) ⟨⟨rfl,v1,by simp only[X13];omega,fun p hp=>by cases hp⟩,hd⟩ (Be (by simp only;omega)) ?_
   rintro next ⟨c,k,d,w⟩ ⟨⟨h1,h2,h3,h4⟩,hd⟩ hnx
   dsimp only at h1 h2 h3 h4 hd ⊢
   refine .ite (fun h=>?_) fun _=>hk6 _ ⟨by omega,h4⟩
   simp only[decide_eq_true_eq] at h
   refine .join (fun q:Int×JAI×List JAD=>(q.1=23+(LK q.2.2:Int)/\q.2.2.length<=w.length+1/\∀p∈q.2.2,Bn p/\p.Addr.V6=false)/\Dk q.2.1) (fun k12 hk12=>?_) ?_
   ·refine .bind (D5 hd) ?_
    rintro⟨p,d⟩ ⟨hp,hd⟩
    dsimp only at hp hd ⊢
    refine .ite (fun _=>hk12 _ ⟨⟨h1,by dsimp only;omega,h4⟩,hd⟩) fun h6=>?_
    have h5:=LU (x:=p) h4 ⟨hp,by simpa using h6⟩
    refine .bind (Ok.apnd (by decide) (by simp only[X22];omega)) fun r hr=>?_
    rw[hr]
    have hlen:(w++[p]).length<=100:=by rw[X11,X22];omega
    have hsz:=PE h5 hlen
    rw[Tf] at hsz
    show Ok (Option.bind (CQ ⟨w++[p],eA,[]⟩) _) _
    rw[hsz,AC]
    have hq:=Rn h4
    obtain⟨_,g2,g3,_⟩:=hp
    obtain⟨w1,w2⟩:=w_L p.Addr
    have e:AS (c+AS (1+AS (Int.tdiv (AS (p.Len+7)) 8)))=23+((LK w+G8 p:Nat):Int):=by
     obtain⟨n,hn⟩ :∃n:Nat,p.Len=n:=⟨p.Len.toNat,by omega⟩
     unfold G8
     rw[hn,Int.toNat_natCast,AQ (x:=(n:Int)+7) (by omega),Int.tdiv_eq_ediv_of_nonneg (by omega),AQ (x:=((n:Int)+7)/8) (by omega),AQ (x:=1+((n:Int)+7)/8) (by omega),AQ (by omega)]
     omega
    rw[e,bne_self_eq_false,if_neg (by decide)]
    exact hk12 _ ⟨⟨by rw[Tf],by rw[X11,X22];exact Nat.le_refl _,h5⟩,hd⟩
   rintro⟨c,d,q⟩ ⟨⟨q1,q2,q3⟩,hd⟩
   dsimp only at q1 q2 q3 hd ⊢
   rw[AQ (by omega)]
   exact hnx _ ⟨⟨q1,by dsimp only;omega,by dsimp only;omega,q3⟩,hd⟩ (by dsimp only;omega)
  refine .join (fun b=>b=true) (fun k21 hk21=>?_) fun b hb=>.ret hb
  show Ok (Option.bind (CM ⟨w,eA,[]⟩) _) _
  rw[GP Ru,(Tz hw.2 (by omega)).1,AC,if_pos rfl,awake,AC]
  exact hk21 _ rfl
 obtain⟨r,h1,h2⟩:=main
 rw[h1,h2]
theorem UOk.enc {u:JAG}(h:UOk u) :∃a,encS u=(HD u (CY (Dv u)).1,0)/\(CY (Dv u)).2=0/\a=WrU u/\WrU u/\(u.Announce=[]->u.JAC=eA):=by
 obtain⟨h1,h2,h3⟩:=SD h.v
 have e:=(H8 u).2 h3
 unfold encS
 rw[if_pos h.v,e]
 unfold bdP at h3 ⊢
 simp only[X27,beq_iff_eq] at h3
 exact⟨_,rfl,h3.1,rfl,h1,h2⟩
theorem Re {n:Nat}(h:n<65536) :∃a b:UInt8,two n=[a,b]/\a.toNat*256+b.toNat=n:=by
 have e1:Int.fdiv (n:Int) (2^(min (Int.toNat 8) 64))=((n/256:Nat):Int):=Z0 n
 refine⟨_,_,rfl,?_⟩
 rw[e1,CJ,CJ,UInt8.toNat_ofNat',UInt8.toNat_ofNat']
 omega
abbrev HL (l:List Int):Prop:=l.length<=maxLen/\l.length*8<=reachBytes/\∀a∈l,I64 a
theorem OQ (l:List Int)(a b:Int)(h:HL l)(_:I64 a)(_:I64 b):Bl l a b=some true:=updateEncodes l a b h.1
theorem Rt (l:List Int)(h:HL l):B9 l=some true:=updateSizes l h.1
end Go.AX.Q19
end
section
namespace Go.AX.Q19
open Go Go.AX Go.Proofs
variable {wl:Prop}
theorem Me {a0:List Int}{r:JAI}(h:Is a0=some r):yC wl 12 [AV.d (D.l 1 D.i a0)] [] (.ref 0 0) [.box (JAI.av r)]:=by
 refine oK Tryz.f12 ⟨rfl,?_⟩;unfold Is at h;cases h;exact⟨rfl,rfl⟩
theorem I5 {r:JAC}(h:Db=some r):yC wl 17 [] [] (.d (JAC.toD r)) []:=by
 refine oK Tryz.f17 ⟨rfl,?_⟩;unfold Db at h;cases h;exact⟨rfl,rfl⟩
theorem Aw {a0:Int}{a1:Int}{r:Int}(h:A6 a0 a1=some r):yC wl 14 [AV.d (D.i a0),AV.d (D.i a1)] [] (.d (D.i r)) []:=by
 refine oK Tryz.f14 ⟨rfl,?_⟩;unfold A6 at h;obtain⟨_,g1,h⟩:=AA h;refine⟨D4 g1,_,rfl,?_⟩;revert h;refine AG (fun v2=>⟨dd 5 (yi v2::dd 9 ([])),nn 15 ([])⟩) ?_ ?_
 ·intro k3 h;refine sJ h (fun h=>?_) fun h=>AB wk h;refine⟨_,rfl,?_⟩;exact AB wk h
 rintro v2 h;cases h;exact⟨rfl,rfl⟩
theorem AK {a0:JAI}{a1:Int}{r:Int×JAI}(h:AL a0 a1=some r):yC wl 25 [.ref 0 0,AV.d (D.i a1)] [.box (JAI.av a0)] (.d (D.i r.1)) [.box (JAI.av r.2)]:=by
 refine oK Tryz.f25 ⟨rfl,?_⟩;unfold AL at h;(conv=>whnf);refine .inl (dO ?_);refine⟨a0.L.length,X10 _,?_⟩;(conv=>whnf);refine cO ?_;(conv=>whnf);refine .go ?_;refine sJ h ?_ ?_<;>intro h
 ·cases h;exact⟨rfl,rfl⟩
 refine⟨_,rfl,?_⟩;(conv=>whnf);refine .inl (dO ?_);refine⟨_,rfl,?_⟩;obtain⟨v1,g2,h⟩:=AA h;refine⟨Ap (f:=D.i) g2,D.i v1,An (f:=D.i) g2,rfl,?_⟩;obtain⟨v3,g4,h⟩:=AA h;refine⟨_,_,Aw g4,.inl rfl,?_⟩;(conv=>whnf);refine cO ?_;cases h;exact⟨rfl,rfl⟩
theorem KV {a0:Int}{r:Addr}(h:Hr a0=some r):yC wl 42 [AV.d (D.i a0)] [] (.d (Addr.toD r)) []:=by
 refine oK Tryz.f42 ⟨rfl,?_⟩;unfold Hr at h;refine⟨_,rfl,?_⟩;refine⟨_,Ae _,?_⟩;refine⟨_,Ae _,?_⟩;cases h;exact⟨rfl,rfl⟩
theorem M3 {a0:Int}{r:Addr}(h:Iy a0=some r):yC wl 43 [AV.d (D.i a0)] [] (.d (Addr.toD r)) []:=by
 refine oK Tryz.f43 ⟨rfl,?_⟩;unfold Iy at h;refine⟨_,rfl,?_⟩;refine⟨_,Ae _,?_⟩;cases h;exact⟨rfl,rfl⟩
theorem Ip {a0:List JAE}{r:Bool}(h:EC a0=some r):yC wl 75 [AV.d (D.l 2 JAE.toD a0)] [] (.d (D.b r)) []:=by
 refine oK Tryz.f75 ⟨rfl,?_⟩;unfold EC at h;refine⟨a0.length,X10 _,?_⟩;revert h;refine AG (fun v1=>⟨X::X::X::yi v1::dd 74 ([]),nn 78 ([])⟩) ?_ ?_
 ·intro k2 h;revert h;refine Ag 8 2 JAE.toD rfl (fun i3 v4=>⟨y0 a0::X::X::yi v4::dd 4 (y0 a0::yi (a0.length:Int)::yi (i3:Int)::dd 67 ([])),nn 78 ([])⟩) ?_ ?_ ?_
  ·exact wk
  ·rintro v4 K5 h;(conv=>whnf);refine .go ?_;(conv=>whnf);refine BL DL ?_;exact AB wk h
  rintro next6 i3 x7 v4 K5 hii3 hxi3 hwi3 h hK8;(conv=>whnf);refine .go ?_;(conv=>whnf);refine BC (CX hii3) ?_;revert h;refine AG (fun _=>⟨y0 a0::X::X::yi (AS (v4+(x7.ASNs.length:Int)))::dd 4 (y0 a0::yi (a0.length:Int)::yi (i3:Int)::dd 67 ([])),nn 78 ([])⟩) ?_ ?_
  ·intro k9 h;refine⟨BB (f:=JAE.toD) hii3,JAE.toD x7,hxi3,rfl,?_⟩;revert h;refine AG (fun v10=>⟨y0 a0::X::X::yi v4::X::yr 5 0::X::X::y0 a0::yi (a0.length:Int)::yi (i3:Int)::dd 25 (yb v10::dd 41 ([])),nn 5 (yB (JAE.av x7)::nn 72 ([]))⟩) ?_ ?_
   ·intro k11 h;refine⟨x7.ASNs.length,X10 _,?_⟩;refine sJ h (fun h=>AB wk h) fun h=>?_;refine sJ h (fun h=>?_) fun h=>AB wk h;refine sJ h (fun h=>?_) fun h=>AB wk h;refine⟨_,rfl,?_⟩;obtain⟨v12,g13,h⟩:=AA h;refine⟨Ap (f:=JAE.toD) g13,JAE.toD v12,An (f:=JAE.toD) g13,rfl,?_⟩;exact AB wk h
   rintro v10 h;(conv=>whnf);refine .go ?_;refine sJ h ?_ ?_<;>intro h
   ·cases h;exact⟨rfl,rfl⟩
   refine⟨x7.ASNs.length,X10 _,?_⟩;revert h;refine AG (fun _=>⟨y0 a0::X::X::yi v4::X::yr 5 0::X::X::y0 a0::yi (a0.length:Int)::yi (i3:Int)::dd 67 ([]),nn 5 (yB (JAE.av x7)::nn 72 ([]))⟩) ?_ ?_
   ·intro k14 h;revert h;refine Ag 38 1 D.i rfl (fun i15 _=>⟨y0 a0::X::X::yi v4::X::yr 5 0::X::X::y0 a0::yi (a0.length:Int)::yi (i3:Int)::dd 27 (AV.d (D.l 1 D.i x7.ASNs)::yi (x7.ASNs.length:Int)::yi (i15:Int)::dd 37 ([])),nn 5 (yB (JAE.av x7)::nn 72 ([]))⟩) ?_ ?_ ?_
    ·exact wk
    ·rintro _ K16 h;(conv=>whnf);refine .go ?_;(conv=>whnf);refine BL DL ?_;exact AB wk h
    rintro next17 i15 x18 _ K16 hii15 hxi15 hwi15 h hK19;(conv=>whnf);refine .go ?_;(conv=>whnf);refine BC (CX hii15) ?_;(conv=>whnf);refine .go ?_;refine⟨BB (f:=D.i) hii15,D.i x18,hxi15,rfl,?_⟩;revert h;refine AG (fun v20=>⟨y0 a0::X::X::yi v4::X::yr 5 0::X::X::y0 a0::yi (a0.length:Int)::yi (i3:Int)::dd 27 (AV.d (D.l 1 D.i x7.ASNs)::yi (x7.ASNs.length:Int)::yi (i15:Int)::dd 27 (yb v20::dd 9 ([]))),nn 5 (yB (JAE.av x7)::nn 72 ([]))⟩) ?_ ?_
    ·intro k21 h;refine sJ h (fun h=>AB wk h) fun h=>?_;refine sJ h (fun h=>AB wk h) fun h=>?_;refine sJ h (fun h=>?_) fun h=>AB wk h;refine sJ h (fun h=>?_) fun h=>AB wk h;refine⟨_,rfl,?_⟩;obtain⟨v22,g23,h⟩:=AA h;refine⟨Ap (f:=D.i) g23,D.i v22,An (f:=D.i) g23,rfl,?_⟩;exact AB wk h
    rintro v20 h;(conv=>whnf);refine .go ?_;refine sJ h ?_ ?_<;>intro h
    ·cases h;exact⟨rfl,rfl⟩
    refine⟨_,hwi15,?_⟩;exact hK19 _ _ wk h
   rintro _ h;refine⟨x7.ASNs.length,X10 _,?_⟩;refine⟨_,rfl,?_⟩;exact AB wk h
  rintro _ h;refine⟨_,hwi3,?_⟩;exact hK8 _ _ wk h
 rintro v1 h;cases h;exact⟨rfl,rfl⟩
theorem MM {a0:JAI}{r:Int×JAI}(h:Eb a0=some r):yC wl 88 [.ref 0 0] [.box (JAI.av a0)] (.d (D.i r.1)) [.box (JAI.av r.2)]:=by
 refine oK Tryz.f88 ⟨rfl,?_⟩;unfold Eb at h;obtain⟨⟨v1,v2⟩,g3,h⟩:=AA h;refine⟨_,_,some [],AK g3,?_⟩;refine⟨_,rfl,?_⟩;obtain⟨⟨v4,v5⟩,g6,h⟩:=AA h;refine⟨_,_,some [],AK g6,?_⟩;refine⟨_,rfl,?_⟩;obtain⟨⟨v7,v8⟩,g9,h⟩:=AA h;refine⟨_,_,some [],AK g9,?_⟩;obtain⟨v10,g11,h⟩:=AA h;refine⟨rfl,Ap (f:=D.i) g11,?_⟩;refine⟨rfl,D.i v10,(An (f:=D.i) g11),?_⟩;cases h;exact⟨rfl,rfl⟩
theorem K0 {a0:JAI}{r:(List JAE)×JAI}(h:EA a0=some r):yC wl 44 [.ref 0 0] [.box (JAI.av a0)] (.d (D.l 2 JAE.toD r.1)) [.box (JAI.av r.2)]:=by
 refine oK Tryz.f44 ⟨rfl,?_⟩;unfold EA at h;obtain⟨⟨v1,v2⟩,g3,h⟩:=AA h;refine⟨_,_,some [],AK g3,?_⟩;revert h;refine AG (fun (v4,v5)=>⟨X::X::X::yO 4 JAE.toD v5::dd 106 ([]),yB (JAI.av v4)::N::N::N::yR 132 2 JAE.toD v5::nn 106 ([])⟩) ?_ ?_
 ·intro k6 h;revert h;refine Au (fun (v7,v8,v9)=>⟨yr 0 0::X::X::yO 4 JAE.toD v9::yi v7::dd 105 ([]),yB (JAI.av v8)::N::N::N::yR 132 2 JAE.toD v9::nn 106 ([])⟩) ?_ ?_
  ·exact wk
  rintro next10 ⟨v7,v8,v9⟩ K11 h hK12;(conv=>whnf);refine .go ?_;refine sJ h (fun h=>?_) fun h=>AB wk h;revert h;refine AG (fun (v13,v14)=>⟨yr 0 0::X::X::yO 109 JAE.toD v14::yi v7::dd 105 ([]),yB (JAI.av v13)::nn 108 (yR 132 2 JAE.toD v14::N::[])⟩) ?_ ?_
  ·intro k15 h;revert h;refine AG (fun (v16,v17)=>⟨yr 0 0::X::X::yO 4 JAE.toD v9::yi v7::yb v16::dd 104 ([]),yB (JAI.av v17)::N::N::N::yR 132 2 JAE.toD v9::nn 106 ([])⟩) ?_ ?_
   ·intro k18 h;refine⟨v9.length,by first | exact X10 _ | rfl | (simp only[X10];omega),?_⟩;refine sJ h ?_ ?_<;>intro h
    ·refine⟨v9.length,by first | exact X10 _ | rfl | (simp only[X10];omega),?_⟩;refine⟨_,rfl,?_⟩;obtain⟨v19,g20,h⟩:=AA h;refine⟨rfl,Ap (f:=JAE.toD) g20,?_⟩;refine⟨rfl,?_⟩;refine⟨rfl,JAE.toD v19,(An (f:=JAE.toD) g20),?_⟩;refine sJ h (fun h=>AB wk h) fun h=>?_;obtain⟨⟨v21,v22⟩,g23,h⟩:=AA h;refine⟨_,_,some [],AK g23,?_⟩;exact AB wk h
    obtain⟨⟨v24,v25⟩,g26,h⟩:=AA h;refine⟨_,_,some [],AK g26,?_⟩;exact AB wk h
   rintro⟨v16,v17⟩ h;obtain⟨⟨v27,v28⟩,g29,h⟩:=AA h;refine⟨_,_,some [],AK g29,?_⟩;refine⟨_,rfl,?_⟩;revert h;refine AG (fun (v30,v31)=>⟨yr 0 0::X::X::yO 4 JAE.toD v9::yi v7::X::yr 7 0::dd 103 ([]),yB (JAI.av v30)::N::N::N::yR 132 2 JAE.toD v9::N::N::yB [yb v16,yO 52 D.i v31]::nn 44 (yR 3 1 D.i v31::nn 58 ([]))⟩) ?_ ?_
   ·intro k32 h;revert h;refine Au (fun (v33,v34,v35)=>⟨yr 0 0::X::X::yO 4 JAE.toD v9::yi v7::yb v16::yr 7 0::yi v33::dd 102 ([]),yB (JAI.av v34)::N::N::N::yR 132 2 JAE.toD v9::N::N::yB [yb v16,yO 52 D.i v35]::nn 44 (yR 3 1 D.i v35::nn 58 ([]))⟩) ?_ ?_
    ·exact wk
    rintro next36 ⟨v33,v34,v35⟩ K37 h hK38;(conv=>whnf);refine .go ?_;refine sJ h (fun h=>?_) fun h=>AB wk h;revert h;refine AG (fun (v39,v40)=>⟨yr 0 0::X::X::yO 4 JAE.toD v9::yi v7::yb v16::yr 7 0::yi v33::dd 102 ([]),yB (JAI.av v39)::N::N::N::yR 132 2 JAE.toD v9::N::N::yB [yb v16,yO 52 D.i v40]::nn 44 (yR 3 1 D.i v40::nn 58 ([]))⟩) ?_ ?_
    ·intro k41 h;obtain⟨⟨v42,v43⟩,g44,h⟩:=AA h;refine⟨_,_,some [],MM g44,?_⟩;(conv=>whnf);refine .go ?_;refine sJ h ?_ ?_<;>intro h
     ·refine⟨rfl,?_⟩;obtain⟨v45,g46,h⟩:=AA h;refine⟨rfl,AZ (f:=D.i) (g:=D.i) g46,_,Aa (f:=D.i) g46,?_⟩;exact AB wk h
     revert h;refine AG (fun v47=>⟨yr 0 0::X::X::yO 4 JAE.toD v9::yi v7::yb v16::yr 7 0::yi v33::yi v42::yi v47::dd 100 ([]),yB (JAI.av v43)::N::N::N::yR 132 2 JAE.toD v9::N::N::yB [yb v16,yO 52 D.i v35]::nn 44 (yR 3 1 D.i v35::nn 58 ([]))⟩) ?_ ?_
     ·intro k48 h;revert h;refine Au (fun v49=>⟨yr 0 0::X::X::yO 4 JAE.toD v9::yi v7::yb v16::yr 7 0::yi v33::yi v42::yi v49::dd 100 ([]),yB (JAI.av v43)::N::N::N::yR 132 2 JAE.toD v9::N::N::yB [yb v16,yO 52 D.i v35]::nn 44 (yR 3 1 D.i v35::nn 58 ([]))⟩) ?_ ?_
      ·exact wk
      rintro next50 v49 K51 h hK52;revert h;refine AG (fun v53=>⟨yr 0 0::X::X::yO 4 JAE.toD v9::yi v7::yb v16::yr 7 0::yi v33::yi v42::yi v49::dd 56 (yb v53::dd 43 ([])),yB (JAI.av v43)::N::N::N::yR 132 2 JAE.toD v9::N::N::yB [yb v16,yO 52 D.i v35]::nn 44 (yR 3 1 D.i v35::nn 58 ([]))⟩) ?_ ?_
      ·intro k54 h;refine⟨v35.length,by first | exact X10 _ | rfl | (simp only[X10];omega),?_⟩;refine sJ h (fun h=>?_) fun h=>AB wk h;obtain⟨v55,g56,h⟩:=AA h;refine⟨rfl,Ap (f:=D.i) g56,?_⟩;refine⟨rfl,D.i v55,(An (f:=D.i) g56),?_⟩;exact AB wk h
      rintro v53 h;(conv=>whnf);refine .go ?_;refine sJ h (fun h=>?_) fun h=>AB wk h;(conv=>whnf);refine .go ?_;refine⟨_,rfl,?_⟩;exact hK52 _ _ wk h
     rintro v47 h;revert h;refine AG (fun v57=>⟨yr 0 0::X::X::yO 4 JAE.toD v9::yi v7::yb v16::yr 7 0::yi v33::yi v42::yi v47::dd 72 (yb v57::dd 27 ([])),yB (JAI.av v43)::N::N::N::yR 132 2 JAE.toD v9::N::N::yB [yb v16,yO 52 D.i v35]::nn 44 (yR 3 1 D.i v35::nn 58 ([]))⟩) ?_ ?_
     ·intro k58 h;refine⟨v35.length,by first | exact X10 _ | rfl | (simp only[X10];omega),?_⟩;refine sJ h (fun h=>AB wk h) fun h=>?_;obtain⟨v59,g60,h⟩:=AA h;refine⟨rfl,Ap (f:=D.i) g60,?_⟩;refine⟨rfl,D.i v59,(An (f:=D.i) g60),?_⟩;exact AB wk h
     rintro v57 h;revert h;refine AG (fun v61=>⟨yr 0 0::X::X::yO 4 JAE.toD v9::yi v7::yb v16::yr 7 0::yi v33::dd 102 ([]),yB (JAI.av v43)::N::N::N::yR 132 2 JAE.toD v9::N::N::yB [yb v16,yO 88 D.i v61]::nn 80 (yR 3 1 D.i v61::nn 22 ([]))⟩) ?_ ?_
     ·intro k62 h;refine sJ h ?_ ?_<;>intro h
      ·(conv=>whnf);refine .inl (dO ?_);(conv=>whnf);refine .inr (.inl ?_);obtain⟨_,g63,h⟩:=AA h;have g169c:=D4 g63;refine⟨OH (f:=D.i) g63,rfl,(Int.toNat 0),(Int.toNat v47-Int.toNat 0),rfl,rfl,?_⟩;refine⟨(by first | rfl | (simp only[X10,X21];omega)|(simp only[cpy,X10,X21,X11,X18,X17,X20];omega)),List.map D.i (List.take (Int.toNat v47-Int.toNat 0) (List.drop (Int.toNat 0) v35)),J4,?_⟩;obtain⟨_,g64,h⟩:=AA h;refine⟨Ci (g:=D.i) g64,?_⟩;refine⟨rfl,?_⟩;obtain⟨v65,g66,h⟩:=AA h;refine⟨rfl,AZ (f:=D.i) (g:=D.i) g66,_,Aa (f:=D.i) g66,?_⟩;(conv=>whnf);refine .inr (.inl ?_);obtain⟨_,g67,h⟩:=AA h;have g175c:=D4 g67;refine⟨Nx (f:=D.i) g67,rfl,(Int.toNat v47),(Int.toNat (v35.length:Int)-Int.toNat v47),rfl,(by rw[X10]),?_⟩;refine⟨(by first | rfl | (simp only[X10,X21];omega)|(simp only[cpy,X10,X21,X11,X18,X17,X20];omega)),List.map D.i (List.take (Int.toNat (v35.length:Int)-Int.toNat v47) (List.drop (Int.toNat v47) v35)),J4,?_⟩;obtain⟨v68,g69,h⟩:=AA h;refine⟨rfl,AZ (f:=D.i) (g:=D.i) g69,_,Aa (f:=D.i) g69,?_⟩;(conv=>whnf);refine cO ?_;exact AB wk h
      exact AB (.swap 52 88 rfl rfl rfl wk) h
     rintro v61 h;exact AB (.swap 88 52 rfl rfl rfl wk) h
    rintro⟨v39,v40⟩ h;refine⟨_,rfl,?_⟩;exact hK38 _ _ wk h
   rintro⟨v30,v31⟩ h;(conv=>whnf);refine .inl ?_;refine⟨rfl,?_⟩;refine⟨rfl,?_⟩;obtain⟨v70,g71,h⟩:=AA h;refine⟨rfl,AZ (f:=JAE.toD) (g:=JAE.toD) g71,_,Aa (f:=JAE.toD) g71,?_⟩;refine⟨rfl,?_⟩;obtain⟨v72,g73,h⟩:=AA h;refine⟨_,_,none,Ip g73,?_⟩;revert h;refine AG (fun v74=>⟨yr 0 0::X::X::yO 109 JAE.toD v74::yi v7::dd 105 ([]),yB (JAI.av v30)::nn 108 (yR 132 2 JAE.toD v74::N::[])⟩) ?_ ?_
   ·intro k75 h;refine sJ h ?_ ?_<;>intro h
    ·refine⟨v70.length,by first | exact X10 _ | rfl | (simp only[X10];omega),?_⟩;refine⟨_,rfl,?_⟩;(conv=>whnf);refine .inr (.inr ?_);obtain⟨v76,g77,h⟩:=AA h;refine⟨ZV (f:=JAE.toD) g77,rfl,_,EW (f:=JAE.toD) g77,?_⟩;exact AB wk h
    exact AB (.swap 4 109 rfl rfl rfl wk) h
   rintro v74 h;exact AB wk h
  rintro⟨v13,v14⟩ h;refine⟨_,rfl,?_⟩;exact hK12 _ _ (.swap 109 4 rfl rfl rfl wk) h
 rintro⟨v4,v5⟩ h;(conv=>whnf);refine .inl ?_;(conv=>whnf);refine .inl ?_;refine⟨rfl,?_⟩;cases h;exact⟨rfl,rfl⟩
theorem It {a0:JAB}{r:Bool}(h:Df a0=some r):yC wl 127 [AV.d (JAB.toD a0)] [] (.d (D.b r)) []:=by
 refine oK Tryz.f127 ⟨rfl,?_⟩;unfold Df at h;revert h;refine AG (fun v1=>⟨X::X::yb v1::dd 18 ([]),nn 21 ([])⟩) ?_ ?_
 ·intro k2 h;refine sJ h (fun h=>?_) fun h=>AB wk h;refine sJ h (fun h=>?_) fun h=>AB wk h;exact sJ h (fun h=>AB wk h) fun h=>AB wk h
 rintro v1 h;cases h;exact⟨rfl,rfl⟩
theorem Jo {a0:JAB}{a1:JAB}{r:Bool}(h:Dj a0 a1=some r):yC wl 128 [AV.d (JAB.toD a0),AV.d (JAB.toD a1)] [] (.d (D.b r)) []:=by
 refine oK Tryz.f128 ⟨rfl,?_⟩;unfold Dj at h;revert h;refine AG (fun v1=>⟨dd 4 (yb v1::dd 19 ([])),nn 24 ([])⟩) ?_ ?_
 ·intro k2 h;refine sJ h (fun h=>AB wk h) fun h=>?_;exact sJ h (fun h=>AB wk h) fun h=>AB wk h
 rintro v1 h;cases h;exact⟨rfl,rfl⟩
theorem Gu {a0:List JAB}{r:Bool}(h:EL a0=some r):yC wl 77 [AV.d (D.l 2 JAB.toD a0)] [] (.d (D.b r)) []:=by
 refine oK Tryz.f77 ⟨rfl,?_⟩;unfold EL at h;refine⟨a0.length,X10 _,?_⟩;revert h;refine AG (fun _=>⟨y1 a0::dd 32 ([]),nn 33 ([])⟩) ?_ ?_
 ·intro k1 h;revert h;refine Ag 5 2 JAB.toD rfl (fun i2 _=>⟨y1 a0::dd 4 (y1 a0::yi (a0.length:Int)::yi (i2:Int)::dd 25 ([])),nn 33 ([])⟩) ?_ ?_ ?_
  ·exact wk
  ·rintro _ K3 h;(conv=>whnf);refine .go ?_;(conv=>whnf);refine BL DL ?_;exact AB wk h
  rintro next4 i2 x5 _ K3 hii2 hxi2 hwi2 h hK6;(conv=>whnf);refine .go ?_;(conv=>whnf);refine BC (CX hii2) ?_;(conv=>whnf);refine .go ?_;refine⟨BB (f:=JAB.toD) hii2,JAB.toD x5,hxi2,rfl,?_⟩;revert h;refine AG (fun v7=>⟨y1 a0::dd 4 (y1 a0::yi (a0.length:Int)::yi (i2:Int)::dd 20 (yb v7::dd 4 ([]))),nn 33 ([])⟩) ?_ ?_
  ·intro k8 h;(conv=>whnf);refine .inl (dO ?_);obtain⟨v9,g10,h⟩:=AA h;refine⟨_,_,It g10,.inl rfl,?_⟩;refine sJ h ?_ ?_<;>intro h
   ·(conv=>whnf);refine cO ?_;exact AB wk h
   refine sJ h ?_ ?_<;>intro h
   ·refine⟨_,rfl,?_⟩;obtain⟨v11,g12,h⟩:=AA h;refine⟨Ap (f:=JAB.toD) g12,JAB.toD v11,An (f:=JAB.toD) g12,rfl,?_⟩;obtain⟨v13,g14,h⟩:=AA h;refine⟨_,_,Jo g14,.inl rfl,?_⟩;(conv=>whnf);refine cO ?_;exact AB wk h
   (conv=>whnf);refine cO ?_;exact AB wk h
  rintro v7 h;(conv=>whnf);refine .go ?_;refine sJ h ?_ ?_<;>intro h
  ·cases h;exact⟨rfl,rfl⟩
  refine⟨_,hwi2,?_⟩;exact hK6 _ _ wk h
 rintro _ h;refine⟨a0.length,X10 _,?_⟩;cases h;exact⟨rfl,rfl⟩
theorem Qz {a0:List JAB}{a1:JAB}{r:Bool}(h:FS a0 a1=some r):yC wl 132 [AV.d (D.l 2 JAB.toD a0),AV.d (JAB.toD a1)] [] (.d (D.b r)) []:=by
 refine oK Tryz.f132 ⟨rfl,?_⟩;unfold FS at h;refine⟨a0.length,X10 _,?_⟩;revert h;refine AG (fun _=>⟨dd 17 ([]),nn 17 ([])⟩) ?_ ?_
 ·intro k1 h;revert h;refine Ag 7 2 JAB.toD rfl (fun i2 _=>⟨X::X::X::yr 3 0::X::X::X::y1 a0::yi (a0.length:Int)::yi (i2:Int)::dd 7 ([]),N::N::N::yB (JAB.av a1)::nn 13 ([])⟩) ?_ ?_ ?_
  ·exact wk
  ·rintro _ K3 h;(conv=>whnf);refine .go ?_;(conv=>whnf);refine BL DL ?_;exact AB wk h
  rintro next4 i2 x5 _ K3 hii2 hxi2 hwi2 h hK6;(conv=>whnf);refine .go ?_;(conv=>whnf);refine BC (CX hii2) ?_;(conv=>whnf);refine .go ?_;refine⟨BB (f:=JAB.toD) hii2,JAB.toD x5,hxi2,rfl,?_⟩;(conv=>whnf);refine .go ?_;refine sJ h ?_ ?_<;>intro h
  ·cases h;exact⟨rfl,rfl⟩
  refine⟨_,hwi2,?_⟩;exact hK6 _ _ wk h
 rintro _ h;cases h;exact⟨rfl,rfl⟩
theorem Q5 {a0:List JAB}{a1:JAB}{r:(List JAB)×Int}(h:Ho a0 a1=some r):yC wl 89 [AV.d (D.l 2 JAB.toD a0),AV.d (JAB.toD a1)] [] (.tup [.d (D.l 2 JAB.toD r.1),.d (D.i r.2)]) []:=by
 refine oK Tryz.f89 ⟨rfl,?_⟩;unfold Ho at h;(conv=>whnf);refine .go ?_;revert h;refine AG (fun v1=>⟨y1 a0::X::X::yr 3 0::X::X::X::yb v1::dd 43 ([]),N::N::N::yB (JAB.av a1)::nn 47 ([])⟩) ?_ ?_
 ·intro k2 h;obtain⟨v3,g4,h⟩:=AA h;refine⟨_,_,some [],Gu g4,?_⟩;refine sJ h (fun h=>AB wk h) fun h=>?_;obtain⟨v5,g6,h⟩:=AA h;refine⟨_,_,some [],It g6,?_⟩;exact AB wk h
 rintro v1 h;(conv=>whnf);refine .go ?_;refine sJ h ?_ ?_<;>intro h
 ·(conv=>whnf);refine .inl ?_;refine⟨rfl,?_⟩;cases h;exact⟨rfl,rfl⟩
 obtain⟨v7,g8,h⟩:=AA h;refine⟨_,_,some [],Qz g8,?_⟩;(conv=>whnf);refine .go ?_;refine sJ h ?_ ?_<;>intro h
 ·obtain⟨_,g9,h⟩:=AA h;refine⟨Ci (g:=JAB.toD) g9,?_⟩;(conv=>whnf);refine .inl ?_;refine⟨rfl,?_⟩;cases h;exact⟨rfl,rfl⟩
 refine⟨a0.length,X10 _,?_⟩;(conv=>whnf);refine .go ?_;refine sJ h ?_ ?_<;>intro h
 ·(conv=>whnf);refine .inl ?_;refine⟨rfl,?_⟩;cases h;exact⟨rfl,rfl⟩
 revert h;refine AG (fun v10=>⟨y1 a0::X::X::yr 3 0::X::X::yi v10::dd 44 ([]),N::N::N::yB (JAB.av a1)::nn 47 ([])⟩) ?_ ?_
 ·intro k11 h;revert h;refine Au (fun v12=>⟨y1 a0::X::X::yr 3 0::X::X::yi v12::dd 44 ([]),N::N::N::yB (JAB.av a1)::nn 47 ([])⟩) ?_ ?_
  ·exact wk
  rintro next13 v12 K14 h hK15;revert h;refine AG (fun v16=>⟨y1 a0::X::X::yr 3 0::X::X::yi v12::dd 30 (yb v16::dd 13 ([])),N::N::N::yB (JAB.av a1)::nn 47 ([])⟩) ?_ ?_
  ·intro k17 h;(conv=>whnf);refine .inl (dO ?_);refine⟨a0.length,X10 _,?_⟩;refine sJ h ?_ ?_<;>intro h
   ·obtain⟨v18,g19,h⟩:=AA h;refine⟨Ap (f:=JAB.toD) g19,JAB.toD v18,An (f:=JAB.toD) g19,rfl,?_⟩;obtain⟨v20,g21,h⟩:=AA h;refine⟨_,_,Jo g21,.inl rfl,?_⟩;(conv=>whnf);refine cO ?_;exact AB wk h
   (conv=>whnf);refine cO ?_;exact AB wk h
  rintro v16 h;(conv=>whnf);refine .go ?_;refine sJ h (fun h=>?_) fun h=>AB wk h;(conv=>whnf);refine .go ?_;refine⟨_,rfl,?_⟩;exact hK15 _ _ wk h
 rintro v10 h;(conv=>whnf);refine .inl (dO ?_);obtain⟨v22,g23,h⟩:=AA h;refine⟨EX (f:=JAB.toD) g23,_,EW (f:=JAB.toD) g23,?_⟩;obtain⟨_,g24,h⟩:=AA h;refine⟨Ci (g:=JAB.toD) g24,?_⟩;refine⟨rfl,?_⟩;obtain⟨v25,g26,h⟩:=AA h;refine⟨rfl,AZ (f:=JAB.toD) (g:=JAB.toD) g26,_,Aa (f:=JAB.toD) g26,?_⟩;obtain⟨v27,g28,h⟩:=AA h;refine⟨Ku (f:=JAB.toD) g28,_,LR (f:=JAB.toD) g28,?_⟩;obtain⟨v29,g30,h⟩:=AA h;refine⟨rfl,AZ (f:=JAB.toD) (g:=JAB.toD) g30,_,Aa (f:=JAB.toD) g30,?_⟩;(conv=>whnf);refine cO ?_;(conv=>whnf);refine .inl ?_;refine⟨rfl,?_⟩;cases h;exact⟨rfl,rfl⟩
theorem GI {a0:JAF}{r:Bool}(h:BU a0=some r):yC wl 129 [AV.d (JAF.toD a0)] [] (.d (D.b r)) []:=by
 refine oK Tryz.f129 ⟨rfl,?_⟩;unfold BU at h;revert h;refine AG (fun v1=>⟨X::X::yb v1::dd 28 ([]),nn 31 ([])⟩) ?_ ?_
 ·intro k2 h;refine sJ h (fun h=>?_) fun h=>AB wk h;refine sJ h (fun h=>?_) fun h=>AB wk h;refine sJ h (fun h=>?_) fun h=>AB wk h;refine sJ h (fun h=>?_) fun h=>AB wk h;exact sJ h (fun h=>AB wk h) fun h=>AB wk h
 rintro v1 h;cases h;exact⟨rfl,rfl⟩
theorem GZ {a0:JAF}{a1:JAF}{r:Bool}(h:BQ a0 a1=some r):yC wl 130 [AV.d (JAF.toD a0),AV.d (JAF.toD a1)] [] (.d (D.b r)) []:=by
 refine oK Tryz.f130 ⟨rfl,?_⟩;unfold BQ at h;revert h;refine AG (fun v1=>⟨dd 4 (yb v1::dd 33 ([])),nn 38 ([])⟩) ?_ ?_
 ·intro k2 h;refine sJ h (fun h=>AB wk h) fun h=>?_;refine sJ h (fun h=>?_) fun h=>AB wk h;refine sJ h (fun h=>AB wk h) fun h=>?_;exact sJ h (fun h=>AB wk h) fun h=>AB wk h
 rintro v1 h;cases h;exact⟨rfl,rfl⟩
theorem EY {a0:List JAF}{r:Bool}(h:Bw a0=some r):yC wl 78 [AV.d (D.l 3 JAF.toD a0)] [] (.d (D.b r)) []:=by
 refine oK Tryz.f78 ⟨rfl,?_⟩;unfold Bw at h;refine⟨a0.length,X10 _,?_⟩;revert h;refine AG (fun _=>⟨y2 a0::dd 32 ([]),nn 33 ([])⟩) ?_ ?_
 ·intro k1 h;revert h;refine Ag 5 3 JAF.toD rfl (fun i2 _=>⟨y2 a0::dd 4 (y2 a0::yi (a0.length:Int)::yi (i2:Int)::dd 25 ([])),nn 33 ([])⟩) ?_ ?_ ?_
  ·exact wk
  ·rintro _ K3 h;(conv=>whnf);refine .go ?_;(conv=>whnf);refine BL DL ?_;exact AB wk h
  rintro next4 i2 x5 _ K3 hii2 hxi2 hwi2 h hK6;(conv=>whnf);refine .go ?_;(conv=>whnf);refine BC (CX hii2) ?_;(conv=>whnf);refine .go ?_;refine⟨BB (f:=JAF.toD) hii2,JAF.toD x5,hxi2,rfl,?_⟩;revert h;refine AG (fun v7=>⟨y2 a0::dd 4 (y2 a0::yi (a0.length:Int)::yi (i2:Int)::dd 20 (yb v7::dd 4 ([]))),nn 33 ([])⟩) ?_ ?_
  ·intro k8 h;(conv=>whnf);refine .inl (dO ?_);obtain⟨v9,g10,h⟩:=AA h;refine⟨_,_,GI g10,.inl rfl,?_⟩;refine sJ h ?_ ?_<;>intro h
   ·(conv=>whnf);refine cO ?_;exact AB wk h
   refine sJ h ?_ ?_<;>intro h
   ·refine⟨_,rfl,?_⟩;obtain⟨v11,g12,h⟩:=AA h;refine⟨Ap (f:=JAF.toD) g12,JAF.toD v11,An (f:=JAF.toD) g12,rfl,?_⟩;obtain⟨v13,g14,h⟩:=AA h;refine⟨_,_,GZ g14,.inl rfl,?_⟩;(conv=>whnf);refine cO ?_;exact AB wk h
   (conv=>whnf);refine cO ?_;exact AB wk h
  rintro v7 h;(conv=>whnf);refine .go ?_;refine sJ h ?_ ?_<;>intro h
  ·cases h;exact⟨rfl,rfl⟩
  refine⟨_,hwi2,?_⟩;exact hK6 _ _ wk h
 rintro _ h;refine⟨a0.length,X10 _,?_⟩;cases h;exact⟨rfl,rfl⟩
theorem KQ {a0:List JAF}{a1:JAF}{r:Bool}(h:Ce a0 a1=some r):yC wl 133 [AV.d (D.l 3 JAF.toD a0),AV.d (JAF.toD a1)] [] (.d (D.b r)) []:=by
 refine oK Tryz.f133 ⟨rfl,?_⟩;unfold Ce at h;refine⟨a0.length,X10 _,?_⟩;revert h;refine AG (fun _=>⟨dd 17 ([]),nn 17 ([])⟩) ?_ ?_
 ·intro k1 h;revert h;refine Ag 7 3 JAF.toD rfl (fun i2 _=>⟨X::X::X::yr 3 0::X::X::X::y2 a0::yi (a0.length:Int)::yi (i2:Int)::dd 7 ([]),N::N::N::yB (JAF.av a1)::nn 13 ([])⟩) ?_ ?_ ?_
  ·exact wk
  ·rintro _ K3 h;(conv=>whnf);refine .go ?_;(conv=>whnf);refine BL DL ?_;exact AB wk h
  rintro next4 i2 x5 _ K3 hii2 hxi2 hwi2 h hK6;(conv=>whnf);refine .go ?_;(conv=>whnf);refine BC (CX hii2) ?_;(conv=>whnf);refine .go ?_;refine⟨BB (f:=JAF.toD) hii2,JAF.toD x5,hxi2,rfl,?_⟩;(conv=>whnf);refine .go ?_;refine sJ h ?_ ?_<;>intro h
  ·cases h;exact⟨rfl,rfl⟩
  refine⟨_,hwi2,?_⟩;exact hK6 _ _ wk h
 rintro _ h;cases h;exact⟨rfl,rfl⟩
theorem LE {a0:List JAF}{a1:JAF}{r:(List JAF)×Int}(h:EF a0 a1=some r):yC wl 90 [AV.d (D.l 3 JAF.toD a0),AV.d (JAF.toD a1)] [] (.tup [.d (D.l 3 JAF.toD r.1),.d (D.i r.2)]) []:=by
 refine oK Tryz.f90 ⟨rfl,?_⟩;unfold EF at h;(conv=>whnf);refine .go ?_;revert h;refine AG (fun v1=>⟨y2 a0::X::X::yr 3 0::X::X::X::yb v1::dd 43 ([]),N::N::N::yB (JAF.av a1)::nn 47 ([])⟩) ?_ ?_
 ·intro k2 h;obtain⟨v3,g4,h⟩:=AA h;refine⟨_,_,some [],EY g4,?_⟩;refine sJ h (fun h=>AB wk h) fun h=>?_;obtain⟨v5,g6,h⟩:=AA h;refine⟨_,_,some [],GI g6,?_⟩;exact AB wk h
 rintro v1 h;(conv=>whnf);refine .go ?_;refine sJ h ?_ ?_<;>intro h
 ·(conv=>whnf);refine .inl ?_;refine⟨rfl,?_⟩;cases h;exact⟨rfl,rfl⟩
 obtain⟨v7,g8,h⟩:=AA h;refine⟨_,_,some [],KQ g8,?_⟩;(conv=>whnf);refine .go ?_;refine sJ h ?_ ?_<;>intro h
 ·obtain⟨_,g9,h⟩:=AA h;refine⟨Ci (g:=JAF.toD) g9,?_⟩;(conv=>whnf);refine .inl ?_;refine⟨rfl,?_⟩;cases h;exact⟨rfl,rfl⟩
 refine⟨a0.length,X10 _,?_⟩;(conv=>whnf);refine .go ?_;refine sJ h ?_ ?_<;>intro h
 ·(conv=>whnf);refine .inl ?_;refine⟨rfl,?_⟩;cases h;exact⟨rfl,rfl⟩
 revert h;refine AG (fun v10=>⟨y2 a0::X::X::yr 3 0::X::X::yi v10::dd 44 ([]),N::N::N::yB (JAF.av a1)::nn 47 ([])⟩) ?_ ?_
 ·intro k11 h;revert h;refine Au (fun v12=>⟨y2 a0::X::X::yr 3 0::X::X::yi v12::dd 44 ([]),N::N::N::yB (JAF.av a1)::nn 47 ([])⟩) ?_ ?_
  ·exact wk
  rintro next13 v12 K14 h hK15;revert h;refine AG (fun v16=>⟨y2 a0::X::X::yr 3 0::X::X::yi v12::dd 30 (yb v16::dd 13 ([])),N::N::N::yB (JAF.av a1)::nn 47 ([])⟩) ?_ ?_
  ·intro k17 h;(conv=>whnf);refine .inl (dO ?_);refine⟨a0.length,X10 _,?_⟩;refine sJ h ?_ ?_<;>intro h
   ·obtain⟨v18,g19,h⟩:=AA h;refine⟨Ap (f:=JAF.toD) g19,JAF.toD v18,An (f:=JAF.toD) g19,rfl,?_⟩;obtain⟨v20,g21,h⟩:=AA h;refine⟨_,_,GZ g21,.inl rfl,?_⟩;(conv=>whnf);refine cO ?_;exact AB wk h
   (conv=>whnf);refine cO ?_;exact AB wk h
  rintro v16 h;(conv=>whnf);refine .go ?_;refine sJ h (fun h=>?_) fun h=>AB wk h;(conv=>whnf);refine .go ?_;refine⟨_,rfl,?_⟩;exact hK15 _ _ wk h
 rintro v10 h;(conv=>whnf);refine .inl (dO ?_);obtain⟨v22,g23,h⟩:=AA h;refine⟨EX (f:=JAF.toD) g23,_,EW (f:=JAF.toD) g23,?_⟩;obtain⟨_,g24,h⟩:=AA h;refine⟨Ci (g:=JAF.toD) g24,?_⟩;refine⟨rfl,?_⟩;obtain⟨v25,g26,h⟩:=AA h;refine⟨rfl,AZ (f:=JAF.toD) (g:=JAF.toD) g26,_,Aa (f:=JAF.toD) g26,?_⟩;obtain⟨v27,g28,h⟩:=AA h;refine⟨Ku (f:=JAF.toD) g28,_,LR (f:=JAF.toD) g28,?_⟩;obtain⟨v29,g30,h⟩:=AA h;refine⟨rfl,AZ (f:=JAF.toD) (g:=JAF.toD) g30,_,Aa (f:=JAF.toD) g30,?_⟩;(conv=>whnf);refine cO ?_;(conv=>whnf);refine .inl ?_;refine⟨rfl,?_⟩;cases h;exact⟨rfl,rfl⟩
theorem HN {a0:JAI}{r:(List JAB)×(List JAF)×JAI}(h:Bo a0=some r):yC wl 45 [.ref 0 0] [.box (JAI.av a0)] (.tup [.d (D.l 2 JAB.toD r.1),.d (D.l 3 JAF.toD r.2.1)]) [.box (JAI.av r.2.2)]:=by
 refine oK Tryz.f45 ⟨rfl,?_⟩;unfold Bo at h;obtain⟨⟨v1,v2⟩,g3,h⟩:=AA h;refine⟨_,_,some [],AK g3,?_⟩;revert h;refine AG (fun (v4,v5)=>⟨yr 0 0::X::X::X::y1 v4::AV.own 6 (List.map JAF.toD []).length::dd 50 ([]),yB (JAI.av v5)::nn 5 (some (OB.row 141 3 (List.map JAF.toD []) .no)::nn 50 ([]))⟩) ?_ ?_
 ·intro k6 h;revert h;refine Au (fun (v7,v8,v9)=>⟨yr 0 0::X::X::X::y1 v7::AV.own 6 (List.map JAF.toD []).length::yi v8::dd 49 ([]),yB (JAI.av v9)::nn 5 (some (OB.row 141 3 (List.map JAF.toD []) .no)::nn 50 ([]))⟩) ?_ ?_
  ·exact wk
  rintro next10 ⟨v7,v8,v9⟩ K11 h hK12;(conv=>whnf);refine .go ?_;refine sJ h (fun h=>?_) fun h=>AB wk h;(conv=>whnf);refine .go ?_;(conv=>whnf);refine .inl (dO ?_);obtain⟨⟨v13,v14⟩,g15,h⟩:=AA h;refine⟨_,_,AK g15,.inl rfl,?_⟩;obtain⟨v16,g17,h⟩:=AA h;refine⟨rfl,Ap (f:=D.i) g17,?_⟩;refine⟨rfl,D.i v16,(An (f:=D.i) g17),?_⟩;obtain⟨⟨v18,v19⟩,g20,h⟩:=AA h;refine⟨_,_,AK g20,.inl rfl,?_⟩;refine⟨_,rfl,?_⟩;obtain⟨⟨v21,v22⟩,g23,h⟩:=AA h;refine⟨_,_,AK g23,.inl rfl,?_⟩;obtain⟨v24,g25,h⟩:=AA h;refine⟨rfl,Ap (f:=D.i) g25,?_⟩;refine⟨rfl,D.i v24,(An (f:=D.i) g25),?_⟩;obtain⟨⟨v26,v27⟩,g28,h⟩:=AA h;refine⟨_,_,Q5 g28,.inl rfl,?_⟩;(conv=>whnf);refine cO ?_;refine⟨_,rfl,?_⟩;exact hK12 _ _ wk h
 rintro⟨v4,v5⟩ h;obtain⟨⟨v29,v30⟩,g31,h⟩:=AA h;refine⟨_,_,some [],AK g31,?_⟩;revert h;refine AG (fun (v32,v33)=>⟨dd 4 (y1 v4::y2 v32::dd 50 ([])),yB (JAI.av v33)::nn 56 ([])⟩) ?_ ?_
 ·intro k34 h;revert h;refine Au (fun (v35,v36,v37)=>⟨yr 0 0::X::X::X::y1 v4::y2 v35::X::yi v36::dd 48 ([]),yB (JAI.av v37)::nn 56 ([])⟩) ?_ ?_
  ·exact wk
  rintro next38 ⟨v35,v36,v37⟩ K39 h hK40;(conv=>whnf);refine .go ?_;refine sJ h (fun h=>?_) fun h=>AB wk h;(conv=>whnf);refine .go ?_;(conv=>whnf);refine .inl (dO ?_);obtain⟨⟨v41,v42⟩,g43,h⟩:=AA h;refine⟨_,_,AK g43,.inl rfl,?_⟩;obtain⟨v44,g45,h⟩:=AA h;refine⟨rfl,Ap (f:=D.i) g45,?_⟩;refine⟨rfl,D.i v44,(An (f:=D.i) g45),?_⟩;obtain⟨⟨v46,v47⟩,g48,h⟩:=AA h;refine⟨_,_,AK g48,.inl rfl,?_⟩;obtain⟨⟨v49,v50⟩,g51,h⟩:=AA h;refine⟨_,_,AK g51,.inl rfl,?_⟩;obtain⟨⟨v52,v53⟩,g54,h⟩:=AA h;refine⟨_,_,LE g54,.inl rfl,?_⟩;(conv=>whnf);refine cO ?_;refine⟨_,rfl,?_⟩;exact hK40 _ _ wk h
 rintro⟨v32,v33⟩ h;cases h;exact⟨rfl,rfl⟩
theorem Jx {a0:JAI}{a1:Int}{r:(List UInt8)×JAI}(h:Dq a0 a1=some r):yC wl 46 [.ref 0 0,AV.d (D.i a1)] [.box (JAI.av a0)] (.d (D.l 1 D.u8 r.1)) [.box (JAI.av r.2)]:=by
 refine oK Tryz.f46 ⟨rfl,?_⟩;unfold Dq at h;refine⟨_,rfl,?_⟩;obtain⟨⟨v1,v2⟩,g3,h⟩:=AA h;refine⟨_,_,some [],AK g3,?_⟩;revert h;refine AG (fun (v4,v5)=>⟨dd 5 (yO 6 D.u8 v5::dd 16 ([])),yB (JAI.av v4)::nn 5 (yR 5 1 D.u8 v5::nn 16 ([]))⟩) ?_ ?_
 ·intro k6 h;revert h;refine Au (fun (v7,v8,v9)=>⟨yr 0 0::dd 4 (yO 6 D.u8 v9::yi v7::dd 15 ([])),yB (JAI.av v8)::nn 5 (yR 5 1 D.u8 v9::nn 16 ([]))⟩) ?_ ?_
  ·exact wk
  rintro next10 ⟨v7,v8,v9⟩ K11 h hK12;(conv=>whnf);refine .go ?_;refine sJ h (fun h=>?_) fun h=>AB wk h;(conv=>whnf);refine .go ?_;obtain⟨⟨v13,v14⟩,g15,h⟩:=AA h;refine⟨_,_,some [],AK g15,?_⟩;refine⟨_,Af _,?_⟩;refine⟨rfl,?_⟩;obtain⟨v16,g17,h⟩:=AA h;refine⟨rfl,AZ (f:=D.u8) (g:=D.u8) g17,_,Aa (f:=D.u8) g17,?_⟩;refine⟨_,rfl,?_⟩;exact hK12 _ _ wk h
 rintro⟨v4,v5⟩ h;(conv=>whnf);refine .inl ?_;(conv=>whnf);refine .inl ?_;refine⟨rfl,?_⟩;cases h;exact⟨rfl,rfl⟩
theorem GX {a0:JAI}{r:JAC×JAI}(h:C6 a0=some r):yC wl 15 [.ref 0 0] [.box (JAI.av a0)] (.d (JAC.toD r.1)) [.box (JAI.av r.2)]:=by
 refine okx 2 Tryz.f15 (by kernel_rfl) (by kernel_rfl) ⟨rfl,?_⟩;unfold C6 at h;revert h;refine AG (fun _=>⟨yr 0 0::X::yr 3 0::dd 4 (AV.d (D.agg [D.i (-1),D.nil 2,D.b false,D.u64 (0:UInt64),D.u64 (0:UInt64),D.i (-1),D.i (-1),D.i (-1),D.nil 2,D.nil 3,D.nil 3])::dd 62 ([])),yB (JAI.av a0)::N::N::yB JAC.zv::nn 69 ([])⟩) ?_ ?_
 ·intro k1 h;(conv=>whnf);refine inl Tryz.f17 71 (by kernel_rfl) (by kernel_rfl) ⟨rfl,?_⟩;exact AB wk h
 rintro _ h;obtain⟨⟨v2,v3⟩,g4,h⟩:=AA h;refine⟨_,_,some [],AK g4,?_⟩;refine⟨_,rfl,?_⟩;obtain⟨⟨v5,v6⟩,g7,h⟩:=AA h;refine⟨_,_,some [],K0 g7,?_⟩;obtain⟨v8,g9,h⟩:=AA h;refine⟨_,_,some [],KV g9,?_⟩;obtain⟨v10,g11,h⟩:=AA h;refine⟨_,_,some [],M3 g11,?_⟩;obtain⟨⟨v12,v13⟩,g14,h⟩:=AA h;refine⟨_,_,some [],AK g14,?_⟩;obtain⟨v15,g16,h⟩:=AA h;refine⟨rfl,Ap (f:=Addr.toD) g16,?_⟩;refine⟨rfl,Addr.toD v15,(An (f:=Addr.toD) g16),?_⟩;(conv=>whnf);refine .inl (dO ?_);obtain⟨⟨v17,v18⟩,g19,h⟩:=AA h;refine⟨_,_,AK g19,.inl rfl,?_⟩;obtain⟨v20,g21,h⟩:=AA h;refine⟨rfl,Ap (f:=D.i) g21,?_⟩;refine⟨rfl,D.i v20,(An (f:=D.i) g21),?_⟩;obtain⟨⟨v22,v23⟩,g24,h⟩:=AA h;refine⟨_,_,AK g24,.inl rfl,?_⟩;obtain⟨v25,g26,h⟩:=AA h;refine⟨rfl,Ap (f:=D.i) g26,?_⟩;refine⟨rfl,D.i v25,(An (f:=D.i) g26),?_⟩;(conv=>whnf);refine cO ?_;obtain⟨⟨v27,v28⟩,g29,h⟩:=AA h;refine⟨_,_,some [],AK g29,?_⟩;obtain⟨v30,g31,h⟩:=AA h;refine⟨rfl,Ap (f:=D.i) g31,?_⟩;refine⟨rfl,D.i v30,(An (f:=D.i) g31),?_⟩;obtain⟨⟨v32,v33,v34⟩,g35,h⟩:=AA h;refine⟨_,_,some [],HN g35,?_⟩;refine⟨([6,7,16,34,200,255]:List Int).length,by first | exact X10 _ | rfl | (simp only[X10];omega),?_⟩;revert h;refine AG (fun (v36,v37)=>⟨X::X::yr 3 0::yr 4 0::dd 66 ([]),yB (JAI.av v36)::N::N::yB JAC.zv::yB [yi (AS (v2-1)),y0 v5,AV.d (D.b v15.V6),AV.d (D.u64 v15.Hi),AV.d (D.u64 v15.Lo),yi v20,yi v25,yi v30,y1 v32,y2 v33,yO 67 JAA.toD v37]::nn 62 (yR 88 3 JAA.toD v37::nn 5 ([]))⟩) ?_ ?_
 ·intro k38 h;revert h;refine JH 51 3 1 .no D.i rfl (fun i39 (v40,v41)=>⟨yr 0 0::X::yr 3 0::yr 4 0::dd 46 (yO 51 D.i ([6,7,16,34,200,255]:List Int)::yi (([6,7,16,34,200,255]:List Int).length:Int)::yi (i39:Int)::dd 17 ([])),yB (JAI.av v40)::N::N::yB JAC.zv::yB [yi (AS (v2-1)),y0 v5,AV.d (D.b v15.V6),AV.d (D.u64 v15.Hi),AV.d (D.u64 v15.Lo),yi v20,yi v25,yi v30,y1 v32,y2 v33,yO 67 JAA.toD v41]::nn 46 (yR 3 1 D.i ([6,7,16,34,200,255]:List Int)::nn 15 (yR 88 3 JAA.toD v41::nn 5 ([])))⟩) ?_ ?_ ?_
  ·exact wk
  ·rintro⟨v40,v41⟩ K42 h;(conv=>whnf);refine .go ?_;exact AB wk h
  rintro next43 i39 x44 ⟨v40,v41⟩ K42 hii39 hxi39 hwi39 h hK45;(conv=>whnf);refine .go ?_;(conv=>whnf);refine BC (CX hii39) ?_;(conv=>whnf);refine .go ?_;refine⟨rfl,BB (f:=D.i) hii39,?_⟩;refine⟨rfl,D.i x44,hxi39,?_⟩;obtain⟨⟨v46,v47⟩,g48,h⟩:=AA h;refine⟨_,_,some [],AK g48,?_⟩;revert h;refine AG (fun (v49,v50)=>⟨yr 0 0::X::yr 3 0::yr 4 0::dd 46 (yO 51 D.i ([6,7,16,34,200,255]:List Int)::yi (([6,7,16,34,200,255]:List Int).length:Int)::yi (i39:Int)::dd 17 ([])),yB (JAI.av v49)::N::N::yB JAC.zv::yB [yi (AS (v2-1)),y0 v5,AV.d (D.b v15.V6),AV.d (D.u64 v15.Hi),AV.d (D.u64 v15.Lo),yi v20,yi v25,yi v30,y1 v32,y2 v33,yO 67 JAA.toD v50]::nn 46 (yR 3 1 D.i ([6,7,16,34,200,255]:List Int)::nn 15 (yR 88 3 JAA.toD v50::nn 5 ([])))⟩) ?_ ?_
  ·intro k51 h;refine sJ h (fun h=>?_) fun h=>AB wk h;(conv=>whnf);refine .inl (dO ?_);obtain⟨⟨v52,v53⟩,g54,h⟩:=AA h;refine⟨_,_,Jx g54,.inl rfl,?_⟩;refine⟨rfl,?_⟩;obtain⟨v55,g56,h⟩:=AA h;refine⟨rfl,AZ (f:=JAA.toD) (g:=JAA.toD) g56,_,Aa (f:=JAA.toD) g56,?_⟩;(conv=>whnf);refine cO ?_;exact AB wk h
  rintro⟨v49,v50⟩ h;refine⟨_,hwi39,?_⟩;exact hK45 _ _ wk h
 rintro⟨v36,v37⟩ h;(conv=>whnf);refine .inl ?_;refine⟨rfl,?_⟩;cases h;exact⟨rfl,rfl⟩
theorem LW {a0:JAI}{r:Addr×JAI}(h:ED a0=some r):yC wl 47 [.ref 0 0] [.box (JAI.av a0)] (.d (Addr.toD r.1)) [.box (JAI.av r.2)]:=by
 refine oK Tryz.f47 ⟨rfl,?_⟩;unfold ED at h;obtain⟨⟨v1,v2⟩,g3,h⟩:=AA h;refine⟨_,_,some [],AK g3,?_⟩;(conv=>whnf);refine .go ?_;(conv=>whnf);refine .go ?_;refine sJ h ?_ ?_<;>intro h
 ·obtain⟨⟨v4,v5⟩,g6,h⟩:=AA h;refine⟨_,_,some [],AK g6,?_⟩;refine⟨by decide,_,rfl,?_⟩;refine⟨_,rfl,?_⟩;obtain⟨⟨v7,v8⟩,g9,h⟩:=AA h;refine⟨_,_,some [],AK g9,?_⟩;refine⟨_,rfl,?_⟩;refine⟨_,Ae _,?_⟩;cases h;exact⟨rfl,rfl⟩
 (conv=>whnf);refine .go ?_;refine sJ h ?_ ?_<;>intro h
 ·obtain⟨⟨v10,v11⟩,g12,h⟩:=AA h;refine⟨_,_,some [],AK g12,?_⟩;refine⟨_,Ae _,?_⟩;refine⟨_,Ae _,?_⟩;obtain⟨⟨v13,v14⟩,g15,h⟩:=AA h;refine⟨_,_,some [],AK g15,?_⟩;refine⟨_,Ae _,?_⟩;cases h;exact⟨rfl,rfl⟩
 (conv=>whnf);refine .go ?_;refine sJ h ?_ ?_<;>intro h
 ·obtain⟨⟨v16,v17⟩,g18,h⟩:=AA h;refine⟨_,_,some [],AK g18,?_⟩;obtain⟨v19,g20,h⟩:=AA h;refine⟨rfl,Ap (f:=D.u64) g20,?_⟩;refine⟨rfl,D.u64 v19,(An (f:=D.u64) g20),?_⟩;cases h;exact⟨rfl,rfl⟩
 (conv=>whnf);refine .go ?_;refine sJ h ?_ ?_<;>intro h
 ·(conv=>whnf);refine .inl (dO ?_);obtain⟨⟨v21,v22⟩,g23,h⟩:=AA h;refine⟨_,_,AK g23,.inl rfl,?_⟩;obtain⟨v24,g25,h⟩:=AA h;refine⟨rfl,Ap (f:=D.u64) g25,?_⟩;refine⟨rfl,D.u64 v24,(An (f:=D.u64) g25),?_⟩;obtain⟨⟨v26,v27⟩,g28,h⟩:=AA h;refine⟨_,_,AK g28,.inl rfl,?_⟩;obtain⟨v29,g30,h⟩:=AA h;refine⟨rfl,Ap (f:=D.u64) g30,?_⟩;refine⟨rfl,D.u64 v29,(An (f:=D.u64) g30),?_⟩;(conv=>whnf);refine cO ?_;cases h;exact⟨rfl,rfl⟩
 (conv=>whnf);refine .go ?_;refine sJ h ?_ ?_<;>intro h
 ·obtain⟨⟨v31,v32⟩,g33,h⟩:=AA h;refine⟨_,_,some [],AK g33,?_⟩;refine⟨_,Ae _,?_⟩;obtain⟨⟨v34,v35⟩,g36,h⟩:=AA h;refine⟨_,_,some [],AK g36,?_⟩;refine⟨_,rfl,?_⟩;refine⟨_,Ae _,?_⟩;refine⟨Int.natCast_nonneg _,_,Ae _,?_⟩;obtain⟨⟨v37,v38⟩,g39,h⟩:=AA h;refine⟨_,_,some [],AK g39,?_⟩;refine⟨_,Ae _,?_⟩;obtain⟨⟨v40,v41⟩,g42,h⟩:=AA h;refine⟨_,_,some [],AK g42,?_⟩;refine⟨_,rfl,?_⟩;refine⟨_,Ae _,?_⟩;refine⟨Int.natCast_nonneg _,_,Ae _,?_⟩;cases h;exact⟨rfl,rfl⟩
 obtain⟨⟨v43,v44⟩,g45,h⟩:=AA h;refine⟨_,_,some [],AK g45,?_⟩;refine⟨_,Ae _,?_⟩;cases h;exact⟨rfl,rfl⟩
theorem Gk {a0:Addr}{r:Bool}(h:DG a0=some r):yC wl 76 [AV.d (Addr.toD a0)] [] (.d (D.b r)) []:=by
 refine oK Tryz.f76 ⟨rfl,?_⟩;unfold DG at h;revert h;refine AG (fun v1=>⟨X::X::yb v1::dd 12 ([]),nn 15 ([])⟩) ?_ ?_
 ·intro k2 h;refine sJ h (fun h=>AB wk h) fun h=>?_;exact sJ h (fun h=>AB wk h) fun h=>AB wk h
 rintro v1 h;cases h;exact⟨rfl,rfl⟩
theorem Oa {a0:Addr}{r:Int}(h:DC a0=some r):yC wl 91 [AV.d (Addr.toD a0)] [] (.d (D.i r)) []:=by
 refine oK Tryz.f91 ⟨rfl,?_⟩;unfold DC at h;(conv=>whnf);refine .go ?_;refine sJ h ?_ ?_<;>intro h
 ·cases h;exact⟨rfl,rfl⟩
 cases h;exact⟨rfl,rfl⟩
theorem E7 {a0:Addr}{r:(List UInt8)}(h:BG a0=some r):yC wl 92 [AV.d (Addr.toD a0)] [] (AV.own 0 (List.map D.u8 r).length) [.row 5 1 (List.map D.u8 r) .no]:=by
 refine oK Tryz.f92 ⟨rfl,?_⟩;unfold BG at h;obtain⟨v1,g2,h⟩:=AA h;refine⟨_,_,some [],Gk g2,?_⟩;(conv=>whnf);refine .go ?_;refine sJ h ?_ ?_<;>intro h
 ·(conv=>whnf);refine .inr ⟨X29 rfl,5,?_⟩;cases h;exact⟨rfl,rfl⟩
 revert h;refine AG (fun v3=>⟨X::yr 1 0::X::yi v3::dd 31 ([]),N::yB (Addr.av a0)::nn 33 ([])⟩) ?_ ?_
 ·intro k4 h;exact sJ h (fun h=>AB wk h) fun h=>AB wk h
 rintro v3 h;refine⟨_,rfl,?_⟩;revert h;refine AG (fun v5=>⟨dd 4 (yO 4 D.u8 v5::dd 30 ([])),nn 4 (yR 5 1 D.u8 v5::nn 30 ([]))⟩) ?_ ?_
 ·intro k6 h;revert h;refine Au (fun (v7,v8)=>⟨X::yr 1 0::X::X::yO 4 D.u8 v8::yi v7::dd 29 ([]),N::yB (Addr.av a0)::N::N::yR 5 1 D.u8 v8::nn 30 ([])⟩) ?_ ?_
  ·exact wk
  rintro next9 ⟨v7,v8⟩ K10 h hK11;(conv=>whnf);refine .go ?_;refine sJ h (fun h=>?_) fun h=>AB wk h;(conv=>whnf);refine .go ?_;revert h;refine AG (fun v12=>⟨X::yr 1 0::X::X::yO 4 D.u8 v8::yi v7::yu v12::dd 28 ([]),N::yB (Addr.av a0)::N::N::yR 5 1 D.u8 v8::nn 30 ([])⟩) ?_ ?_
  ·intro k13 h;exact sJ h (fun h=>AB wk h) fun h=>AB wk h
  rintro v12 h;refine⟨by decide,_,rfl,?_⟩;refine⟨_,Ae _,?_⟩;refine⟨_,Ae _,?_⟩;refine⟨Int.natCast_nonneg _,_,GQ v12 _,?_⟩;refine⟨_,Af _,?_⟩;refine⟨rfl,?_⟩;obtain⟨v14,g15,h⟩:=AA h;refine⟨rfl,AZ (f:=D.u8) (g:=D.u8) g15,_,Aa (f:=D.u8) g15,?_⟩;refine⟨_,rfl,?_⟩;exact hK11 _ _ wk h
 rintro v5 h;(conv=>whnf);refine .inl ?_;(conv=>whnf);refine .inr ?_;cases h;exact⟨rfl,rfl⟩
theorem Jy {a0:List UInt8}{r:Addr×Int}(h:CE a0=some r):yC wl 93 [AV.d (D.l 1 D.u8 a0)] [] (.tup [.d (Addr.toD r.1),.d (D.i r.2)]) []:=by
 refine oK Tryz.f93 ⟨rfl,?_⟩;unfold CE at h;revert h;refine AG (fun v1=>⟨y3 a0::X::yr 2 0::dd 11 (yb v1::dd 28 ([])),N::N::yB Addr.zv::nn 40 ([])⟩) ?_ ?_
 ·intro k2 h;refine⟨a0.length,X10 _,?_⟩;refine sJ h (fun h=>?_) fun h=>AB wk h;refine⟨a0.length,X10 _,?_⟩;exact AB wk h
 rintro v1 h;(conv=>whnf);refine .go ?_;refine sJ h ?_ ?_<;>intro h
 ·cases h;exact⟨rfl,rfl⟩
 refine⟨a0.length,X10 _,?_⟩;refine⟨a0.length,X10 _,?_⟩;revert h;refine AG (fun v3=>⟨X::X::yr 2 0::X::yr 4 0::dd 38 ([]),N::N::yB Addr.zv::N::yB (Addr.av v3)::nn 38 ([])⟩) ?_ ?_
 ·intro k4 h;revert h;refine Ag 20 1 D.u8 rfl (fun i5 v6=>⟨X::X::yr 2 0::X::yr 4 0::dd 15 (y3 a0::yi (a0.length:Int)::yi (i5:Int)::dd 20 ([])),N::N::yB Addr.zv::N::yB (Addr.av v6)::nn 38 ([])⟩) ?_ ?_ ?_
  ·exact wk
  ·rintro v6 K7 h;(conv=>whnf);refine .go ?_;(conv=>whnf);refine BL DL ?_;exact AB wk h
  rintro next8 i5 x9 v6 K7 hii5 hxi5 hwi5 h hK10;(conv=>whnf);refine .go ?_;(conv=>whnf);refine BC (CX hii5) ?_;(conv=>whnf);refine .go ?_;refine⟨BB (f:=D.u8) hii5,D.u8 x9,hxi5,rfl,?_⟩;refine⟨by decide,_,Ae _,?_⟩;refine⟨by decide,_,GQ v6.Lo _,?_⟩;refine⟨_,Ae _,?_⟩;refine⟨by decide,_,Ae _,?_⟩;refine⟨_,Ae _,?_⟩;refine⟨_,Ae _,?_⟩;refine⟨_,hwi5,?_⟩;exact hK10 _ _ wk h
 rintro v3 h;cases h;exact⟨rfl,rfl⟩
theorem Jt {a0:Addr}{a1:Int}{r:JAD×Int}(h:DO a0 a1=some r):yC wl 48 [AV.d (Addr.toD a0),AV.d (D.i a1)] [] (.tup [.d (JAD.toD r.1),.d (D.i r.2)]) []:=by
 refine oK Tryz.f48 ⟨rfl,?_⟩;unfold DO at h;(conv=>whnf);refine .go ?_;obtain⟨v1,g2,h⟩:=AA h;refine⟨_,_,some [],Gk g2,?_⟩;(conv=>whnf);refine .go ?_;refine sJ h ?_ ?_<;>intro h
 ·cases h;exact⟨rfl,rfl⟩
 revert h;refine AG (fun v3=>⟨X::yi a1::yr 2 0::X::yr 4 0::dd 10 (yb v3::dd 38 ([])),N::N::yB (Addr.av a0)::N::yB JAD.zv::nn 49 ([])⟩) ?_ ?_
 ·intro k4 h;refine sJ h (fun h=>AB wk h) fun h=>?_;obtain⟨v5,g6,h⟩:=AA h;refine⟨_,_,some [],Oa g6,?_⟩;exact AB wk h
 rintro v3 h;(conv=>whnf);refine .go ?_;refine sJ h ?_ ?_<;>intro h
 ·cases h;exact⟨rfl,rfl⟩
 obtain⟨v7,g8,h⟩:=AA h;refine⟨_,_,some [26],E7 g8,?_⟩;revert h;refine AG (fun v9=>⟨X::yi a1::X::X::yr 4 0::X::yO 26 D.u8 v9::dd 47 ([]),nn 4 (yB JAD.zv::nn 21 (yR 5 1 D.u8 v9::nn 27 ([])))⟩) ?_ ?_
 ·intro k10 h;revert h;refine Au (fun (v11,v12)=>⟨X::yi a1::X::X::yr 4 0::X::yO 26 D.u8 v12::yi v11::dd 46 ([]),nn 4 (yB JAD.zv::nn 21 (yR 5 1 D.u8 v12::nn 27 ([])))⟩) ?_ ?_
  ·exact wk
  rintro next13 ⟨v11,v12⟩ K14 h hK15;refine⟨v12.length,by first | exact X10 _ | rfl | (simp only[X10];omega),?_⟩;refine⟨_,rfl,?_⟩;(conv=>whnf);refine .go ?_;refine sJ h (fun h=>?_) fun h=>AB wk h;(conv=>whnf);refine .go ?_;refine⟨by decide,_,rfl,?_⟩;obtain⟨v16,g17,h⟩:=AA h;refine⟨rfl,Ap (f:=D.u8) g17,?_⟩;refine⟨rfl,D.u8 v16,(An (f:=D.u8) g17),?_⟩;refine⟨by decide,_,rfl,?_⟩;refine⟨_,Ae _,?_⟩;refine⟨Int.natCast_nonneg _,_,ZF (128:UInt8) _,?_⟩;refine⟨_,Af _,?_⟩;obtain⟨v18,g19,h⟩:=AA h;refine⟨rfl,Ap (f:=D.u8) g19,?_⟩;obtain⟨v20,g21,h⟩:=AA h;have g21l:=Ld g21;refine⟨rfl,rfl,D.u8 v18,(An (f:=D.u8) g19),?_⟩;refine⟨_,RS (f:=D.u8) g21,?_⟩;refine⟨_,rfl,?_⟩;exact hK15 _ _ wk h
 rintro v9 h;refine⟨rfl,?_⟩;obtain⟨⟨v22,v23⟩,g24,h⟩:=AA h;refine⟨_,_,none,Jy g24,?_⟩;cases h;exact⟨rfl,rfl⟩
theorem DR {a0:JAI}{r:JAD×JAI}(h:BX a0=some r):yC wl 16 [.ref 0 0] [.box (JAI.av a0)] (.d (JAD.toD r.1)) [.box (JAI.av r.2)]:=by
 refine oK Tryz.f16 ⟨rfl,?_⟩;unfold BX at h;obtain⟨⟨v1,v2⟩,g3,h⟩:=AA h;refine⟨_,_,some [],LW g3,?_⟩;revert h;refine AG (fun v4=>⟨yr 0 0::X::yr 3 0::yr 4 0::yi v4::dd 34 ([]),yB (JAI.av v2)::N::N::yB JAD.zv::yB (Addr.av v1)::nn 35 ([])⟩) ?_ ?_
 ·intro k5 h;exact sJ h (fun h=>AB wk h) fun h=>AB wk h
 rintro v4 h;obtain⟨⟨v6,v7⟩,g8,h⟩:=AA h;refine⟨_,_,some [],AK g8,?_⟩;(conv=>whnf);refine .go ?_;revert h;refine AG (fun (v9,v10)=>⟨X::X::yr 3 0::yr 4 0::yi v9::dd 34 ([]),yB (JAI.av v10)::N::N::yB JAD.zv::yB (Addr.av v1)::nn 35 ([])⟩) ?_ ?_
 ·intro k11 h;refine sJ h ?_ ?_<;>intro h
  ·refine⟨_,rfl,?_⟩;obtain⟨⟨v12,v13⟩,g14,h⟩:=AA h;refine⟨_,_,some [],AK g14,?_⟩;exact AB wk h
  revert h;refine AG (fun (v15,v16)=>⟨X::X::yr 3 0::yr 4 0::yi v15::dd 34 ([]),yB (JAI.av v16)::N::N::yB JAD.zv::yB (Addr.av v1)::nn 35 ([])⟩) ?_ ?_
  ·intro k17 h;refine sJ h ?_ ?_<;>intro h
   ·obtain⟨⟨v18,v19⟩,g20,h⟩:=AA h;refine⟨_,_,some [],AK g20,?_⟩;refine⟨_,rfl,?_⟩;exact AB wk h
   revert h;refine AG (fun (v21,v22)=>⟨X::X::yr 3 0::yr 4 0::yi v21::dd 34 ([]),yB (JAI.av v22)::N::N::yB JAD.zv::yB (Addr.av v1)::nn 35 ([])⟩) ?_ ?_
   ·intro k23 h;refine sJ h (fun h=>?_) fun h=>AB wk h;obtain⟨⟨v24,v25⟩,g26,h⟩:=AA h;refine⟨_,_,some [],AK g26,?_⟩;obtain⟨v27,g28,h⟩:=AA h;refine⟨rfl,Ap (f:=D.i) g28,?_⟩;refine⟨rfl,D.i v27,(An (f:=D.i) g28),?_⟩;exact AB wk h
   rintro⟨v21,v22⟩ h;exact AB wk h
  rintro⟨v15,v16⟩ h;exact AB wk h
 rintro⟨v9,v10⟩ h;obtain⟨⟨v29,v30⟩,g31,h⟩:=AA h;refine⟨_,_,some [],Jt g31,?_⟩;cases h;exact⟨rfl,rfl⟩
theorem Oy {a0:JAD}{r:Bool}(h:DF a0=some r):yC wl 34 [AV.d (JAD.toD a0)] [] (.d (D.b r)) []:=by
 refine oK Tryz.f34 ⟨rfl,?_⟩;unfold DF at h;obtain⟨⟨v1,v2⟩,g3,h⟩:=AA h;refine⟨_,_,some [],Jt g3,?_⟩;revert h;refine AG (fun v4=>⟨X::X::yb v4::dd 17 ([]),nn 20 ([])⟩) ?_ ?_
 ·intro k5 h;exact sJ h (fun h=>AB wk h) fun h=>AB wk h
 rintro v4 h;cases h;exact⟨rfl,rfl⟩
theorem JL {a0:Int}{r:Int}(h:BF a0=some r):yC wl 107 [AV.d (D.i a0)] [] (.d (D.i r)) []:=by
 refine oK Tryz.f107 ⟨rfl,?_⟩;unfold BF at h;(conv=>whnf);refine .go ?_;revert h;refine AG (fun v1=>⟨X::X::X::yi a0::yb v1::dd 10 ([]),nn 15 ([])⟩) ?_ ?_
 ·intro k2 h;refine sJ h (fun h=>AB wk h) fun h=>?_;revert h;refine AG (fun v3=>⟨X::X::X::yi a0::yb v3::dd 10 ([]),nn 15 ([])⟩) ?_ ?_
  ·intro k4 h;refine sJ h (fun h=>AB wk h) fun h=>?_;revert h;refine AG (fun v5=>⟨X::X::X::yi a0::yb v5::dd 10 ([]),nn 15 ([])⟩) ?_ ?_
   ·intro k6 h;exact sJ h (fun h=>AB wk h) fun h=>AB wk h
   rintro v5 h;exact AB wk h
  rintro v3 h;exact AB wk h
 rintro v1 h;(conv=>whnf);refine .go ?_;refine sJ h ?_ ?_<;>intro h
 ·cases h;exact⟨rfl,rfl⟩
 (conv=>whnf);refine .go ?_;refine sJ h ?_ ?_<;>intro h
 ·cases h;exact⟨rfl,rfl⟩
 revert h;refine AG (fun v7=>⟨dd 11 (yb v7::X::X::X::[]),nn 15 ([])⟩) ?_ ?_
 ·intro k8 h;refine sJ h (fun h=>AB wk h) fun h=>?_;revert h;refine AG (fun v9=>⟨dd 11 (yb v9::X::X::X::[]),nn 15 ([])⟩) ?_ ?_
  ·intro k10 h;exact sJ h (fun h=>AB wk h) fun h=>AB wk h
  rintro v9 h;exact AB wk h
 rintro v7 h;(conv=>whnf);refine .go ?_;refine sJ h ?_ ?_<;>intro h
 ·cases h;exact⟨rfl,rfl⟩
 cases h;exact⟨rfl,rfl⟩
theorem MA {a0:Int}{r:Bool}(h:CU a0=some r):yC wl 74 [AV.d (D.i a0)] [] (.d (D.b r)) []:=by
 refine oK Tryz.f74 ⟨rfl,?_⟩;unfold CU at h;revert h;refine AG (fun v1=>⟨X::X::yb v1::dd 11 ([]),nn 14 ([])⟩) ?_ ?_
 ·intro k2 h;obtain⟨v3,g4,h⟩:=AA h;refine⟨_,_,some [],JL g4,?_⟩;refine sJ h (fun h=>?_) fun h=>AB wk h;exact sJ h (fun h=>AB wk h) fun h=>AB wk h
 rintro v1 h;cases h;exact⟨rfl,rfl⟩
theorem JQ {a0:JAC}{r:Bool}(h:E3 a0=some r):yC wl 35 [AV.d (JAC.toD a0)] [] (.d (D.b r)) []:=by
 refine oK Tryz.f35 ⟨rfl,?_⟩;unfold E3 at h;refine⟨a0.Other.length,X10 _,?_⟩;revert h;refine AG (fun _=>⟨X::yr 1 0::dd 122 ([]),N::yB (JAC.av a0)::nn 122 ([])⟩) ?_ ?_
 ·intro k1 h;revert h;refine Ag 6 3 JAA.toD rfl (fun i2 _=>⟨X::yr 1 0::dd 4 (AV.d (D.l 3 JAA.toD a0.Other)::yi (a0.Other.length:Int)::yi (i2:Int)::dd 115 ([])),N::yB (JAC.av a0)::nn 122 ([])⟩) ?_ ?_ ?_
  ·exact wk
  ·rintro _ K3 h;(conv=>whnf);refine .go ?_;(conv=>whnf);refine BL DL ?_;exact AB wk h
  rintro next4 i2 x5 _ K3 hii2 hxi2 hwi2 h hK6;(conv=>whnf);refine .go ?_;(conv=>whnf);refine BC (CX hii2) ?_;(conv=>whnf);refine .go ?_;refine⟨BB (f:=JAA.toD) hii2,JAA.toD x5,hxi2,rfl,?_⟩;revert h;refine AG (fun v7=>⟨X::yr 1 0::dd 4 (AV.d (D.l 3 JAA.toD a0.Other)::yi (a0.Other.length:Int)::yi (i2:Int)::dd 44 (yb v7::dd 70 ([]))),N::yB (JAC.av a0)::nn 122 ([])⟩) ?_ ?_
  ·intro k8 h;(conv=>whnf);refine .inl (dO ?_);refine sJ h ?_ ?_<;>intro h
   ·(conv=>whnf);refine cO ?_;exact AB wk h
   refine sJ h ?_ ?_<;>intro h
   ·(conv=>whnf);refine cO ?_;exact AB wk h
   obtain⟨v9,g10,h⟩:=AA h;refine⟨_,_,MA g10,.inl rfl,?_⟩;refine sJ h ?_ ?_<;>intro h
   ·(conv=>whnf);refine cO ?_;exact AB wk h
   refine sJ h ?_ ?_<;>intro h
   ·(conv=>whnf);refine cO ?_;exact AB wk h
   refine⟨x5.Data.length,X10 _,?_⟩;refine sJ h ?_ ?_<;>intro h
   ·(conv=>whnf);refine cO ?_;exact AB wk h
   refine sJ h ?_ ?_<;>intro h
   ·refine⟨_,rfl,?_⟩;obtain⟨v11,g12,h⟩:=AA h;refine⟨Ap (f:=JAA.toD) g12,JAA.toD v11,An (f:=JAA.toD) g12,rfl,?_⟩;(conv=>whnf);refine cO ?_;exact AB wk h
   (conv=>whnf);refine cO ?_;exact AB wk h
  rintro v7 h;(conv=>whnf);refine .go ?_;refine sJ h ?_ ?_<;>intro h
  ·cases h;exact⟨rfl,rfl⟩
  refine⟨_,hwi2,?_⟩;exact hK6 _ _ wk h
 rintro _ h;revert h;refine AG (fun v13=>⟨X::X::yb v13::dd 121 ([]),nn 124 ([])⟩) ?_ ?_
 ·intro k14 h;refine sJ h (fun h=>?_) fun h=>AB wk h;refine sJ h (fun h=>?_) fun h=>AB wk h;obtain⟨v15,g16,h⟩:=AA h;refine⟨_,_,some [],Ip g16,?_⟩;refine sJ h (fun h=>?_) fun h=>AB wk h;obtain⟨v17,g18,h⟩:=AA h;refine⟨_,_,some [],Gk g18,?_⟩;refine sJ h (fun h=>?_) fun h=>AB wk h;refine sJ h (fun h=>?_) fun h=>AB wk h;refine sJ h (fun h=>?_) fun h=>AB wk h;refine sJ h (fun h=>?_) fun h=>AB wk h;refine sJ h (fun h=>?_) fun h=>AB wk h;refine sJ h ?_ ?_<;>intro h
  ·obtain⟨v19,g20,h⟩:=AA h;refine⟨_,_,some [],Gu g20,?_⟩;refine sJ h (fun h=>?_) fun h=>AB wk h;obtain⟨v21,g22,h⟩:=AA h;refine⟨_,_,some [],EY g22,?_⟩;refine sJ h (fun h=>?_) fun h=>AB wk h;refine⟨a0.Other.length,X10 _,?_⟩;exact AB wk h
  refine sJ h (fun h=>?_) fun h=>AB wk h;refine sJ h (fun h=>?_) fun h=>AB wk h;obtain⟨v23,g24,h⟩:=AA h;refine⟨_,_,some [],Gu g24,?_⟩;refine sJ h (fun h=>?_) fun h=>AB wk h;obtain⟨v25,g26,h⟩:=AA h;refine⟨_,_,some [],EY g26,?_⟩;refine sJ h (fun h=>?_) fun h=>AB wk h;refine⟨a0.Other.length,X10 _,?_⟩;exact AB wk h
 rintro v13 h;cases h;exact⟨rfl,rfl⟩
theorem Pq {a0:List JAE}{a1:List JAE}{r:Bool}(h:Dp a0 a1=some r):yC wl 79 [AV.d (D.l 2 JAE.toD a0),AV.d (D.l 2 JAE.toD a1)] [] (.d (D.b r)) []:=by
 refine oK Tryz.f79 ⟨rfl,?_⟩;unfold Dp at h;refine⟨a0.length,X10 _,?_⟩;refine⟨a1.length,X10 _,?_⟩;(conv=>whnf);refine .go ?_;refine sJ h ?_ ?_<;>intro h
 ·cases h;exact⟨rfl,rfl⟩
 refine⟨a0.length,X10 _,?_⟩;revert h;refine AG (fun _=>⟨dd 61 ([]),nn 61 ([])⟩) ?_ ?_
 ·intro k1 h;revert h;refine Ag 14 2 JAE.toD rfl (fun i2 _=>⟨X::y0 a1::dd 12 (y0 a0::yi (a0.length:Int)::yi (i2:Int)::dd 44 ([])),nn 61 ([])⟩) ?_ ?_ ?_
  ·exact wk
  ·rintro _ K3 h;(conv=>whnf);refine .go ?_;(conv=>whnf);refine BL DL ?_;exact AB wk h
  rintro next4 i2 x5 _ K3 hii2 hxi2 hwi2 h hK6;(conv=>whnf);refine .go ?_;(conv=>whnf);refine BC (CX hii2) ?_;revert h;refine AG (fun _=>⟨X::y0 a1::dd 12 (y0 a0::yi (a0.length:Int)::yi (i2:Int)::dd 44 ([])),nn 61 ([])⟩) ?_ ?_
  ·intro k7 h;refine⟨BB (f:=JAE.toD) hii2,JAE.toD x5,hxi2,rfl,?_⟩;revert h;refine AG (fun v8=>⟨X::y0 a1::X::X::X::yi (i2:Int)::yr 6 0::dd 7 (y0 a0::yi (a0.length:Int)::yi (i2:Int)::dd 23 (yb v8::dd 20 ([]))),nn 6 (yB (JAE.av x5)::nn 54 ([]))⟩) ?_ ?_
   ·intro k9 h;(conv=>whnf);refine .inl (dO ?_);obtain⟨v10,g11,h⟩:=AA h;refine⟨Ap (f:=JAE.toD) g11,JAE.toD v10,An (f:=JAE.toD) g11,rfl,?_⟩;refine sJ h ?_ ?_<;>intro h
    ·(conv=>whnf);refine cO ?_;exact AB wk h
    refine⟨x5.ASNs.length,X10 _,?_⟩;obtain⟨v12,g13,h⟩:=AA h;refine⟨Ap (f:=JAE.toD) g13,JAE.toD v12,An (f:=JAE.toD) g13,rfl,?_⟩;refine⟨v12.ASNs.length,X10 _,?_⟩;(conv=>whnf);refine cO ?_;exact AB wk h
   rintro v8 h;(conv=>whnf);refine .go ?_;refine sJ h ?_ ?_<;>intro h
   ·cases h;exact⟨rfl,rfl⟩
   refine⟨x5.ASNs.length,X10 _,?_⟩;revert h;refine AG (fun _=>⟨X::y0 a1::dd 12 (y0 a0::yi (a0.length:Int)::yi (i2:Int)::dd 44 ([])),nn 61 ([])⟩) ?_ ?_
   ·intro k14 h;revert h;refine Ag 42 1 D.i rfl (fun i15 _=>⟨X::y0 a1::X::X::X::yi (i2:Int)::dd 8 (y0 a0::yi (a0.length:Int)::yi (i2:Int)::dd 25 (AV.d (D.l 1 D.i x5.ASNs)::yi (x5.ASNs.length:Int)::yi (i15:Int)::dd 16 ([]))),nn 61 ([])⟩) ?_ ?_ ?_
    ·exact wk
    ·rintro _ K16 h;(conv=>whnf);refine .go ?_;(conv=>whnf);refine BL DL ?_;exact AB wk h
    rintro next17 i15 x18 _ K16 hii15 hxi15 hwi15 h hK19;(conv=>whnf);refine .go ?_;(conv=>whnf);refine BC (CX hii15) ?_;(conv=>whnf);refine .go ?_;refine⟨BB (f:=D.i) hii15,D.i x18,hxi15,rfl,?_⟩;obtain⟨v20,g21,h⟩:=AA h;refine⟨Ap (f:=JAE.toD) g21,JAE.toD v20,An (f:=JAE.toD) g21,rfl,?_⟩;obtain⟨v22,g23,h⟩:=AA h;refine⟨Ap (f:=D.i) g23,D.i v22,An (f:=D.i) g23,rfl,?_⟩;(conv=>whnf);refine .go ?_;refine sJ h ?_ ?_<;>intro h
    ·cases h;exact⟨rfl,rfl⟩
    refine⟨_,hwi15,?_⟩;exact hK19 _ _ wk h
   rintro _ h;exact AB wk h
  rintro _ h;refine⟨_,hwi2,?_⟩;exact hK6 _ _ wk h
 rintro _ h;cases h;exact⟨rfl,rfl⟩
theorem Pz {a0:List JAB}{a1:List JAB}{r:Bool}(h:Dl a0 a1=some r):yC wl 80 [AV.d (D.l 2 JAB.toD a0),AV.d (D.l 2 JAB.toD a1)] [] (.d (D.b r)) []:=by
 refine oK Tryz.f80 ⟨rfl,?_⟩;unfold Dl at h;refine⟨a0.length,X10 _,?_⟩;refine⟨a1.length,X10 _,?_⟩;(conv=>whnf);refine .go ?_;refine sJ h ?_ ?_<;>intro h
 ·cases h;exact⟨rfl,rfl⟩
 refine⟨a0.length,X10 _,?_⟩;revert h;refine AG (fun _=>⟨dd 26 ([]),nn 26 ([])⟩) ?_ ?_
 ·intro k1 h;revert h;refine Ag 12 2 JAB.toD rfl (fun i2 _=>⟨X::y1 a1::dd 10 (y1 a0::yi (a0.length:Int)::yi (i2:Int)::dd 11 ([])),nn 26 ([])⟩) ?_ ?_ ?_
  ·exact wk
  ·rintro _ K3 h;(conv=>whnf);refine .go ?_;(conv=>whnf);refine BL DL ?_;exact AB wk h
  rintro next4 i2 x5 _ K3 hii2 hxi2 hwi2 h hK6;(conv=>whnf);refine .go ?_;(conv=>whnf);refine BC (CX hii2) ?_;(conv=>whnf);refine .go ?_;refine⟨BB (f:=JAB.toD) hii2,JAB.toD x5,hxi2,rfl,?_⟩;(conv=>whnf);refine .inl (dO ?_);obtain⟨v7,g8,h⟩:=AA h;refine⟨Ap (f:=JAB.toD) g8,JAB.toD v7,An (f:=JAB.toD) g8,rfl,?_⟩;(conv=>whnf);refine cO ?_;(conv=>whnf);refine .go ?_;refine sJ h ?_ ?_<;>intro h
  ·cases h;exact⟨rfl,rfl⟩
  refine⟨_,hwi2,?_⟩;exact hK6 _ _ wk h
 rintro _ h;cases h;exact⟨rfl,rfl⟩
theorem J1 {a0:List JAF}{a1:List JAF}{r:Bool}(h:BP a0 a1=some r):yC wl 81 [AV.d (D.l 3 JAF.toD a0),AV.d (D.l 3 JAF.toD a1)] [] (.d (D.b r)) []:=by
 refine oK Tryz.f81 ⟨rfl,?_⟩;unfold BP at h;refine⟨a0.length,X10 _,?_⟩;refine⟨a1.length,X10 _,?_⟩;(conv=>whnf);refine .go ?_;refine sJ h ?_ ?_<;>intro h
 ·cases h;exact⟨rfl,rfl⟩
 refine⟨a0.length,X10 _,?_⟩;revert h;refine AG (fun _=>⟨dd 26 ([]),nn 26 ([])⟩) ?_ ?_
 ·intro k1 h;revert h;refine Ag 12 3 JAF.toD rfl (fun i2 _=>⟨X::y2 a1::dd 10 (y2 a0::yi (a0.length:Int)::yi (i2:Int)::dd 11 ([])),nn 26 ([])⟩) ?_ ?_ ?_
  ·exact wk
  ·rintro _ K3 h;(conv=>whnf);refine .go ?_;(conv=>whnf);refine BL DL ?_;exact AB wk h
  rintro next4 i2 x5 _ K3 hii2 hxi2 hwi2 h hK6;(conv=>whnf);refine .go ?_;(conv=>whnf);refine BC (CX hii2) ?_;(conv=>whnf);refine .go ?_;refine⟨BB (f:=JAF.toD) hii2,JAF.toD x5,hxi2,rfl,?_⟩;(conv=>whnf);refine .inl (dO ?_);obtain⟨v7,g8,h⟩:=AA h;refine⟨Ap (f:=JAF.toD) g8,JAF.toD v7,An (f:=JAF.toD) g8,rfl,?_⟩;(conv=>whnf);refine cO ?_;(conv=>whnf);refine .go ?_;refine sJ h ?_ ?_<;>intro h
  ·cases h;exact⟨rfl,rfl⟩
  refine⟨_,hwi2,?_⟩;exact hK6 _ _ wk h
 rintro _ h;cases h;exact⟨rfl,rfl⟩
theorem LH {a0:List JAA}{a1:List JAA}{r:Bool}(h:Bc a0 a1=some r):yC wl 82 [AV.d (D.l 3 JAA.toD a0),AV.d (D.l 3 JAA.toD a1)] [] (.d (D.b r)) []:=by
 refine oK Tryz.f82 ⟨rfl,?_⟩;unfold Bc at h;refine⟨a0.length,X10 _,?_⟩;refine⟨a1.length,X10 _,?_⟩;(conv=>whnf);refine .go ?_;refine sJ h ?_ ?_<;>intro h
 ·cases h;exact⟨rfl,rfl⟩
 refine⟨a0.length,X10 _,?_⟩;revert h;refine AG (fun _=>⟨dd 50 ([]),nn 50 ([])⟩) ?_ ?_
 ·intro k1 h;revert h;refine Ag 12 3 JAA.toD rfl (fun i2 _=>⟨X::y4 a1::dd 10 (y4 a0::yi (a0.length:Int)::yi (i2:Int)::dd 35 ([])),nn 50 ([])⟩) ?_ ?_ ?_
  ·exact wk
  ·rintro _ K3 h;(conv=>whnf);refine .go ?_;(conv=>whnf);refine BL DL ?_;exact AB wk h
  rintro next4 i2 x5 _ K3 hii2 hxi2 hwi2 h hK6;(conv=>whnf);refine .go ?_;(conv=>whnf);refine BC (CX hii2) ?_;(conv=>whnf);refine .go ?_;refine⟨BB (f:=JAA.toD) hii2,JAA.toD x5,hxi2,rfl,?_⟩;revert h;refine AG (fun v7=>⟨X::y4 a1::dd 10 (y4 a0::yi (a0.length:Int)::yi (i2:Int)::dd 33 (yb v7::X::[])),nn 50 ([])⟩) ?_ ?_
  ·intro k8 h;(conv=>whnf);refine .inl (dO ?_);obtain⟨v9,g10,h⟩:=AA h;refine⟨Ap (f:=JAA.toD) g10,JAA.toD v9,An (f:=JAA.toD) g10,rfl,?_⟩;refine sJ h ?_ ?_<;>intro h
   ·(conv=>whnf);refine cO ?_;exact AB wk h
   obtain⟨v11,g12,h⟩:=AA h;refine⟨Ap (f:=JAA.toD) g12,JAA.toD v11,An (f:=JAA.toD) g12,rfl,?_⟩;refine sJ h ?_ ?_<;>intro h
   ·(conv=>whnf);refine cO ?_;exact AB wk h
   refine⟨x5.Data,rfl,?_⟩;obtain⟨v13,g14,h⟩:=AA h;refine⟨Ap (f:=JAA.toD) g14,JAA.toD v13,An (f:=JAA.toD) g14,rfl,?_⟩;refine⟨v13.Data,rfl,?_⟩;(conv=>whnf);refine cO ?_;exact AB wk h
  rintro v7 h;(conv=>whnf);refine .go ?_;refine sJ h ?_ ?_<;>intro h
  ·cases h;exact⟨rfl,rfl⟩
  refine⟨_,hwi2,?_⟩;exact hK6 _ _ wk h
 rintro _ h;cases h;exact⟨rfl,rfl⟩
theorem Px {a0:JAC}{a1:JAC}{r:Bool}(h:Cb a0 a1=some r):yC wl 36 [AV.d (JAC.toD a0),AV.d (JAC.toD a1)] [] (.d (D.b r)) []:=by
 refine oK Tryz.f36 ⟨rfl,?_⟩;unfold Cb at h;revert h;refine AG (fun v1=>⟨dd 4 (yb v1::dd 61 ([])),nn 66 ([])⟩) ?_ ?_
 ·intro k2 h;refine sJ h (fun h=>?_) fun h=>AB wk h;obtain⟨v3,g4,h⟩:=AA h;refine⟨_,_,some [],Pq g4,?_⟩;refine sJ h (fun h=>?_) fun h=>AB wk h;refine sJ h (fun h=>?_) fun h=>AB wk h;refine sJ h (fun h=>?_) fun h=>AB wk h;refine sJ h (fun h=>?_) fun h=>AB wk h;refine sJ h (fun h=>?_) fun h=>AB wk h;obtain⟨v5,g6,h⟩:=AA h;refine⟨_,_,some [],Pz g6,?_⟩;refine sJ h (fun h=>?_) fun h=>AB wk h;obtain⟨v7,g8,h⟩:=AA h;refine⟨_,_,some [],J1 g8,?_⟩;refine sJ h (fun h=>?_) fun h=>AB wk h;obtain⟨v9,g10,h⟩:=AA h;refine⟨_,_,some [],LH g10,?_⟩;exact AB wk h
 rintro v1 h;cases h;exact⟨rfl,rfl⟩
theorem B1 {a0:Int}{a1:Int}{r:(List UInt8)}(h:AT a0 a1=some r):yC wl 106 [AV.d (D.i a0),AV.d (D.i a1)] [] (.d (D.l 1 D.u8 r)) []:=by
 refine oK Tryz.f106 ⟨rfl,?_⟩;unfold AT at h;refine⟨_,rfl,?_⟩;revert h;refine AG (fun v1=>⟨dd 5 (yO 5 D.u8 v1::dd 17 ([])),nn 5 (yR 5 1 D.u8 v1::nn 17 ([]))⟩) ?_ ?_
 ·intro k2 h;revert h;refine Au (fun (v3,v4)=>⟨yi a0::dd 4 (yO 5 D.u8 v4::yi v3::dd 16 ([])),nn 5 (yR 5 1 D.u8 v4::nn 17 ([]))⟩) ?_ ?_
  ·exact wk
  rintro next5 ⟨v3,v4⟩ K6 h hK7;(conv=>whnf);refine .go ?_;refine sJ h (fun h=>?_) fun h=>AB wk h;(conv=>whnf);refine .go ?_;refine⟨_,Ae _,?_⟩;refine⟨_,Ae _,?_⟩;refine⟨Int.natCast_nonneg _,_,rfl,?_⟩;refine⟨_,Af _,?_⟩;refine⟨rfl,?_⟩;obtain⟨v8,g9,h⟩:=AA h;refine⟨rfl,AZ (f:=D.u8) (g:=D.u8) g9,_,Aa (f:=D.u8) g9,?_⟩;refine⟨_,rfl,?_⟩;exact hK7 _ _ wk h
 rintro v1 h;(conv=>whnf);refine .inl ?_;(conv=>whnf);refine .inl ?_;refine⟨rfl,?_⟩;cases h;exact⟨rfl,rfl⟩
theorem O9 {a0:JAC}{r:(List JAA)×Int}(h:Et a0=some r):yC wl 55 [AV.d (JAC.toD a0)] [] (.tup [.d (D.l 3 JAA.toD r.1),.d (D.i r.2)]) []:=by
 refine oK Tryz.f55 ⟨rfl,?_⟩;unfold Et at h;obtain⟨v1,g2,h⟩:=AA h;refine⟨_,_,some [],JQ g2,?_⟩;(conv=>whnf);refine .go ?_;refine sJ h ?_ ?_<;>intro h
 ·cases h;exact⟨rfl,rfl⟩
 revert h;refine AG (fun v3=>⟨X::yr 1 0::X::X::AV.own 4 (List.map JAA.toD []).length::AV.mp 24::dd 189 ([]),N::yB (JAC.av a0)::N::N::some (OB.row 88 3 (List.map JAA.toD []) .no)::nn 19 (some (OB.map 3 44 (Bz D.i (D.l 1 D.u8) v3))::nn 170 ([]))⟩) ?_ ?_
 ·intro k4 h;refine sJ h (fun h=>?_) fun h=>AB wk h;refine⟨_,Af _,?_⟩;(conv=>whnf);refine .inl ?_;refine⟨rfl,?_⟩;refine⟨_,E5 (ek:=D.i) (ev:=(D.l 1 D.u8)) (l:=[]) (k:=1) (v:=([(Ah a0.Origin)]:List UInt8)) Bd,?_⟩;exact AB wk h
 rintro v3 h;revert h;refine AG (fun v5=>⟨X::yr 1 0::X::X::AV.own 4 (List.map JAA.toD []).length::AV.mp 24::dd 35 (yb v5::dd 153 ([])),N::yB (JAC.av a0)::N::N::some (OB.row 88 3 (List.map JAA.toD []) .no)::nn 19 (some (OB.map 3 44 (Bz D.i (D.l 1 D.u8) v3))::nn 170 ([]))⟩) ?_ ?_
 ·intro k6 h;refine sJ h (fun h=>AB wk h) fun h=>?_;refine⟨a0.Path.length,X10 _,?_⟩;exact AB wk h
 rintro v5 h;revert h;refine AG (fun v7=>⟨X::yr 1 0::X::X::AV.own 4 (List.map JAA.toD []).length::AV.mp 24::dd 189 ([]),N::yB (JAC.av a0)::N::N::some (OB.row 88 3 (List.map JAA.toD []) .no)::nn 19 (some (OB.map 3 44 (Bz D.i (D.l 1 D.u8) v7))::nn 170 ([]))⟩) ?_ ?_
 ·intro k8 h;refine sJ h (fun h=>?_) fun h=>AB wk h;refine⟨a0.Path.length,X10 _,?_⟩;revert h;refine AG (fun v9=>⟨X::yr 1 0::X::X::AV.own 4 (List.map JAA.toD []).length::AV.mp 24::yO 42 D.u8 v9::dd 188 ([]),N::yB (JAC.av a0)::N::N::some (OB.row 88 3 (List.map JAA.toD []) .no)::nn 19 (some (OB.map 3 44 (Bz D.i (D.l 1 D.u8) v3))::nn 17 (yR 5 1 D.u8 v9::nn 152 ([])))⟩) ?_ ?_
  ·intro k10 h;revert h;refine Ag 44 2 JAE.toD rfl (fun i11 v12=>⟨X::yr 1 0::X::X::AV.own 4 (List.map JAA.toD []).length::AV.mp 24::yO 42 D.u8 v12::dd 37 (AV.d (D.l 2 JAE.toD a0.Path)::yi (a0.Path.length:Int)::yi (i11:Int)::dd 148 ([])),N::yB (JAC.av a0)::N::N::some (OB.row 88 3 (List.map JAA.toD []) .no)::nn 19 (some (OB.map 3 44 (Bz D.i (D.l 1 D.u8) v3))::nn 17 (yR 5 1 D.u8 v12::nn 152 ([])))⟩) ?_ ?_ ?_
   ·exact wk
   ·rintro v12 K13 h;(conv=>whnf);refine .go ?_;(conv=>whnf);refine BL DL ?_;exact AB wk h
   rintro next14 i11 x15 v12 K13 hii11 hxi11 hwi11 h hK16;(conv=>whnf);refine .go ?_;(conv=>whnf);refine BC (CX hii11) ?_;revert h;refine AG (fun v17=>⟨X::yr 1 0::X::X::AV.own 4 (List.map JAA.toD []).length::AV.mp 24::yO 42 D.u8 v17::dd 37 (AV.d (D.l 2 JAE.toD a0.Path)::yi (a0.Path.length:Int)::yi (i11:Int)::dd 148 ([])),N::yB (JAC.av a0)::N::N::some (OB.row 88 3 (List.map JAA.toD []) .no)::nn 19 (some (OB.map 3 44 (Bz D.i (D.l 1 D.u8) v3))::nn 17 (yR 5 1 D.u8 v17::nn 152 ([])))⟩) ?_ ?_
   ·intro k18 h;refine⟨BB (f:=JAE.toD) hii11,JAE.toD x15,hxi11,rfl,?_⟩;revert h;refine AG (fun v19=>⟨X::yr 1 0::X::X::AV.own 4 (List.map JAA.toD []).length::AV.mp 24::yO 42 D.u8 v12::X::yr 8 0::yv v19::dd 34 (AV.d (D.l 2 JAE.toD a0.Path)::yi (a0.Path.length:Int)::yi (i11:Int)::dd 148 ([])),N::yB (JAC.av a0)::N::N::some (OB.row 88 3 (List.map JAA.toD []) .no)::N::N::N::yB (JAE.av x15)::nn 15 (some (OB.map 3 44 (Bz D.i (D.l 1 D.u8) v3))::nn 17 (yR 5 1 D.u8 v12::nn 152 ([])))⟩) ?_ ?_
    ·intro k20 h;exact sJ h (fun h=>AB wk h) fun h=>AB wk h
    rintro v19 h;refine⟨x15.ASNs.length,X10 _,?_⟩;refine⟨_,Af _,?_⟩;refine⟨rfl,?_⟩;obtain⟨v21,g22,h⟩:=AA h;refine⟨rfl,AZ (f:=D.u8) (g:=D.u8) g22,_,Aa (f:=D.u8) g22,?_⟩;refine⟨x15.ASNs.length,X10 _,?_⟩;revert h;refine AG (fun v23=>⟨X::yr 1 0::X::X::AV.own 4 (List.map JAA.toD []).length::AV.mp 24::yO 42 D.u8 v23::dd 37 (AV.d (D.l 2 JAE.toD a0.Path)::yi (a0.Path.length:Int)::yi (i11:Int)::dd 148 ([])),N::yB (JAC.av a0)::N::N::some (OB.row 88 3 (List.map JAA.toD []) .no)::nn 19 (some (OB.map 3 44 (Bz D.i (D.l 1 D.u8) v3))::nn 17 (yR 5 1 D.u8 v23::nn 152 ([])))⟩) ?_ ?_
    ·intro k24 h;revert h;refine Ag 61 1 D.i rfl (fun i25 v26=>⟨X::yr 1 0::X::X::AV.own 4 (List.map JAA.toD []).length::AV.mp 24::yO 42 D.u8 v26::dd 37 (AV.d (D.l 2 JAE.toD a0.Path)::yi (a0.Path.length:Int)::yi (i11:Int)::dd 14 (AV.d (D.l 1 D.i x15.ASNs)::yi (x15.ASNs.length:Int)::yi (i25:Int)::dd 131 ([]))),N::yB (JAC.av a0)::N::N::some (OB.row 88 3 (List.map JAA.toD []) .no)::nn 19 (some (OB.map 3 44 (Bz D.i (D.l 1 D.u8) v3))::nn 17 (yR 5 1 D.u8 v26::nn 152 ([])))⟩) ?_ ?_ ?_
     ·exact wk
     ·rintro v26 K27 h;(conv=>whnf);refine .go ?_;(conv=>whnf);refine BL DL ?_;exact AB wk h
     rintro next28 i25 x29 v26 K27 hii25 hxi25 hwi25 h hK30;(conv=>whnf);refine .go ?_;(conv=>whnf);refine BC (CX hii25) ?_;(conv=>whnf);refine .go ?_;refine⟨BB (f:=D.i) hii25,D.i x29,hxi25,rfl,?_⟩;obtain⟨v31,g32,h⟩:=AA h;refine⟨_,_,some [],B1 g32,?_⟩;obtain⟨v33,g34,h⟩:=AA h;refine⟨rfl,AZ (f:=D.u8) (g:=D.u8) g34,_,Aa (f:=D.u8) g34,?_⟩;refine⟨_,hwi25,?_⟩;exact hK30 _ _ wk h
    rintro v23 h;exact AB wk h
   rintro v17 h;refine⟨_,hwi11,?_⟩;exact hK16 _ _ wk h
  rintro v9 h;(conv=>whnf);refine .inl ?_;refine⟨rfl,?_⟩;refine⟨_,E5 (ek:=D.i) (ev:=(D.l 1 D.u8)) (l:=v3) (k:=2) (v:=v9) Bd,?_⟩;exact AB wk h
 rintro v7 h;revert h;refine AG (fun v35=>⟨X::yr 1 0::X::X::AV.own 4 (List.map JAA.toD []).length::AV.mp 24::dd 78 (yb v35::dd 110 ([])),N::yB (JAC.av a0)::N::N::some (OB.row 88 3 (List.map JAA.toD []) .no)::nn 19 (some (OB.map 3 44 (Bz D.i (D.l 1 D.u8) v7))::nn 170 ([]))⟩) ?_ ?_
 ·intro k36 h;exact sJ h (fun h=>AB wk h) fun h=>AB wk h
 rintro v35 h;revert h;refine AG (fun v37=>⟨X::yr 1 0::X::X::AV.own 4 (List.map JAA.toD []).length::AV.mp 24::dd 189 ([]),N::yB (JAC.av a0)::N::N::some (OB.row 88 3 (List.map JAA.toD []) .no)::nn 19 (some (OB.map 3 44 (Bz D.i (D.l 1 D.u8) v37))::nn 170 ([]))⟩) ?_ ?_
 ·intro k38 h;refine sJ h (fun h=>?_) fun h=>AB wk h;obtain⟨v39,g40,h⟩:=AA h;refine⟨_,_,some [88],E7 g40,?_⟩;(conv=>whnf);refine .inl ?_;refine⟨rfl,?_⟩;refine⟨_,E5 (ek:=D.i) (ev:=(D.l 1 D.u8)) (l:=v7) (k:=3) (v:=v39) Bd,?_⟩;exact AB wk h
 rintro v37 h;revert h;refine AG (fun v41=>⟨X::yr 1 0::X::X::AV.own 4 (List.map JAA.toD []).length::AV.mp 24::dd 189 ([]),N::yB (JAC.av a0)::N::N::some (OB.row 88 3 (List.map JAA.toD []) .no)::nn 19 (some (OB.map 3 44 (Bz D.i (D.l 1 D.u8) v41))::nn 170 ([]))⟩) ?_ ?_
 ·intro k42 h;refine sJ h (fun h=>?_) fun h=>AB wk h;obtain⟨v43,g44,h⟩:=AA h;refine⟨_,_,some [],B1 g44,?_⟩;refine⟨_,E5 (ek:=D.i) (ev:=(D.l 1 D.u8)) (l:=v37) (k:=4) (v:=v43) Bd,?_⟩;exact AB wk h
 rintro v41 h;revert h;refine AG (fun v45=>⟨X::yr 1 0::X::X::AV.own 4 (List.map JAA.toD []).length::AV.mp 24::dd 189 ([]),N::yB (JAC.av a0)::N::N::some (OB.row 88 3 (List.map JAA.toD []) .no)::nn 19 (some (OB.map 3 44 (Bz D.i (D.l 1 D.u8) v45))::nn 170 ([]))⟩) ?_ ?_
 ·intro k46 h;refine sJ h (fun h=>?_) fun h=>AB wk h;obtain⟨v47,g48,h⟩:=AA h;refine⟨_,_,some [],B1 g48,?_⟩;refine⟨_,E5 (ek:=D.i) (ev:=(D.l 1 D.u8)) (l:=v41) (k:=5) (v:=v47) Bd,?_⟩;exact AB wk h
 rintro v45 h;refine⟨a0.Communities.length,X10 _,?_⟩;revert h;refine AG (fun (v49,v50)=>⟨X::yr 1 0::X::X::AV.own 4 (List.map JAA.toD []).length::AV.mp 24::dd 189 ([]),N::yB (JAC.av a0)::N::N::some (OB.row 88 3 (List.map JAA.toD []) .no)::nn 19 (some (OB.amap 3 44 (Bz D.i (D.l 1 D.u8) v49) (.int .i64 8) 112 (List.map D.u8 v50).length)::nn 87 (some (OB.row 5 1 (List.map D.u8 v50) .yes)::nn 82 ([])))⟩) ?_ ?_
 ·intro k51 h;obtain⟨_,g52,h⟩:=AA h;revert h;refine Ag 104 2 JAB.toD rfl (fun i53 (v54,v55)=>⟨X::yr 1 0::X::X::AV.own 4 (List.map JAA.toD []).length::AV.mp 24::dd 98 (AV.d (D.l 2 JAB.toD a0.Communities)::yi (a0.Communities.length:Int)::yi (i53:Int)::dd 88 ([])),N::yB (JAC.av a0)::N::N::some (OB.row 88 3 (List.map JAA.toD []) .no)::nn 19 (some (OB.amap 3 44 (Bz D.i (D.l 1 D.u8) v54) (.int .i64 8) 112 (List.map D.u8 v55).length)::nn 87 (some (OB.row 5 1 (List.map D.u8 v55) .yes)::nn 82 ([])))⟩) ?_ ?_ ?_
  ·exact (.mk rfl (And.intro (.refl _) (And.intro (.refl _) (And.intro (.refl _) (And.intro (.refl _) (And.intro (.refl _) (And.intro (.refl _) True.intro)))))) (And.intro ⟨_,rfl,And.intro ⟨rfl,.refl _⟩ (And.intro ⟨rfl,.refl _⟩ (And.intro ⟨rfl,.refl _⟩ (And.intro ⟨rfl,.refl _⟩ (And.intro ⟨rfl,.refl _⟩ (And.intro ⟨rfl,.refl _⟩ (And.intro ⟨rfl,.refl _⟩ (And.intro ⟨rfl,.refl _⟩ (And.intro ⟨rfl,.refl _⟩ (And.intro ⟨rfl,.refl _⟩ (And.intro ⟨rfl,.refl _⟩ (True.intro)))))))))))⟩ (And.intro (.inl ⟨_,rfl,⟨id,trivial⟩⟩) (And.intro (.inr ⟨.inl rfl,⟨_,M7 Bd g52⟩,rfl,rfl,_,_,_,rfl⟩) (And.intro (.inr ⟨rfl,rfl,by decide⟩) (True.intro))))) rfl)
  ·rintro⟨v54,v55⟩ K56 h;(conv=>whnf);refine .go ?_;(conv=>whnf);refine BL DL ?_;exact AB wk h
  rintro next57 i53 x58 ⟨v54,v55⟩ K56 hii53 hxi53 hwi53 h hK59;(conv=>whnf);refine .go ?_;(conv=>whnf);refine BC (CX hii53) ?_;(conv=>whnf);refine .go ?_;refine⟨BB (f:=JAB.toD) hii53,JAB.toD x58,hxi53,rfl,?_⟩;(conv=>whnf);refine .inl (dO ?_);(conv=>whnf);refine .inr ⟨rfl,rfl,⟨_,B8 (ek:=D.i) (ev:=(D.l 1 D.u8)) (l:=v54) (k:=8) Bd⟩,rfl,?_⟩;obtain⟨v60,g61,h⟩:=AA h;refine⟨_,_,B1 g61,.inl rfl,?_⟩;obtain⟨v62,g63,h⟩:=AA h;refine⟨rfl,AZ (f:=D.u8) (g:=D.u8) g63,_,Aa (f:=D.u8) g63,?_⟩;obtain⟨v64,g65,h⟩:=AA h;refine⟨_,_,B1 g65,.inl rfl,?_⟩;obtain⟨v66,g67,h⟩:=AA h;refine⟨rfl,AZ (f:=D.u8) (g:=D.u8) g67,_,Aa (f:=D.u8) g67,?_⟩;(conv=>whnf);refine .inr ?_;refine⟨rfl,?_⟩;refine⟨_,E5 (ek:=D.i) (ev:=(D.l 1 D.u8)) (l:=v54) (k:=8) (v:=v66) Bd,?_⟩;(conv=>whnf);refine cO ?_;refine⟨_,hwi53,?_⟩;exact hK59 _ _ wk h
 rintro⟨v49,v50⟩ h;refine⟨a0.JAF.length,X10 _,?_⟩;revert h;refine AG (fun (v68,v69)=>⟨X::yr 1 0::X::X::AV.own 4 (List.map JAA.toD []).length::AV.mp 24::dd 189 ([]),N::yB (JAC.av a0)::N::N::some (OB.row 88 3 (List.map JAA.toD []) .no)::nn 19 (some (OB.amap 3 44 (Bz D.i (D.l 1 D.u8) v68) (.int .i64 32) 131 (List.map D.u8 v69).length)::nn 106 (some (OB.row 5 1 (List.map D.u8 v69) .yes)::nn 63 ([])))⟩) ?_ ?_
 ·intro k70 h;obtain⟨_,g71,h⟩:=AA h;revert h;refine Ag 123 3 JAF.toD rfl (fun i72 (v73,v74)=>⟨X::yr 1 0::X::X::AV.own 4 (List.map JAA.toD []).length::AV.mp 24::dd 117 (AV.d (D.l 3 JAF.toD a0.JAF)::yi (a0.JAF.length:Int)::yi (i72:Int)::dd 69 ([])),N::yB (JAC.av a0)::N::N::some (OB.row 88 3 (List.map JAA.toD []) .no)::nn 19 (some (OB.amap 3 44 (Bz D.i (D.l 1 D.u8) v73) (.int .i64 32) 131 (List.map D.u8 v74).length)::nn 106 (some (OB.row 5 1 (List.map D.u8 v74) .yes)::nn 63 ([])))⟩) ?_ ?_ ?_
  ·exact (.mk rfl (And.intro (.refl _) (And.intro (.refl _) (And.intro (.refl _) (And.intro (.refl _) (And.intro (.refl _) (And.intro (.refl _) True.intro)))))) (And.intro ⟨_,rfl,And.intro ⟨rfl,.refl _⟩ (And.intro ⟨rfl,.refl _⟩ (And.intro ⟨rfl,.refl _⟩ (And.intro ⟨rfl,.refl _⟩ (And.intro ⟨rfl,.refl _⟩ (And.intro ⟨rfl,.refl _⟩ (And.intro ⟨rfl,.refl _⟩ (And.intro ⟨rfl,.refl _⟩ (And.intro ⟨rfl,.refl _⟩ (And.intro ⟨rfl,.refl _⟩ (And.intro ⟨rfl,.refl _⟩ (True.intro)))))))))))⟩ (And.intro (.inl ⟨_,rfl,⟨id,trivial⟩⟩) (And.intro (.inr ⟨.inr ⟨_,_,_,rfl⟩,⟨_,M7 Bd g71⟩,rfl,rfl,_,_,_,rfl⟩) (And.intro (.inr ⟨rfl,rfl,by decide⟩) (True.intro))))) rfl)
  ·rintro⟨v73,v74⟩ K75 h;(conv=>whnf);refine .go ?_;(conv=>whnf);refine BL DL ?_;exact AB wk h
  rintro next76 i72 x77 ⟨v73,v74⟩ K75 hii72 hxi72 hwi72 h hK78;(conv=>whnf);refine .go ?_;(conv=>whnf);refine BC (CX hii72) ?_;(conv=>whnf);refine .go ?_;refine⟨BB (f:=JAF.toD) hii72,JAF.toD x77,hxi72,rfl,?_⟩;(conv=>whnf);refine .inl (dO ?_);(conv=>whnf);refine .inr ⟨rfl,rfl,⟨_,B8 (ek:=D.i) (ev:=(D.l 1 D.u8)) (l:=v73) (k:=32) Bd⟩,rfl,?_⟩;obtain⟨v79,g80,h⟩:=AA h;refine⟨_,_,B1 g80,.inl rfl,?_⟩;obtain⟨v81,g82,h⟩:=AA h;refine⟨rfl,AZ (f:=D.u8) (g:=D.u8) g82,_,Aa (f:=D.u8) g82,?_⟩;obtain⟨v83,g84,h⟩:=AA h;refine⟨_,_,B1 g84,.inl rfl,?_⟩;obtain⟨v85,g86,h⟩:=AA h;refine⟨rfl,AZ (f:=D.u8) (g:=D.u8) g86,_,Aa (f:=D.u8) g86,?_⟩;obtain⟨v87,g88,h⟩:=AA h;refine⟨_,_,B1 g88,.inl rfl,?_⟩;obtain⟨v89,g90,h⟩:=AA h;refine⟨rfl,AZ (f:=D.u8) (g:=D.u8) g90,_,Aa (f:=D.u8) g90,?_⟩;(conv=>whnf);refine .inr ?_;refine⟨rfl,?_⟩;refine⟨_,E5 (ek:=D.i) (ev:=(D.l 1 D.u8)) (l:=v73) (k:=32) (v:=v89) Bd,?_⟩;(conv=>whnf);refine cO ?_;refine⟨_,hwi72,?_⟩;exact hK78 _ _ wk h
 rintro⟨v68,v69⟩ h;revert h;refine AG (fun v91=>⟨X::yr 1 0::X::X::AV.own 4 (List.map JAA.toD []).length::AV.mp 24::dd 189 ([]),N::yB (JAC.av a0)::N::N::some (OB.row 88 3 (List.map JAA.toD []) .no)::nn 19 (some (OB.map 3 44 (Bz D.i (D.l 1 D.u8) v91))::nn 170 ([]))⟩) ?_ ?_
 ·intro k92 h;refine sJ h (fun h=>?_) fun h=>AB wk h;obtain⟨v93,g94,h⟩:=AA h;refine⟨_,_,some [],B1 g94,?_⟩;refine⟨_,E5 (ek:=D.i) (ev:=(D.l 1 D.u8)) (l:=v68) (k:=35) (v:=v93) Bd,?_⟩;exact AB wk h
 rintro v91 h;revert h;refine AG (fun v95=>⟨dd 4 (yO 4 JAA.toD v95::dd 190 ([])),nn 4 (yR 88 3 JAA.toD v95::nn 190 ([]))⟩) ?_ ?_
 ·intro k96 h;revert h;refine Au (fun (v97,v98)=>⟨X::yr 1 0::X::X::yO 4 JAA.toD v98::AV.mp 24::dd 146 (yi v97::dd 42 ([])),N::yB (JAC.av a0)::N::N::yR 88 3 JAA.toD v98::nn 19 (some (OB.map 3 44 (Bz D.i (D.l 1 D.u8) v91))::nn 170 ([]))⟩) ?_ ?_
  ·exact wk
  rintro next99 ⟨v97,v98⟩ K100 h hK101;(conv=>whnf);refine .go ?_;refine sJ h (fun h=>?_) fun h=>AB wk h;revert h;refine AG (fun v102=>⟨X::yr 1 0::X::X::yO 4 JAA.toD v102::AV.mp 24::dd 146 (yi v97::dd 42 ([])),N::yB (JAC.av a0)::N::N::yR 88 3 JAA.toD v102::nn 19 (some (OB.map 3 44 (Bz D.i (D.l 1 D.u8) v91))::nn 170 ([]))⟩) ?_ ?_
  ·intro k103 h;obtain⟨v104,g105,h⟩:=AA h;obtain⟨v106,g107,h⟩:=AA h;refine⟨_,B8 (ek:=D.i) (ev:=(D.l 1 D.u8)) (l:=v91) (k:=v97) Bd,(D.l 1 D.u8) v104,FH (z:=[]) rfl g105,v106,X0 g107,?_⟩;revert h;refine AG (fun v108=>⟨X::yr 1 0::X::X::yO 4 JAA.toD v108::AV.mp 24::dd 10 (yi v97::dd 135 (yi v97::dd 42 ([]))),N::yB (JAC.av a0)::N::N::yR 88 3 JAA.toD v108::nn 19 (some (OB.map 3 44 (Bz D.i (D.l 1 D.u8) v91))::nn 170 ([]))⟩) ?_ ?_
   ·intro k109 h;refine sJ h (fun h=>?_) fun h=>AB wk h;obtain⟨v110,g111,h⟩:=AA h;refine⟨_,_,some [],JL g111,?_⟩;obtain⟨_,g112,h⟩:=AA h;refine⟨Ci (g:=D.u8) g112,?_⟩;(conv=>whnf);refine .inl ?_;refine⟨rfl,?_⟩;refine⟨rfl,?_⟩;obtain⟨v113,g114,h⟩:=AA h;refine⟨rfl,AZ (f:=JAA.toD) (g:=JAA.toD) g114,_,Aa (f:=JAA.toD) g114,?_⟩;exact AB wk h
   rintro v108 h;refine⟨a0.Other.length,X10 _,?_⟩;revert h;refine AG (fun v115=>⟨X::yr 1 0::X::X::yO 4 JAA.toD v115::AV.mp 24::dd 146 (yi v97::dd 42 ([])),N::yB (JAC.av a0)::N::N::yR 88 3 JAA.toD v115::nn 19 (some (OB.map 3 44 (Bz D.i (D.l 1 D.u8) v91))::nn 170 ([]))⟩) ?_ ?_
   ·intro k116 h;revert h;refine Ag 172 3 JAA.toD rfl (fun i117 v118=>⟨X::yr 1 0::X::X::yO 4 JAA.toD v118::AV.mp 24::dd 10 (yi v97::dd 135 (yi v97::dd 19 (AV.d (D.l 3 JAA.toD a0.Other)::yi (a0.Other.length:Int)::yi (i117:Int)::dd 20 ([])))),N::yB (JAC.av a0)::N::N::yR 88 3 JAA.toD v118::nn 19 (some (OB.map 3 44 (Bz D.i (D.l 1 D.u8) v91))::nn 170 ([]))⟩) ?_ ?_ ?_
    ·exact wk
    ·rintro v118 K119 h;(conv=>whnf);refine .go ?_;(conv=>whnf);refine BL DL ?_;exact AB wk h
    rintro next120 i117 x121 v118 K119 hii117 hxi117 hwi117 h hK122;(conv=>whnf);refine .go ?_;(conv=>whnf);refine BC (CX hii117) ?_;(conv=>whnf);refine .go ?_;refine⟨BB (f:=JAA.toD) hii117,JAA.toD x121,hxi117,rfl,?_⟩;revert h;refine AG (fun v123=>⟨X::yr 1 0::X::X::yO 4 JAA.toD v123::AV.mp 24::dd 10 (yi v97::dd 135 (yi v97::dd 19 (AV.d (D.l 3 JAA.toD a0.Other)::yi (a0.Other.length:Int)::yi (i117:Int)::dd 20 ([])))),N::yB (JAC.av a0)::N::N::yR 88 3 JAA.toD v123::nn 19 (some (OB.map 3 44 (Bz D.i (D.l 1 D.u8) v91))::nn 170 ([]))⟩) ?_ ?_
    ·intro k124 h;refine sJ h (fun h=>?_) fun h=>AB wk h;(conv=>whnf);refine .inl (dO ?_);obtain⟨_,g125,h⟩:=AA h;refine⟨Ci (g:=D.u8) g125,?_⟩;(conv=>whnf);refine .inl ?_;refine⟨rfl,?_⟩;refine⟨rfl,?_⟩;obtain⟨v126,g127,h⟩:=AA h;refine⟨rfl,AZ (f:=JAA.toD) (g:=JAA.toD) g127,_,Aa (f:=JAA.toD) g127,?_⟩;(conv=>whnf);refine cO ?_;exact AB wk h
    rintro v123 h;refine⟨_,hwi117,?_⟩;exact hK122 _ _ wk h
   rintro v115 h;exact AB wk h
  rintro v102 h;refine⟨_,rfl,?_⟩;exact hK101 _ _ wk h
 rintro v95 h;(conv=>whnf);refine .inl ?_;refine⟨rfl,?_⟩;cases h;exact⟨rfl,rfl⟩
theorem PU {a0:List JAA}{r:(List UInt8)×Int}(h:G1 a0=some r):yC wl 57 [AV.d (D.l 3 JAA.toD a0)] [] (.tup [.d (D.l 1 D.u8 r.1),.d (D.i r.2)]) []:=by
 refine oK Tryz.f57 ⟨rfl,?_⟩;unfold G1 at h;refine⟨a0.length,X10 _,?_⟩;revert h;refine AG (fun _=>⟨y4 a0::dd 88 ([]),nn 89 ([])⟩) ?_ ?_
 ·intro k1 h;revert h;refine Ag 10 3 JAA.toD rfl (fun i2 _=>⟨y4 a0::dd 9 (y4 a0::yi (a0.length:Int)::yi (i2:Int)::dd 76 ([])),nn 89 ([])⟩) ?_ ?_ ?_
  ·exact wk
  ·rintro _ K3 h;(conv=>whnf);refine .go ?_;(conv=>whnf);refine BL DL ?_;exact AB wk h
  rintro next4 i2 x5 _ K3 hii2 hxi2 hwi2 h hK6;(conv=>whnf);refine .go ?_;(conv=>whnf);refine BC (CX hii2) ?_;(conv=>whnf);refine .go ?_;refine⟨BB (f:=JAA.toD) hii2,JAA.toD x5,hxi2,rfl,?_⟩;revert h;refine AG (fun v7=>⟨y4 a0::dd 9 (y4 a0::yi (a0.length:Int)::yi (i2:Int)::dd 26 (yb v7::dd 49 ([]))),nn 89 ([])⟩) ?_ ?_
  ·intro k8 h;refine sJ h (fun h=>AB wk h) fun h=>?_;refine sJ h (fun h=>AB wk h) fun h=>?_;refine sJ h (fun h=>AB wk h) fun h=>?_;refine sJ h (fun h=>AB wk h) fun h=>?_;refine⟨x5.Data.length,X10 _,?_⟩;exact AB wk h
  rintro v7 h;(conv=>whnf);refine .go ?_;refine sJ h ?_ ?_<;>intro h
  ·(conv=>whnf);refine .inl ?_;refine⟨rfl,?_⟩;cases h;exact⟨rfl,rfl⟩
  refine⟨_,hwi2,?_⟩;exact hK6 _ _ wk h
 rintro _ h;refine⟨a0.length,X10 _,?_⟩;revert h;refine AG (fun v9=>⟨dd 6 (yO 6 D.u8 v9::dd 82 ([])),nn 6 (yR 5 1 D.u8 v9::nn 82 ([]))⟩) ?_ ?_
 ·intro k10 h;revert h;refine Ag 41 3 JAA.toD rfl (fun i11 v12=>⟨dd 6 (yO 6 D.u8 v12::dd 34 (y4 a0::yi (a0.length:Int)::yi (i11:Int)::dd 45 ([]))),nn 6 (yR 5 1 D.u8 v12::nn 82 ([]))⟩) ?_ ?_ ?_
  ·exact wk
  ·rintro v12 K13 h;(conv=>whnf);refine .go ?_;(conv=>whnf);refine BL DL ?_;exact AB wk h
  rintro next14 i11 x15 v12 K13 hii11 hxi11 hwi11 h hK16;(conv=>whnf);refine .go ?_;(conv=>whnf);refine BC (CX hii11) ?_;(conv=>whnf);refine .go ?_;refine⟨BB (f:=JAA.toD) hii11,JAA.toD x15,hxi11,rfl,?_⟩;refine⟨x15.Data.length,X10 _,?_⟩;revert h;refine AG (fun v17=>⟨dd 6 (yO 6 D.u8 v17::X::yr 8 0::dd 32 (y4 a0::yi (a0.length:Int)::yi (i11:Int)::dd 45 ([]))),nn 6 (yR 5 1 D.u8 v17::N::yB (JAA.av x15)::nn 80 ([]))⟩) ?_ ?_
  ·intro k18 h;refine sJ h ?_ ?_<;>intro h
   ·refine⟨_,Af _,?_⟩;refine⟨_,Af _,?_⟩;refine⟨_,Af _,?_⟩;refine⟨_,Af _,?_⟩;refine⟨by decide,_,rfl,?_⟩;refine⟨_,Af _,?_⟩;refine⟨_,Af _,?_⟩;refine⟨rfl,?_⟩;obtain⟨v19,g20,h⟩:=AA h;refine⟨rfl,AZ (f:=D.u8) (g:=D.u8) g20,_,Aa (f:=D.u8) g20,?_⟩;exact AB wk h
   refine⟨_,Af _,?_⟩;refine⟨_,Af _,?_⟩;refine⟨_,Af _,?_⟩;refine⟨_,Af _,?_⟩;refine⟨rfl,?_⟩;obtain⟨v21,g22,h⟩:=AA h;refine⟨rfl,AZ (f:=D.u8) (g:=D.u8) g22,_,Aa (f:=D.u8) g22,?_⟩;exact AB wk h
  rintro v17 h;obtain⟨v23,g24,h⟩:=AA h;refine⟨rfl,AZ (f:=D.u8) (g:=D.u8) g24,_,Aa (f:=D.u8) g24,?_⟩;refine⟨_,hwi11,?_⟩;exact hK16 _ _ wk h
 rintro v9 h;refine⟨v9.length,by first | exact X10 _ | rfl | (simp only[X10];omega),?_⟩;(conv=>whnf);refine .go ?_;refine sJ h ?_ ?_<;>intro h
 ·(conv=>whnf);refine .inl ?_;refine⟨rfl,?_⟩;cases h;exact⟨rfl,rfl⟩
 (conv=>whnf);refine .inl ?_;refine⟨rfl,?_⟩;cases h;exact⟨rfl,rfl⟩
end Go.AX.Q19
end
