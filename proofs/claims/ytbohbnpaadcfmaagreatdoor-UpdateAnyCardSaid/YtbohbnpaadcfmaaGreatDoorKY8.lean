/-
  Texts of one proof, packed.
-/
import Derived.Test.YtbohbnpaadcfmaaGreatDoorKY5
import Derived.Test.YtbohbnpaadcfmaaGreatDoorKY7
import Derived.KernelRfl
set_option linter.all false
set_option maxRecDepth 100000
set_option maxHeartbeats 4000000
open List renaming length_map→X10,length_append→X11,length_cons→X12,length_nil→X13,mem_singleton→X14,length_drop→X17,length_take→X18,mem_cons_of_mem→X19,length_replicate→X20,length_set→X21,length_singleton→X22,mem_append→X23
open Bool renaming and_eq_true→X27,eq_iff_iff→X28
open Nat renaming le_of_ble_eq_true→X29
section
namespace Go.AX.Q19
open Go Go.AX
theorem QU (p:JAD):GR p=some (HO p):=by
 have hg:=(HE p).2
 have no:¬ CB p->some false=some (HO p):=fun q=>by
  have:HO p=false:=by
   rw[Bool.eq_false_iff]
   exact fun e=>q (hg.1 e)
  rw[this]
 unfold GR
 rw[AH,Ea,AC,Jj]
 simp only[AC,cond_true]
 by_cases ho:p.Addr.ok=true
 case neg=>
  rw[if_neg ho]
  exact no fun q=>ho q.1
 rw[if_pos ho]
 by_cases h0:0<=p.Len
 case neg=>
  rw[if_neg (by simpa using h0)]
  exact no fun q=>h0 q.2.1
 rw[if_pos (by simpa using h0)]
 by_cases h1:p.Len<=p.Addr.w
 case neg=>
  rw[if_neg (by simpa using h1)]
  exact no fun q=>h1 q.2.2.1
 rw[if_pos (by simpa using h1)]
 obtain⟨k,hk⟩ :∃k:Nat,p.Len=k:=⟨p.Len.toNat,by omega⟩
 have hf:=Jc p.Addr (n:=k) (by omega)
 rw[<- hk] at hf
 rw[hf,AC]
 congr 1
 rw[X28,hg,Addr.eqd_iff]
 have e:p.Len.toNat=k:=by omega
 exact⟨fun h=>⟨ho,h0,h1,by rw[e];exact h⟩,fun h=>by have:=h.2.2.2;rw[e] at this;exact this⟩
theorem Ly {acc:List UInt8}{l:List JAD}(ha:acc.length<=1000000)(hl:l.length<=100000)(hg :∀p∈l,CB p)(six:Bool):ET acc l six=some (acc++A6 six l):=by
 unfold ET
 rw[AH]
 refine (Tq (fun (t:List JAD) _ (s:List UInt8)=>s.length+17*t.length<=10000000/\∀p∈t,CB p) (fun t _ s=>some (s++A6 six t)) ?_ ?_ l 0 acc ⟨by omega,hg⟩).trans rfl
 ·intro i s _
  show some s=some (s++[])
  rw[List.append_nil]
 rintro next p t i s ⟨h1,h2⟩ hn
 simp only[X12] at h1
 have hp:=h2 p (by simp)
 have hcl:=N5 hp
 have ht :∀q∈t,CB q:=fun q hq=>h2 q (X19 _ hq)
 obtain⟨k1,k2,k3,_⟩:=hp
 have e2:=(Ko k1).2
 obtain⟨w1,w2⟩:=w_L p.Addr
 rw[AH,IN]
 by_cases h6:(p.Addr.V6==six)=true
 ·obtain⟨k,hk⟩ :∃k:Nat,p.Len=k:=⟨p.Len.toNat,by omega⟩
  have e3:AN (Int.tdiv (AN (p.Len+7)) 8)=(((p.Len.toNat+7)/8:Nat):Int):=by
   rw[hk,Int.toNat_natCast,AO (x:=(k:Int)+7) (by omega),Int.tdiv_eq_ediv_of_nonneg (by omega),AO (by omega)]
   omega
  have e4:(p.Len.toNat+7)/8<=p.Addr.L:=by omega
  rw[if_pos h6,if_pos h6,AP (by decide) (by simp only[X22];omega),AC,KL k1,AC,e3,Qi (by omega),AC,
   AP (by decide) (by simp only[X11,X22,X18];omega),AC]
  dsimp only
  rw[hn _ ⟨by
   simp only[X11,X22,X18]
   omega,ht⟩]
  unfold RF
  simp only[List.append_assoc,List.singleton_append,List.cons_append,List.nil_append]
 rw[if_neg h6,if_neg h6]
 dsimp only
 rw[hn _ ⟨by omega,ht⟩,List.nil_append]
theorem J1 {l:List JAD}(hl:l.length<=100000)(hg :∀p∈l,CB p)(six:Bool):EF l six=some (A6 six l):=Ly (acc:=[]) (by simp) hl hg six
theorem T9 (n:Nat):Eo (n:Int)=some (two n):=by
 unfold Eo
 rw[AP (by decide) (by simp),AC]
 rfl
theorem Zn {b:List UInt8}(hb:b.length<=1000000)(n:Nat):Hw b (n:Int)=some (b++two n):=by
 unfold Hw
 rw[AP (by decide) (by simp only[X12,X13];omega),AC]
 rfl
theorem aI (a b:JAA):FW a b=some (FU (HI a) (HI b)):=QJ a b
theorem WW {u:JAG}(g:GoodU u):(Eg u).length<=18/\∀x∈Eg u,x.Data.length<=20000:=by
 have cw6:=Cc (six:=true) g.gw
 have ca6:=Cc (six:=true) g.ga
 have hw:=g.w;have hn:=g.n
 have h0:(lst0 u).length<=16/\∀x∈lst0 u,x.Data.length<=768:=by
  unfold lst0
  split
  ·exact (g.a ‹_›).2
  simp
 have hL:(byB u.JAE.Next).length<=16\/u.Announce.length=0:=by
  rcases Nat.eq_zero_or_pos u.Announce.length with h | h
  ·exact .inr h
  have:=(Ko (g.a h).1.n).2
  have:=(w_L u.JAE.Next).2
  exact .inl (by omega)
 have h1:(Jo u).length<=17/\∀x∈Jo u,x.Data.length<=20000:=by
  unfold Jo
  split
  ·refine⟨by rw[HB];omega,fun x hx=>?_⟩
   rcases Fb.1 hx with hx | rfl
   ·have:=h0.2 x hx;omega
   have hl:(byB u.JAE.Next).length<=16:=hL.resolve_right (by omega)
   simp only[X11,X12,X13]
   omega
  exact⟨by omega,fun x hx=>by have:=h0.2 x hx;omega⟩
 unfold Eg
 split
 ·refine⟨by rw[HB];omega,fun x hx=>?_⟩
  rcases Fb.1 hx with hx | rfl
  ·exact h1.2 x hx
  simp only[X11,X12,X13]
  omega
 exact⟨by omega,h1.2⟩
theorem Yn {u:JAG}(h:WrU u)(he:u.Announce=[]->u.JAE=eA):G4 u=some (Eg u):=by
 have g:=h.g
 have hw:=g.w;have hn:=g.n
 have cw6:=Cc (six:=true) g.gw
 have ca6:=Cc (six:=true) g.ga
 have e00:u.Announce=[]↔¬ 0<u.Announce.length:=by rw[List.length_pos_iff];exact Decidable.not_not.symm
 have v:VA u.JAE:=by
  by_cases hp:0<u.Announce.length
  ·exact (g.a hp).1
  rw[he (e00.2 hp)];exact db
 have e0:wrS u.JAE=lst0 u:=by
  unfold lst0
  by_cases hp:0<u.Announce.length
  ·rw[if_pos hp]
  rw[if_neg hp,he (e00.2 hp),cy]
 have l0:(lst0 u).length<=16:=e0 ▸ Of v
 have c0:0<(A6 true u.Announce).length↔0<u.Announce.length/\u.JAE.Next.V6=true:=by
  rw[Yi]
  constructor
  ·intro q
   obtain⟨p,hp⟩:=List.exists_mem_of_ne_nil _ q
   rw[List.mem_filter] at hp
   refine⟨List.length_pos_of_mem hp.1,?_⟩
   rw[<- h.s p hp.1]
   simpa using hp.2
  rintro⟨q1,q2⟩
  obtain⟨p,hp⟩:=List.exists_mem_of_ne_nil _ (List.length_pos_iff.1 q1)
  refine List.ne_nil_of_mem (a:=p) (List.mem_filter.2 ⟨hp,?_⟩)
  rw[h.s p hp,q2];rfl
 have hL:=(Ko v.n).2
 have hL2:=(w_L u.JAE.Next).2
 unfold G4
 show WrJ u.JAE _=_
 rw[W9 v]
 dsimp only
 rw[e0]
 have e1 :∀{ρ:Type} (K:Bool->Option ρ),AI (τ:=Bool) (fun k79=>
  if (decide ((u.Announce.length:Int) > 0)) then
   k79 (cond true u.JAE.Next.V6 false)
  else
   k79 false) K=K (decide (0<(A6 true u.Announce).length)):=by
  intro ρ K
  rw[AH]
  by_cases hp:0<u.Announce.length
  ·rw[if_pos (by simp only[decide_eq_true_eq];omega)]
   congr 1
   rw[X28,decide_eq_true_eq,c0]
   exact⟨fun q=>⟨hp,q⟩,fun q=>q.2⟩
  rw[if_neg (by simp only[decide_eq_true_eq];omega)]
  congr 1
  rw[X28,decide_eq_true_eq,c0]
  exact⟨(fun q=>nomatch q),fun q=>absurd q.1 hp⟩
 rw[e1]
 have e2 :∀{ρ:Type} (K:List JAA->Option ρ),AI (τ:=(List JAA)) (fun k81=>
  if decide (0<(A6 true u.Announce).length) then
   Option.bind (BN u.JAE.Next) fun v82=>
   Option.bind (apnd (α:=UInt8) 1 ([(0:UInt8),(2:UInt8),(1:UInt8),(16:UInt8)]:List UInt8) v82) fun v83=>
   Option.bind (apnd (α:=UInt8) 1 v83 ([(0:UInt8)]:List UInt8)) fun v84=>
   Option.bind (ET v84 u.Announce true) fun v85=>
   Option.bind (apnd (α:=JAA) 40 (lst0 u) ([(⟨128,14,v85⟩:JAA)]:List JAA)) fun v86=>
   k81 v86
  else
   k81 (lst0 u)) K=K (lst0 u++if 0<(A6 true u.Announce).length then [x14 u] else []):=by
  intro ρ K
  rw[AH]
  by_cases hp:0<(A6 true u.Announce).length
  ·rw[if_pos (by simpa using hp),if_pos hp,KL v.n,AC,AP (by decide) (by simp only[X12,X13];omega),AC,
    AP (by decide) (by simp only[X11,X12,X13];omega),AC,
    Ly (by simp only[X11,X12,X13];omega) (by omega) g.ga,AC,AP (by decide) (by simp only[X12,X13];omega),AC]
   rfl
  rw[if_neg (by simpa using hp),if_neg hp,List.append_nil]
 rw[e2,J1 (by omega) g.gw,AC]
 have e3 :∀{ρ:Type} (w:List JAA) (hw:w.length<=17) (K:List JAA->Option ρ),AI (τ:=(List JAA)) (fun k89=>
  if (decide (((A6 true u.Withdraw).length:Int) > 0)) then
   Option.bind (apnd (α:=UInt8) 1 ([(0:UInt8),(2:UInt8),(1:UInt8)]:List UInt8) (A6 true u.Withdraw)) fun v90=>
   Option.bind (apnd (α:=JAA) 40 w ([(⟨128,15,v90⟩:JAA)]:List JAA)) fun v91=>
   k89 v91
  else
   k89 w) K=K (w++if 0<(A6 true u.Withdraw).length then [x15 u] else []):=by
  intro ρ w hw K
  rw[AH]
  by_cases hp:0<(A6 true u.Withdraw).length
  ·rw[if_pos (by simp only[decide_eq_true_eq];omega),if_pos hp,AP (by decide) (by simp only[X12,X13];omega),AC,AP (by decide) (by simp only[X12,X13];omega),AC]
   rfl
  rw[if_neg (by simp only[decide_eq_true_eq];omega),if_neg hp,List.append_nil]
 have l1:(lst0 u++if 0<(A6 true u.Announce).length then [x14 u] else []).length<=17:=by
  rw[X11]
  split<;>simp only[X22,X13]<;>omega
 rw[e3 _ l1,List.append_assoc]
 show Option.bind (EM FW (raw u)) _=_
 have l2:(raw u).length<=1000000:=by
  have q1:(if 0 < (A6 true u.Withdraw).length then [x15 u] else []).length<=1:=by split<;>simp
  unfold raw
  rw[<- List.append_assoc,X11]
  omega
 rw[Zj h aI l2 (ZI h),AC]
def bdP (u:JAG):List UInt8×Bool:=(Kw u (Dc (Eg u)).1,((Dc (Eg u)).2==0)&&decide ((Kw u (Dc (Eg u)).1).length<=4077))
theorem SZ {u:JAG}(h:WrU u)(he:u.Announce=[]->u.JAE=eA):Eu u=some (bdP u):=by
 have g:=h.g
 have hw:=g.w;have hn:=g.n
 have cw4:=Cc (six:=false) g.gw
 have ca4:=Cc (six:=false) g.ga
 obtain⟨s1,s2⟩:=WW g
 have hj:=OA (l:=Eg u)
 unfold Eu bdP
 rw[Yn h he,AC,Yf (by omega) (fun x hx=>by have:=s2 x hx;omega),AC]
 dsimp only
 rw[J1 (by omega) g.gw,AC,T9,AC,AP (by decide) (by simp only[two,X12,X13];omega),AC,
  Zn (by simp only[two,X11,X12,X13];omega),AC,
  AP (by decide) (by simp only[two,X11,X12,X13];omega),AC,
  Ly (by simp only[two,X11,X12,X13];omega) (by omega) g.ga,AC,AH]
 show (if ((Dc (Eg u)).2==0)=true then some (Kw u (Dc (Eg u)).1,cond true (decide (((Kw u (Dc (Eg u)).1).length:Int)<=4077)) false) else some (Kw u (Dc (Eg u)).1,false))=_
 have e:decide (((Kw u (Dc (Eg u)).1).length:Int)<=4077)=decide ((Kw u (Dc (Eg u)).1).length<=4077):=by rw[decide_eq_decide];omega
 rw[e]
 cases ((Dc (Eg u)).2==0)<;>rfl
theorem cX (a b c d:Nat)(ha:a<=1000000)(hb:b<=1000000)(hc:c<=1000000)(hd:d<=1000000):(AN (AN (AN ((a:Int)+b)+c)+d)==0)=(decide (a=0)&&(decide (b=0)&&(decide (c=0)&&decide (d=0)))):=by
 rw[AO (x:=(a:Int)+b) (by omega),AO (x:=(a:Int)+b+c) (by omega),AO (x:=(a:Int)+b+c+d) (by omega)]
 rw[X28]
 simp only[beq_iff_eq,X27,decide_eq_true_eq]
 omega
theorem Wi {a:JAE}(h:SmT a):GV a=some (isE a):=by
 unfold GV
 rw[Xw,AH,AH,cX _ _ _ _ h.p h.c h.l h.o]
 have e :∀{α:Type} (l:List α),decide (l.length=0)=decide (l=[]):=fun l=>by rw[decide_eq_decide];exact List.length_eq_zero_iff
 rw[e,e,e,e]
 show (if (a.Origin==(-1))=true then _ else _)=_
 unfold zAd
 cases (a.Origin==(-1))<;>cases (a.MED==(-1))<;>cases (a.Pref==(-1))<;>cases (a.OTC==(-1))<;>cases (Addr.eqd a.Next ⟨false,0,0⟩)<;>simp
theorem SL (u:JAG) :∀(l:List JAD) (i:Nat),An (σ:=JAG) (fun v2=>some ((-1:Int),v2)) (fun next3 (x4:JAD) i5 v2=>Option.bind (Ed x4 v2) fun (v6,v7)=>if v6 then some ((i5:Int),v7) else next3 v7) l i u=some (match l.findIdx? (fun p=>!(p.Addr.V6==u.JAE.Next.V6)) with | some j=>((i+j:Nat):Int)|none=>-1,u)
 | [],_=>rfl
 | x::t,i=>by
  show Option.bind (Ed x u) (fun (v6,v7)=>if v6 then some ((i:Int),v7) else An (σ:=JAG) (fun v2=>some ((-1:Int),v2)) _ t (i+1) v7)=_
  rw[show Ed x u=some (!(x.Addr.V6==u.JAE.Next.V6),u) from rfl,AC,List.findIdx?_cons]
  dsimp only
  by_cases hq:(!(x.Addr.V6==u.JAE.Next.V6))=true
  ·rw[if_pos hq,if_pos hq];simp
  rw[if_neg hq,if_neg hq,SL u t]
  cases t.findIdx? _ with
  | none=>rfl
  | some j=>show some (((i+1+j:Nat):Int),u)=some (((i+(j+1):Nat):Int),u);rw[show i+1+j=i+(j+1) by omega]
theorem fits_any (u:JAG)(l:List JAD):Ac l u=some (l.any (fun p=>!(p.Addr.V6==u.JAE.Next.V6)),u):=by
 unfold Ac Ar
 rw[AH,SL,AC]
 dsimp only
 congr 2
 cases hf:l.findIdx? (fun p=>!(p.Addr.V6==u.JAE.Next.V6)) with
 | none=>
  rw[List.findIdx?_eq_none_iff] at hf
  have:l.any (fun p=>!(p.Addr.V6==u.JAE.Next.V6))=false:=by
   rw[List.any_eq_false]
   intro x hx
   rw[hf x hx];simp
  rw[this];rfl
 | some j=>
  obtain⟨h1,h2,_⟩:=List.findIdx?_eq_some_iff_getElem.1 hf
  have:l.any (fun p=>!(p.Addr.V6==u.JAE.Next.V6))=true:=List.any_eq_true.2 ⟨_,List.getElem_mem h1,h2⟩
  rw[this]
  simp
def TQ (u:JAG):Bool:=(!(decide (u.Announce=[])) || isE u.JAE)&&u.Announce.all (RX u.JAE)
theorem Xl {α:Type}{f:α->Bool}{c:Bool} :∀{l:List α},l≠[]->l.all (fun x=>f x&&c)=(l.all f&&c)
 | [x],_=>by simp
 | x::y::t,_=>by
  rw[List.all_cons,Xl (l:=y::t) (by simp),List.all_cons (l:=y::t)]
  cases f x<;>cases c<;>simp
theorem Ym {u:JAG}(h:SmT u.JAE):G1 u=some (TQ u):=by
 unfold G1 TQ
 by_cases ha:u.Announce=[]
 ·rw[if_pos (by rw[ha];rfl),Wi h,AC,ha]
  simp
 have hl:0<u.Announce.length:=List.length_pos_iff.2 ha
 rw[if_neg (by rw[beq_iff_eq];omega),AH,QW h,AC,fits_any,AC,decide_eq_false ha]
 have e:u.Announce.all (RX u.JAE)=(u.Announce.all (fun p=>p.Addr.V6==u.JAE.Next.V6)&&((u.JAE.Origin != -1)&&(!(Addr.eqd u.JAE.Next zAd)&&Gq u.JAE))):=by
  rw[<- Xl ha];rfl
 have e2:u.Announce.any (fun p=>!(p.Addr.V6==u.JAE.Next.V6))=!u.Announce.all (fun p=>p.Addr.V6==u.JAE.Next.V6):=by
  rw[List.not_all_eq_any_not]
 rw[e,e2]
 show (if Gq u.JAE=true then _ else _)=_
 unfold zAd
 cases Gq u.JAE<;>cases (u.JAE.Origin != (-1))<;>cases (Addr.eqd u.JAE.Next ⟨false,0,0⟩)<;>cases u.Announce.all (fun p=>p.Addr.V6==u.JAE.Next.V6)<;>rfl
theorem TY (l:List JAD):Ab l=some (!l.all HO):=by
 have h:=aY (f:=Ep) (q:=fun p=>!HO p) (l:=l) fun x _=>by unfold Ep;rw[QU,AC]
 rw[<- List.not_all_eq_any_not] at h
 exact h
theorem dC {u:JAG}(h1:u.Withdraw.length<=256)(h2:u.Announce.length<=256)(h3:(u.Withdraw++u.Announce).all HO=true)(h5:u.Announce.all (RX u.JAE)=true):WrU u:=by
 have hgood :∀p∈u.Withdraw++u.Announce,CB p:=fun p hp=>(HE p).2.1 (List.all_eq_true.1 h3 p hp)
 have hfit :∀p∈u.Announce,p.Addr.V6=u.JAE.Next.V6/\u.JAE.Origin≠-1/\u.JAE.Next≠zAd/\VA u.JAE:=fun p hp=>by
  have:=List.all_eq_true.1 h5 p hp
  unfold RX at this
  simp only[X27,beq_iff_eq,bne_iff_ne,Bool.not_eq_true'] at this
  obtain⟨a1,a2,a3,a4⟩:=this
  exact⟨a1,a2,(fun q=>by rw[q,(Addr.eqd_iff _ _).2 rfl] at a3;cases a3),Ju.1 a4⟩
 refine⟨⟨by omega,by omega,fun p hp=>hgood p (List.mem_append_left _ hp),fun p hp=>hgood p (List.mem_append_right _ hp),fun q=>?_⟩,h1,h2,fun p hp=>(hfit p hp).1,fun q=>?_⟩
 ·obtain⟨p,hp⟩:=List.exists_mem_of_ne_nil _ (List.length_pos_iff.1 q)
  have v:=(hfit p hp).2.2.2
  exact⟨v,Of v,fun x hx=>P2 v hx⟩
 obtain⟨p,hp⟩:=List.exists_mem_of_ne_nil _ q
 exact⟨(hfit p hp).2.1,(hfit p hp).2.2.1⟩
theorem NV (u:JAG):Ws u=(bdP u).2/\((bdP u).2=true->EI u=((bdP u).1,0)):=by
 unfold Ws EI bdP
 by_cases hj:(Dc (Eg u)).2=0
 ·have hne:¬ (Dc (Eg u)).2≠0:=fun q=>q hj
  rw[if_neg hne]
  have:((Dc (Eg u)).2==0)=true:=by rw[hj];rfl
  rw[this]
  exact⟨rfl,fun _=>rfl⟩
 rw[if_pos hj]
 have:((Dc (Eg u)).2==0)=false:=by simpa using hj
 dsimp only
 rw[this]
 exact⟨rfl,fun q=>nomatch q⟩
theorem V3 (u:JAG):Fp u=(decide (u.Withdraw.length<=256)&&(decide (u.Announce.length<=256)&&((u.Withdraw++u.Announce).all HO&&(TQ u&&(bdP u).2)))):=by
 unfold Fp TQ
 rw[(NV u).1]
 simp only[Bool.and_assoc]
theorem Us {u:JAG}(hs:SmT u.JAE):GL u=some (Fp u):=by
 unfold GL
 rw[AH,V3]
 by_cases h1:u.Withdraw.length<=256
 case neg=>
  rw[if_pos (by simp only[decide_eq_true_eq];omega),decide_eq_false h1]
  rfl
 rw[if_neg (by simp only[decide_eq_true_eq];omega),decide_eq_true h1]
 by_cases h2:u.Announce.length<=256
 case neg=>
  rw[if_pos (by rw[cond_false,decide_eq_true_eq];omega),decide_eq_false h2]
  rfl
 rw[if_neg (by rw[cond_false,decide_eq_true_eq];omega),decide_eq_true h2,TY,AC,TY,AC,Ym hs,AC,List.all_append]
 cases k1:u.Withdraw.all HO
 ·rfl
 cases k2:u.Announce.all HO
 ·rfl
 cases k3:TQ u
 ·rfl
 have k5:u.Announce.all (RX u.JAE)=true/\(u.Announce=[]->u.JAE=eA):=by
  unfold TQ at k3
  simp only[X27,Bool.or_eq_true,Bool.not_eq_true',decide_eq_false_iff_not] at k3
  exact⟨k3.2,fun q=>(UM _).1 (k3.1.resolve_left fun w=>w q)⟩
 have hu:=dC h1 h2 (by rw[List.all_append,k1,k2];rfl) k5.1
 show Option.bind (Eu u) _=_
 rw[SZ hu k5.2,AC]
 rfl
theorem aP {u:JAG}(h:Fp u=true):WrU u/\(u.Announce=[]->u.JAE=eA)/\(bdP u).2=true:=by
 obtain⟨h1,h2,h3⟩:=TN h Of
 exact⟨h1,fun q=>(UM _).1 (h3 q),(NV u).1 ▸ h2⟩
theorem Ry {u:JAG}(hs:SmT u.JAE):Eb u=some (encS u):=by
 unfold Eb encS
 rw[Us hs,AC]
 cases hv:Fp u with
 | false=>rfl
 | true=>
  obtain⟨h1,h2,h3⟩:=aP hv
  rw[if_neg (by decide),if_pos rfl,SZ h1 h2,AC,(NV u).2 h3]
theorem Ye {u:JAG}(h:Fp u=true):(EI u).1.length<=4077:=by
 obtain⟨h1,h2,h3⟩:=aP h
 rw[(NV u).2 h3]
 unfold bdP at h3 ⊢
 simp only[X27,decide_eq_true_eq] at h3
 exact h3.2
structure UOk (u:JAG):Prop where
 v:Fp u=true
 s:SmT u.JAE
 w:u.Withdraw.length<=4
 n:u.Announce.length<=5
theorem Y8:SmT eA:=⟨by decide,by decide,by decide,by decide,by decide,fun u hu=>by cases hu⟩
theorem UOk.few {l:List JAD}(h :∀p∈l,CB p)(hl:l.length<=4):UOk ⟨l,eA,[]⟩:=⟨aB h (by omega),Y8,hl,Nat.zero_le _⟩
theorem WT {α:Type}{P:α->Prop}{l:List α}{x:α}(h :∀y∈l,P y)(hx:P x) :∀y∈l++[x],P y:=fun y hy=>by
 rcases X23.1 hy with hy | hy
 ·exact h y hy
 rw[X14] at hy
 rw[hy];exact hx
theorem NN {d:JAI}(hd:Dk d):Ok (EJ d) fun r=>UOk r.1/\Dk r.2:=by
 unfold EJ
 rw[AH]
 refine .bind (AL hd (by omega)) ?_
 rintro⟨v,d⟩ ⟨v1,v2,hd⟩
 dsimp only at v1 v2 hd ⊢
 refine .join (fun p:JAI×List JAD=>(p.2.length<=4/\∀q∈p.2,CB q)/\Dk p.1) (fun k hk=>?_) ?_
 ·refine .whileI (fun s:Int×JAI×List JAD=>(0<=s.1/\s.1+s.2.2.length<=4/\∀q∈s.2.2,CB q)/\Dk s.2.1) (fun s=>s.1.toNat) ⟨⟨v1,by simp only[X13];omega,fun q hq=>by cases hq⟩,hd⟩ (BY (by simp only;omega)) ?_
  rintro next ⟨c,d,p⟩ ⟨⟨h1,h2,h3⟩,hd⟩ hnx
  dsimp only at h1 h2 h3 hd ⊢
  refine .ite (fun h=>?_) fun h=>hk (d,p) ⟨⟨by dsimp only;omega,h3⟩,hd⟩
  simp only[decide_eq_true_eq] at h
  refine .bind (IS hd) ?_
  rintro⟨x,d⟩ ⟨hx,hd⟩
  dsimp only at hx hd ⊢
  refine .bind (Ok.apnd (by decide) (by simp only[X22];omega)) fun r hr=>?_
  rw[AO (by omega),hr]
  exact hnx _ ⟨⟨by dsimp only;omega,by simp only[X11,X22];omega,WT h3 hx⟩,hd⟩ (by dsimp only;omega)
 rintro⟨d,W⟩ ⟨⟨w1,w2⟩,hd⟩
 dsimp only at w1 w2 hd ⊢
 refine .bind (AL hd (by omega)) ?_
 rintro⟨c,d⟩ ⟨c1,c2,hd⟩
 dsimp only at c1 c2 hd ⊢
 refine .ite (fun _=>.ret ⟨.few w2 w1,hd⟩) fun _=>?_
 refine .bind (AL hd (by omega)) ?_
 rintro⟨six,d⟩ ⟨-,-,hd⟩
 dsimp only at hd ⊢
 refine .bind (AL hd (by omega)) ?_
 rintro⟨v,d⟩ ⟨v1,v2,hd⟩
 dsimp only at v1 v2 hd ⊢
 refine .join (fun p:JAI×List JAD=>(p.2.length<=5/\∀q∈p.2,CB q)/\Dk p.1) (fun k hk=>?_) ?_
 ·refine .whileI (fun s:Int×JAI×List JAD=>(0<=s.1/\s.1+s.2.2.length<=5/\∀q∈s.2.2,CB q)/\Dk s.2.1) (fun s=>s.1.toNat) ⟨⟨v1,by simp only[X13];omega,fun q hq=>by cases hq⟩,hd⟩ (BY (by simp only;omega)) ?_
  rintro next ⟨c,d,p⟩ ⟨⟨h1,h2,h3⟩,hd⟩ hnx
  dsimp only at h1 h2 h3 hd ⊢
  refine .ite (fun h=>?_) fun h=>hk (d,p) ⟨⟨by dsimp only;omega,h3⟩,hd⟩
  simp only[decide_eq_true_eq] at h
  refine .bind (IS hd) ?_
  rintro⟨x,d⟩ ⟨hx,hd⟩
  dsimp only at hx hd ⊢
  refine .join (fun q:List JAD=>q.length<=p.length+1/\∀y∈q,CB y) (fun k27 hk27=>.ite (fun _=>.bind (Ok.apnd (by decide) (by simp only[X22];omega)) fun r hr=>hk27 _ ?_) fun _=>hk27 _ ⟨by omega,h3⟩) fun q hq=>?_
  ·rw[hr]
   exact⟨by simp only[X11,X22];omega,WT h3 hx⟩
  rw[AO (by omega)]
  exact hnx _ ⟨⟨by dsimp only;omega,by dsimp only;omega,hq.2⟩,hd⟩ (by dsimp only;omega)
 rintro⟨d,A⟩ ⟨⟨a1,a2⟩,hd⟩
 dsimp only at a1 a2 hd ⊢
 refine .ite (fun h=>?_) fun _=>?_
 ·have:A=[]:=List.eq_nil_of_length_eq_zero (by simp only[beq_iff_eq] at h;omega)
  subst this
  exact .ret ⟨.few w2 w1,hd⟩
 refine .bind (Im hd) ?_
 rintro⟨a,d⟩ ⟨⟨b1,b2,b3,b4,b5,b6,b7⟩,hd⟩
 dsimp only at b1 b2 b3 b4 b5 b6 b7 hd ⊢
 refine .bind (P:=fun _=>True) ⟨_,rfl,trivial⟩ fun f _=>?_
 refine .join (fun _=>True) (fun k hk=>.ite (fun _=>.bind (P:=fun _=>True) ⟨_,rfl,trivial⟩ fun f _=>hk _ trivial) fun _=>hk _ trivial) ?_
 rintro⟨x,y,z⟩ -
 dsimp only
 have hs :∀o n,SmT { a with Origin:=o,Next:=n }:=fun o n=>⟨by dsimp only;omega,by dsimp only;omega,by dsimp only;omega,by dsimp only;omega,by dsimp only;omega,fun u hu=>by have:=b7 u hu;omega⟩
 rw[PS (hs _ _) (by dsimp only;omega) (by dsimp only;omega) Of,AC]
 refine .ite (fun _=>?_) fun h=>.ret ⟨⟨?_,hs _ _,w1,a1⟩,hd⟩
 ·rw[AH]
  exact .ret ⟨.few (fun q hq=>by cases hq) (Nat.zero_le _),hd⟩
 simpa using h
def p10:JAD:=⟨⟨false,(0:UInt64),(167772160:UInt64)⟩,8⟩
theorem dG:CB p10:=by
 unfold CB
 refine⟨by kernel_rfl,by decide,by decide,by kernel_rfl⟩
theorem dt:encS ⟨[p10],eA,[]⟩=([0,2,8,10,0,0],0):=by
 unfold encS
 rw[if_pos (aB (fun p hp=>by rw[X14] at hp;rw[hp];exact dG) (by decide))]
 kernel_rfl
theorem awake:F6=some true:=by
 unfold F6
 rw[show DK=some eA from rfl,AC]
 show Option.bind (Eb ⟨[p10],eA,[]⟩) _=_
 rw[Ry Y8,AC,dt]
 dsimp only
 rw[(by kernel_rfl:IK [0,0,0,0]=some (true,false)),AC]
 kernel_rfl
structure SmUp (u:JAG):Prop where
 s:SmT u.JAE
 w:u.Withdraw.length<=1000
 n:u.Announce.length<=1000
theorem UOk.sm {u:JAG}(h:UOk u):SmUp u:=⟨h.s,by have:=h.w;omega,by have:=h.n;omega⟩
theorem ad {u:JAG}:(encS u).1.length<=4077:=by
 unfold encS
 split
 ·exact Ye ‹_›
 exact Nat.zero_le _
theorem MM {d:JAI}{w:Int}(hd:Dk d)(hw:0<=w/\w<=128):Ok (Fj d w) fun r=>r.1.length<=36/\Dk r.2:=by
 unfold Fj
 refine .bind (AL hd (by omega)) ?_
 rintro⟨k,d⟩ ⟨k1,k2,hd⟩
 dsimp only at k1 k2 hd ⊢
 refine .join (fun p:JAI×List UInt8=>p.2.length<=36/\Dk p.1) (fun k3 hk3=>?_) fun p hp=>.ret hp
 refine .whileI (fun s:Int×JAI×List UInt8=>(0<=s.1/\18*s.1+s.2.2.length<=36)/\Dk s.2.1) (fun s=>s.1.toNat) ⟨⟨k1,by simp only[X13];omega⟩,hd⟩ (BY (by simp only;omega)) ?_
 rintro next ⟨c,d,b⟩ ⟨⟨h1,h2⟩,hd⟩ hnx
 dsimp only at h1 h2 hd ⊢
 refine .ite (fun h=>?_) fun _=>hk3 _ ⟨by dsimp only;omega,hd⟩
 simp only[decide_eq_true_eq] at h
 refine .join (fun p:JAI×List UInt8=>p.2.length<=b.length+18/\Dk p.1) (fun k8 hk8=>?_) ?_
 ·rw[AO (x:=w+1) (by omega)]
  refine .bind (AL hd (by omega)) ?_
  rintro⟨n,d⟩ ⟨n1,n2,hd⟩
  dsimp only at n1 n2 hd ⊢
  refine .bind (AL hd (by omega)) ?_
  rintro⟨q,d⟩ ⟨q1,q2,hd⟩
  dsimp only at q1 q2 hd ⊢
  refine .join (fun m:Int=>0<=m/\m<=129) (fun k13 hk13=>.ite (fun _=>hk13 _ (by omega)) fun _=>hk13 _ (by omega)) fun m hm=>?_
  refine .bind (Ok.apnd (by decide) (by simp only[X22];omega)) fun r hr=>?_
  have e:AN (Int.tdiv (AN (m+7)) 8)=(m+7)/8:=by
   rw[AO (x:=m+7) (by omega),Int.tdiv_eq_ediv_of_nonneg (by omega),AO (by omega)]
  rw[e]
  refine .join (fun p:JAI×List UInt8=>p.2.length<=b.length+18/\Dk p.1) (fun k16 hk16=>?_) fun p hp=>hk8 _ hp
  refine .whileI (fun s:Int×JAI×List UInt8=>(0<=s.1/\s.1<=17/\s.2.2.length<=b.length+1+s.1)/\Dk s.2.1) (fun s=>(17-s.1).toNat) ⟨⟨by dsimp only;omega,by dsimp only;omega,by rw[hr];simp⟩,hd⟩ (BY (by simp only;omega)) ?_
  rintro next ⟨i,d,c⟩ ⟨⟨i1,i2,i3⟩,hd⟩ hnx
  dsimp only at i1 i2 i3 hd ⊢
  refine .ite (fun h=>?_) fun _=>hk16 _ ⟨by dsimp only;omega,hd⟩
  simp only[decide_eq_true_eq] at h
  refine .bind (AL hd (by omega)) ?_
  rintro⟨y,d⟩ ⟨y1,y2,hd⟩
  dsimp only at y1 y2 hd ⊢
  refine .bind (Ok.apnd (by decide) (by simp only[X22];omega)) fun r hr=>?_
  rw[AO (x:=i+1) (by omega),hr]
  exact hnx _ ⟨⟨by dsimp only;omega,by dsimp only;omega,by simp only[X11,X22];omega⟩,hd⟩ (by dsimp only;omega)
 rintro⟨d,q⟩ ⟨q1,hd⟩
 dsimp only at q1 hd ⊢
 rw[AO (by omega)]
 exact hnx _ ⟨⟨by dsimp only;omega,by dsimp only;omega⟩,hd⟩ (by dsimp only;omega)
theorem fm {v:Int}(h:0<=v/\v<9):AN (16+AN (Int.tdiv v 8))=16+v/8:=by
 rw[Int.tdiv_eq_ediv_of_nonneg h.1,AO (x:=v/8) (by omega),AO (by omega)]
theorem Wq {d:JAI}(hd:Dk d):Ok (Ho d) fun r=>r.1.length<=10000/\Dk r.2:=by
 unfold Ho
 refine .bind (AL hd (by omega)) ?_
 rintro⟨k,d⟩ ⟨-,-,hd⟩
 dsimp only at hd ⊢
 refine .ite (fun _=>?_) fun _=>?_
 ·refine .bind (NN hd) ?_
  rintro⟨u,d⟩ ⟨hu,hd⟩
  dsimp only at hu hd ⊢
  rw[Uh hu.s hu.sm.w hu.sm.n Of,AC]
  have:=ad (u:=u)
  exact .ret ⟨by dsimp only;omega,hd⟩
 refine .bind (Im hd) ?_
 rintro⟨a,d⟩ ⟨⟨b1,-⟩,hd⟩
 dsimp only at b1 hd ⊢
 have v:=Ju.1 b1
 rw[SI v,AC]
 dsimp only
 refine .bind (AL hd (by omega)) ?_
 rintro⟨k,d⟩ ⟨k1,k2,hd⟩
 dsimp only at k1 k2 hd ⊢
 have w1:=Of v
 refine .join (fun p:List JAA×JAI=>(p.1.length<=18/\∀x∈p.1,x.Data.length<=1000)/\Dk p.2) (fun k13 hk13=>?_) ?_
 ·refine .whileI (fun s:List JAA×Int×JAI=>(0<=s.2.1/\s.2.1+s.1.length<=18/\∀x∈s.1,x.Data.length<=1000)/\Dk s.2.2) (fun s=>s.2.1.toNat) ⟨⟨k1,by dsimp only;omega,fun x hx=>by have:=P2 v hx;omega⟩,hd⟩ (BY (by simp only;omega)) ?_
  rintro next ⟨l,c,d⟩ ⟨⟨h1,h2,h3⟩,hd⟩ hnx
  dsimp only at h1 h2 h3 hd ⊢
  refine .ite (fun h=>?_) fun _=>hk13 _ ⟨⟨by dsimp only;omega,h3⟩,hd⟩
  simp only[decide_eq_true_eq] at h
  refine .bind (AL hd (by omega)) ?_
  rintro⟨f,d⟩ ⟨f1,f2,hd⟩
  dsimp only at f1 f2 hd ⊢
  refine .bind (AL hd (by omega)) ?_
  rintro⟨g,d⟩ ⟨g1,g2,hd⟩
  dsimp only at g1 g2 hd ⊢
  rw[AO (x:=1+g) (by omega)]
  have e0:=Int.emod_nonneg f (b:=1+g) (by omega)
  have e1:=Int.emod_lt_of_pos f (b:=1+g) (by omega)
  rw[Int.tmod_eq_emod_of_nonneg f1]
  refine .bind (Ok.chk (by omega)) fun _ _=>.bind (.geti (by simp only[X12,X13];omega)) fun fl _=>?_
  refine .bind (AL hd (by omega)) ?_
  rintro⟨t,d⟩ ⟨t1,t2,hd⟩
  dsimp only at t1 t2 hd ⊢
  refine .bind (AL hd (by omega)) ?_
  rintro⟨s,d⟩ ⟨s1,s2,hd⟩
  dsimp only at s1 s2 hd ⊢
  refine .join (fun p:JAI×List UInt8=>p.2.length<=100/\Dk p.1) (fun k27 hk27=>.ite (fun _=>?_) fun _=>hk27 _ ⟨by simp,hd⟩) ?_
  ·refine .bind (AL hd (by omega)) ?_
   rintro⟨y,d⟩ ⟨y1,y2,hd⟩
   dsimp only at y1 y2 hd ⊢
   refine .bind (Ok.apnd (by decide) (by simp)) fun r hr=>?_
   refine .bind (AL hd (by omega)) ?_
   rintro⟨z,d⟩ ⟨z1,z2,hd⟩
   dsimp only at z1 z2 hd ⊢
   rw[fm ⟨z1,z2⟩]
   have hz:(16+z/8).toNat<=17:=by omega
   refine .bind (Ok.chk (by omega)) fun _ _=>.bind (Ok.apnd (by decide) (by rw[hr];simp only[X11,X12,X13,X20];omega)) fun r2 hr2=>?_
   refine .bind (AL hd (by omega)) ?_
   rintro⟨q,d⟩ ⟨q1,q2,hd⟩
   dsimp only at q1 q2 hd ⊢
   refine .bind (Ok.apnd (by decide) (by rw[hr2,hr];simp only[X11,X12,X13,X20];omega)) fun r3 hr3=>hk27 _ ⟨?_,hd⟩
   rw[hr3,hr2,hr]
   simp only[X11,X12,X13,X20]
   omega
  rintro⟨d,b⟩ ⟨hb,hd⟩
  dsimp only at hb hd ⊢
  refine .bind (MM hd (by omega)) ?_
  rintro⟨c2,d⟩ ⟨hc,hd⟩
  dsimp only at hc hd ⊢
  refine .bind (Ok.apnd (by decide) (by omega)) fun r hr=>?_
  have hrl:r.length<=200:=by rw[hr,X11];omega
  rw[AO (x:=(l.length:Int)+1) (by omega)]
  refine .bind (AL hd (by omega)) ?_
  rintro⟨i,d⟩ ⟨i1,i2,hd⟩
  dsimp only at i1 i2 hd ⊢
  refine .bind (Ok.part (by omega)) fun p1 hp1=>.bind (Ok.apnd (by decide) (by simp only[X13];omega)) fun _ _=>.bind (Ok.apnd (by decide) (by simp only[X22];omega)) fun p2 hp2=>.bind (Ok.part (by omega)) fun p3 hp3=>
   .bind (Ok.apnd (by decide) (by rw[hp2,X11,X22];omega)) fun p4 hp4=>?_
  rw[AO (x:=c-1) (by omega)]
  refine hnx _ ⟨⟨by dsimp only;omega,?_,?_⟩,hd⟩ (by dsimp only;omega)
  ·dsimp only
   rw[hp4,hp2,X11,X11,X22]
   omega
  dsimp only
  intro y hy
  rw[hp4,hp2] at hy
  rcases X23.1 hy with hy | hy
  ·rcases X23.1 hy with hy | hy
   ·rw[hp1.1] at hy
    exact h3 y (List.mem_of_mem_drop (List.mem_of_mem_take hy))
   rw[X14] at hy
   rw[hy]
   dsimp only
   omega
  rw[hp3.1] at hy
  exact h3 y (List.mem_of_mem_drop (List.mem_of_mem_take hy))
 rintro⟨l,d⟩ ⟨⟨l1,l2⟩,hd⟩
 dsimp only at l1 l2 hd ⊢
 refine .join (fun p:Bool×JAI=>(p.1=true->0<l.length)/\Dk p.2) (fun k50 hk50=>.ite (fun h=>.bind (AL hd (by omega)) fun r hr=>hk50 _ ⟨fun _=>?_,hr.2.2⟩) fun _=>hk50 _ ⟨(fun q=>nomatch q),hd⟩) ?_
 ·simp only[decide_eq_true_eq] at h
  omega
 rintro⟨c,d⟩ ⟨hc,hd⟩
 dsimp only at hc hd ⊢
 refine .join (fun p:List JAA×JAI=>(p.1.length<=18/\∀x∈p.1,x.Data.length<=1000)/\Dk p.2) (fun k55 hk55=>.ite (fun h=>?_) fun _=>hk55 _ ⟨⟨l1,l2⟩,hd⟩) ?_
 ·have hl:=hc h
  refine .bind (AL hd (by omega)) ?_
  rintro⟨i,d⟩ ⟨i1,i2,hd⟩
  dsimp only at i1 i2 hd ⊢
  rw[AO (x:=i+1) (by omega)]
  refine .bind (Ok.part (by omega)) fun p1 hp1=>.bind (Ok.apnd (by decide) (by simp only[X13];omega)) fun _ _=>.bind (Ok.part (by omega)) fun p3 hp3=>.bind (Ok.apnd (by decide) (by omega)) fun p4 hp4=>hk55 _ ⟨⟨?_,?_⟩,hd⟩
  ·dsimp only
   rw[hp4,X11]
   omega
  dsimp only
  intro y hy
  rw[hp4] at hy
  rcases X23.1 hy with hy | hy
  ·rw[hp1.1] at hy
   exact l2 y (List.mem_of_mem_drop (List.mem_of_mem_take hy))
  rw[hp3.1] at hy
  exact l2 y (List.mem_of_mem_drop (List.mem_of_mem_take hy))
 rintro⟨l,d⟩ ⟨⟨l1,l2⟩,hd⟩
 dsimp only at l1 l2 hd ⊢
 rw[Vz (by omega) (fun x hx=>by have:=l2 x hx;omega),AC]
 have hj:=OA (l:=l)
 refine .bind (MM hd (by omega)) ?_
 rintro⟨w,d⟩ ⟨hw,hd⟩
 dsimp only at hw hd ⊢
 refine .bind (Ok.apnd (by decide) (by simp only[X12,X13];omega)) fun r1 hr1=>?_
 have e1:r1.length<=50:=by rw[hr1,X11];simp only[X12,X13];omega
 refine .bind (Ok.apnd (by decide) (by simp only[X12,X13];omega)) fun r2 hr2=>?_
 have e2:r2.length<=60:=by rw[hr2,X11];simp only[X12,X13];omega
 refine .bind (Ok.apnd (by decide) (by omega)) fun r3 hr3=>?_
 have e3:r3.length<=3000:=by rw[hr3,X11];omega
 refine .bind (MM hd (by omega)) ?_
 rintro⟨q,d⟩ ⟨hq,hd⟩
 dsimp only at hq hd ⊢
 refine .bind (Ok.apnd (by decide) (by omega)) fun r4 hr4=>.ret ⟨?_,hd⟩
 dsimp only
 rw[hr4,X11]
 omega
theorem updateAny (b:List UInt8)(l:List Int)(x y:Int)(hl:l.length<=maxLen):Ds b l x y=some true:=by
 have hd:Dk ⟨l,0⟩:=⟨Int.le_refl _,Nat.le_trans hl (by decide)⟩
 have main:Ok (Ds b l x y) fun r=>r=true:=by
  unfold Ds
  rw[ac,AC]
  refine .ite (fun _=>?_) fun h=>?_
  ·rw[awake,AC]
   exact .ret rfl
  have hb:b.length<=600:=by
   cases h2:decide ((b.length:Int)<=600)
   ·rw[h2] at h;simp at h
   simp only[decide_eq_true_eq] at h2;omega
  rw[ct,AC]
  refine .bind (Wq hd) ?_
  rintro⟨c,d⟩ ⟨hc,hd⟩
  dsimp only at hc hd ⊢
  refine .bind (UQ (by omega)) fun s hs=>?_
  refine .join (fun _=>True) (fun k7 hk7=>.for_ (fun _=>hk7 _ trivial) fun next z i _ _ hz hn=>?_) fun _ _=>?_
  ·have sz:z.length<=400000:=by
    simp only[List.mem_cons,List.not_mem_nil,or_false] at hz
    rcases hz with rfl | rfl<;>omega
   refine .join (fun _=>True) (fun k11 hk11=>?_) fun _ _=>hn _
   rw[V8 sz,AC]
   rcases Zo sz with e | A
   ·rw[e]
    dsimp only
    rw[if_pos (by rfl),AH]
    exact hk11 _ trivial
   obtain⟨u,e,he⟩ :∃u e,XP z=(u,e):=⟨_,_,rfl⟩
   rw[he] at A ⊢
   dsimp only at A ⊢
   have h12:(e==12)=false:=by rcases A.c with h | h<;>rw[h]<;>rfl
   rw[h12,if_neg (by decide)]
   refine .join (fun v=>v=false) (fun k16 hk16=>?_) fun v hv=>?_
   ·rcases A.c with h | h
    ·rw[h,if_neg (by decide),if_neg (by decide)]
     exact hk16 _ rfl
    obtain⟨w1,w2⟩:=A.w h
    have:0<u.Withdraw.length:=List.length_pos_iff.2 w2
    have e2:((u.Withdraw.length:Int)==0)=false:=by simp only[beq_eq_false_iff_ne];omega
    rw[h,if_pos (by decide),if_neg (by decide),if_pos (by decide),w1,if_neg (by decide),e2]
    exact hk16 _ rfl
   rw[hv,if_neg (by decide)]
   obtain⟨n1,n2⟩:=A.n
   refine .bind (Ok.apnd (by decide) (by simp only[X13];omega)) fun _ _=>.bind (Ok.apnd (by decide) (by omega)) fun w hw=>?_
   refine .join (fun _=>True) (fun k19 hk19=>.for_ (fun _=>hk19 _ trivial) fun next p i _ _ hp hn=>?_) fun _ _=>?_
   ·have hg:CB p:=by
     rw[hw] at hp
     rcases X23.1 hp with hp | hp
     ·exact A.gw p hp
     exact (A.ga p hp).1
    rw[(HE p).1,AC,(HE p).2.2 hg,if_neg (by decide)]
    exact hn _
   refine .join (fun _=>True) (fun k24 hk24=>.for_ (fun _=>hk24 _ trivial) fun next p i _ _ hp hn=>?_) fun _ _=>?_
   ·have hne:u.Announce≠[]:=List.ne_nil_of_mem hp
    obtain⟨a1,a2,a3⟩:=A.a hne
    have a4:Addr.eqd u.JAE.Next ⟨false,0,0⟩=false:=by
     rw[Bool.eq_false_iff]
     exact fun q=>a2 ((Addr.eqd_iff _ _).1 q)
    have a5:decide (u.JAE.Origin<0)=false:=by rw[decide_eq_false_iff_not];omega
    rw[AH,(A.ga p hp).2,beq_self_eq_true,if_neg (by decide),a5,if_neg (by decide),a4,if_neg (by decide),OI a3.sm,AC,Ju.2 a3]
    exact hn _
   refine .join (fun v=>v=false) (fun k31 hk31=>.ite (fun h0=>?_) fun _=>hk31 _ rfl) fun v hv=>?_
   ·have:u.Announce=[]:=List.eq_nil_of_length_eq_zero (by simp only[beq_iff_eq] at h0;omega)
    rw[show DK=some eA from rfl,AC,A.z this,TO,AC]
    exact hk31 _ rfl
   rw[hv,if_neg (by decide)]
   exact hk11 _ trivial
  rw[awake,AC]
  exact .ret rfl
 obtain⟨r,h1,h2⟩:=main
 rw[h1,h2]
theorem UOk.enc {u:JAG}(h:UOk u) :∃a,encS u=(Kw u (Dc (Eg u)).1,0)/\(Dc (Eg u)).2=0/\a=WrU u/\WrU u/\(u.Announce=[]->u.JAE=eA):=by
 obtain⟨h1,h2,h3⟩:=aP h.v
 have e:=(NV u).2 h3
 unfold encS
 rw[if_pos h.v,e]
 unfold bdP at h3 ⊢
 simp only[X27,beq_iff_eq] at h3
 exact⟨_,rfl,h3.1,rfl,h1,h2⟩
theorem Xu {n:Nat}(h:n<65536) :∃a b:UInt8,two n=[a,b]/\a.toNat*256+b.toNat=n:=by
 have e1:Int.fdiv (n:Int) (2^(min (Int.toNat 8) 64))=((n/256:Nat):Int):=dl n
 refine⟨_,_,rfl,?_⟩
 rw[e1,D5,D5,UInt8.toNat_ofNat',UInt8.toNat_ofNat']
 omega
abbrev HL (l:List Int):Prop:=l.length<=maxLen/\l.length*8<=reachBytes/\∀a∈l,I64 a
theorem XA (b:List UInt8)(l:List Int)(x y:Int){p:Prop}(_:p)(h:HL l)(_:I64 x)(_:I64 y):Ds b l x y=some true:=updateAny b l x y h.1
end Go.AX.Q19
end
section
namespace Go.AX.Q19
open Go Go.AX Go.Proofs
variable {wl:Prop}
theorem V5 {a0:List Int}{r:JAI}(h:NF a0=some r):yC wl 12 [AV.d (D.l 1 D.i a0)] [] (.ref 0 0) [.box (JAI.av r)]:=by
 refine oK Tryz.f12 ⟨rfl,?_⟩;unfold NF at h;cases h;exact⟨rfl,rfl⟩
theorem Hk {r:JAE}(h:DK=some r):yC wl 17 [] [] (.d (JAE.toD r)) []:=by
 refine oK Tryz.f17 ⟨rfl,?_⟩;unfold DK at h;cases h;exact⟨rfl,rfl⟩
theorem KP {a0:Int}{a1:Int}{r:Int}(h:Hl a0 a1=some r):yC wl 14 [AV.d (D.i a0),AV.d (D.i a1)] [] (.d (D.i r)) []:=by
 refine oK Tryz.f14 ⟨rfl,?_⟩;unfold Hl at h;obtain⟨_,g1,h⟩:=AA h;refine⟨DJ g1,_,rfl,?_⟩;revert h;refine AD (fun v2=>⟨dd 5 (yi v2::dd 9 ([])),nn 15 ([])⟩) ?_ ?_
 ·intro k3 h;refine sJ h (fun h=>?_) fun h=>AB wk h;refine⟨_,rfl,?_⟩;exact AB wk h
 rintro v2 h;cases h;exact⟨rfl,rfl⟩
theorem AK {a0:JAI}{a1:Int}{r:Int×JAI}(h:AM a0 a1=some r):yC wl 25 [.ref 0 0,AV.d (D.i a1)] [.box (JAI.av a0)] (.d (D.i r.1)) [.box (JAI.av r.2)]:=by
 refine oK Tryz.f25 ⟨rfl,?_⟩;unfold AM at h;(conv=>whnf);refine .inl (dO ?_);refine⟨a0.L.length,X10 _,?_⟩;(conv=>whnf);refine cO ?_;(conv=>whnf);refine .go ?_;refine sJ h ?_ ?_<;>intro h
 ·cases h;exact⟨rfl,rfl⟩
 refine⟨_,rfl,?_⟩;(conv=>whnf);refine .inl (dO ?_);refine⟨_,rfl,?_⟩;obtain⟨v1,g2,h⟩:=AA h;refine⟨Af (f:=D.i) g2,D.i v1,Ai (f:=D.i) g2,rfl,?_⟩;obtain⟨v3,g4,h⟩:=AA h;refine⟨_,_,KP g4,.inl rfl,?_⟩;(conv=>whnf);refine cO ?_;cases h;exact⟨rfl,rfl⟩
theorem Nq {a0:Int}{r:Addr}(h:Iq a0=some r):yC wl 42 [AV.d (D.i a0)] [] (.d (Addr.toD r)) []:=by
 refine oK Tryz.f42 ⟨rfl,?_⟩;unfold Iq at h;refine⟨_,rfl,?_⟩;refine⟨_,Aw _,?_⟩;refine⟨_,Aw _,?_⟩;cases h;exact⟨rfl,rfl⟩
theorem O4 {a0:Int}{r:Addr}(h:KZ a0=some r):yC wl 43 [AV.d (D.i a0)] [] (.d (Addr.toD r)) []:=by
 refine oK Tryz.f43 ⟨rfl,?_⟩;unfold KZ at h;refine⟨_,rfl,?_⟩;refine⟨_,Aw _,?_⟩;cases h;exact⟨rfl,rfl⟩
theorem Kt {a0:List JAC}{r:Bool}(h:E0 a0=some r):yC wl 75 [AV.d (D.l 2 JAC.toD a0)] [] (.d (D.b r)) []:=by
 refine oK Tryz.f75 ⟨rfl,?_⟩;unfold E0 at h;refine⟨a0.length,X10 _,?_⟩;revert h;refine AD (fun v1=>⟨X::X::X::yi v1::dd 74 ([]),nn 78 ([])⟩) ?_ ?_
 ·intro k2 h;revert h;refine Ag 8 2 JAC.toD rfl (fun i3 v4=>⟨y0 a0::X::X::yi v4::dd 4 (y0 a0::yi (a0.length:Int)::yi (i3:Int)::dd 67 ([])),nn 78 ([])⟩) ?_ ?_ ?_
  ·exact wk
  ·rintro v4 K5 h;(conv=>whnf);refine .go ?_;(conv=>whnf);refine BJ CX ?_;exact AB wk h
  rintro next6 i3 x7 v4 K5 hii3 hxi3 hwi3 h hK8;(conv=>whnf);refine .go ?_;(conv=>whnf);refine BD (CN hii3) ?_;revert h;refine AD (fun _=>⟨y0 a0::X::X::yi (AN (v4+(x7.ASNs.length:Int)))::dd 4 (y0 a0::yi (a0.length:Int)::yi (i3:Int)::dd 67 ([])),nn 78 ([])⟩) ?_ ?_
  ·intro k9 h;refine⟨BE (f:=JAC.toD) hii3,JAC.toD x7,hxi3,rfl,?_⟩;revert h;refine AD (fun v10=>⟨y0 a0::X::X::yi v4::X::yr 5 0::X::X::y0 a0::yi (a0.length:Int)::yi (i3:Int)::dd 25 (yb v10::dd 41 ([])),nn 5 (yB (JAC.av x7)::nn 72 ([]))⟩) ?_ ?_
   ·intro k11 h;refine⟨x7.ASNs.length,X10 _,?_⟩;refine sJ h (fun h=>AB wk h) fun h=>?_;refine sJ h (fun h=>?_) fun h=>AB wk h;refine sJ h (fun h=>?_) fun h=>AB wk h;refine⟨_,rfl,?_⟩;obtain⟨v12,g13,h⟩:=AA h;refine⟨Af (f:=JAC.toD) g13,JAC.toD v12,Ai (f:=JAC.toD) g13,rfl,?_⟩;exact AB wk h
   rintro v10 h;(conv=>whnf);refine .go ?_;refine sJ h ?_ ?_<;>intro h
   ·cases h;exact⟨rfl,rfl⟩
   refine⟨x7.ASNs.length,X10 _,?_⟩;revert h;refine AD (fun _=>⟨y0 a0::X::X::yi v4::X::yr 5 0::X::X::y0 a0::yi (a0.length:Int)::yi (i3:Int)::dd 67 ([]),nn 5 (yB (JAC.av x7)::nn 72 ([]))⟩) ?_ ?_
   ·intro k14 h;revert h;refine Ag 38 1 D.i rfl (fun i15 _=>⟨y0 a0::X::X::yi v4::X::yr 5 0::X::X::y0 a0::yi (a0.length:Int)::yi (i3:Int)::dd 27 (AV.d (D.l 1 D.i x7.ASNs)::yi (x7.ASNs.length:Int)::yi (i15:Int)::dd 37 ([])),nn 5 (yB (JAC.av x7)::nn 72 ([]))⟩) ?_ ?_ ?_
    ·exact wk
    ·rintro _ K16 h;(conv=>whnf);refine .go ?_;(conv=>whnf);refine BJ CX ?_;exact AB wk h
    rintro next17 i15 x18 _ K16 hii15 hxi15 hwi15 h hK19;(conv=>whnf);refine .go ?_;(conv=>whnf);refine BD (CN hii15) ?_;(conv=>whnf);refine .go ?_;refine⟨BE (f:=D.i) hii15,D.i x18,hxi15,rfl,?_⟩;revert h;refine AD (fun v20=>⟨y0 a0::X::X::yi v4::X::yr 5 0::X::X::y0 a0::yi (a0.length:Int)::yi (i3:Int)::dd 27 (AV.d (D.l 1 D.i x7.ASNs)::yi (x7.ASNs.length:Int)::yi (i15:Int)::dd 27 (yb v20::dd 9 ([]))),nn 5 (yB (JAC.av x7)::nn 72 ([]))⟩) ?_ ?_
    ·intro k21 h;refine sJ h (fun h=>AB wk h) fun h=>?_;refine sJ h (fun h=>AB wk h) fun h=>?_;refine sJ h (fun h=>?_) fun h=>AB wk h;refine sJ h (fun h=>?_) fun h=>AB wk h;refine⟨_,rfl,?_⟩;obtain⟨v22,g23,h⟩:=AA h;refine⟨Af (f:=D.i) g23,D.i v22,Ai (f:=D.i) g23,rfl,?_⟩;exact AB wk h
    rintro v20 h;(conv=>whnf);refine .go ?_;refine sJ h ?_ ?_<;>intro h
    ·cases h;exact⟨rfl,rfl⟩
    refine⟨_,hwi15,?_⟩;exact hK19 _ _ wk h
   rintro _ h;refine⟨x7.ASNs.length,X10 _,?_⟩;refine⟨_,rfl,?_⟩;exact AB wk h
  rintro _ h;refine⟨_,hwi3,?_⟩;exact hK8 _ _ wk h
 rintro v1 h;cases h;exact⟨rfl,rfl⟩
theorem Ou {a0:JAI}{r:Int×JAI}(h:FX a0=some r):yC wl 88 [.ref 0 0] [.box (JAI.av a0)] (.d (D.i r.1)) [.box (JAI.av r.2)]:=by
 refine oK Tryz.f88 ⟨rfl,?_⟩;unfold FX at h;obtain⟨⟨v1,v2⟩,g3,h⟩:=AA h;refine⟨_,_,some [],AK g3,?_⟩;refine⟨_,rfl,?_⟩;obtain⟨⟨v4,v5⟩,g6,h⟩:=AA h;refine⟨_,_,some [],AK g6,?_⟩;refine⟨_,rfl,?_⟩;obtain⟨⟨v7,v8⟩,g9,h⟩:=AA h;refine⟨_,_,some [],AK g9,?_⟩;obtain⟨v10,g11,h⟩:=AA h;refine⟨rfl,Af (f:=D.i) g11,?_⟩;refine⟨rfl,D.i v10,(Ai (f:=D.i) g11),?_⟩;cases h;exact⟨rfl,rfl⟩
theorem NH {a0:JAI}{r:(List JAC)×JAI}(h:E9 a0=some r):yC wl 44 [.ref 0 0] [.box (JAI.av a0)] (.d (D.l 2 JAC.toD r.1)) [.box (JAI.av r.2)]:=by
 refine oK Tryz.f44 ⟨rfl,?_⟩;unfold E9 at h;obtain⟨⟨v1,v2⟩,g3,h⟩:=AA h;refine⟨_,_,some [],AK g3,?_⟩;revert h;refine AD (fun (v4,v5)=>⟨X::X::X::yO 4 JAC.toD v5::dd 106 ([]),yB (JAI.av v4)::N::N::N::yR 132 2 JAC.toD v5::nn 106 ([])⟩) ?_ ?_
 ·intro k6 h;revert h;refine Ap (fun (v7,v8,v9)=>⟨yr 0 0::X::X::yO 4 JAC.toD v9::yi v7::dd 105 ([]),yB (JAI.av v8)::N::N::N::yR 132 2 JAC.toD v9::nn 106 ([])⟩) ?_ ?_
  ·exact wk
  rintro next10 ⟨v7,v8,v9⟩ K11 h hK12;(conv=>whnf);refine .go ?_;refine sJ h (fun h=>?_) fun h=>AB wk h;revert h;refine AD (fun (v13,v14)=>⟨yr 0 0::X::X::yO 109 JAC.toD v14::yi v7::dd 105 ([]),yB (JAI.av v13)::nn 108 (yR 132 2 JAC.toD v14::N::[])⟩) ?_ ?_
  ·intro k15 h;revert h;refine AD (fun (v16,v17)=>⟨yr 0 0::X::X::yO 4 JAC.toD v9::yi v7::yb v16::dd 104 ([]),yB (JAI.av v17)::N::N::N::yR 132 2 JAC.toD v9::nn 106 ([])⟩) ?_ ?_
   ·intro k18 h;refine⟨v9.length,by first | exact X10 _ | rfl | (simp only[X10];omega),?_⟩;refine sJ h ?_ ?_<;>intro h
    ·refine⟨v9.length,by first | exact X10 _ | rfl | (simp only[X10];omega),?_⟩;refine⟨_,rfl,?_⟩;obtain⟨v19,g20,h⟩:=AA h;refine⟨rfl,Af (f:=JAC.toD) g20,?_⟩;refine⟨rfl,?_⟩;refine⟨rfl,JAC.toD v19,(Ai (f:=JAC.toD) g20),?_⟩;refine sJ h (fun h=>AB wk h) fun h=>?_;obtain⟨⟨v21,v22⟩,g23,h⟩:=AA h;refine⟨_,_,some [],AK g23,?_⟩;exact AB wk h
    obtain⟨⟨v24,v25⟩,g26,h⟩:=AA h;refine⟨_,_,some [],AK g26,?_⟩;exact AB wk h
   rintro⟨v16,v17⟩ h;obtain⟨⟨v27,v28⟩,g29,h⟩:=AA h;refine⟨_,_,some [],AK g29,?_⟩;refine⟨_,rfl,?_⟩;revert h;refine AD (fun (v30,v31)=>⟨yr 0 0::X::X::yO 4 JAC.toD v9::yi v7::X::yr 7 0::dd 103 ([]),yB (JAI.av v30)::N::N::N::yR 132 2 JAC.toD v9::N::N::yB [yb v16,yO 52 D.i v31]::nn 44 (yR 3 1 D.i v31::nn 58 ([]))⟩) ?_ ?_
   ·intro k32 h;revert h;refine Ap (fun (v33,v34,v35)=>⟨yr 0 0::X::X::yO 4 JAC.toD v9::yi v7::yb v16::yr 7 0::yi v33::dd 102 ([]),yB (JAI.av v34)::N::N::N::yR 132 2 JAC.toD v9::N::N::yB [yb v16,yO 52 D.i v35]::nn 44 (yR 3 1 D.i v35::nn 58 ([]))⟩) ?_ ?_
    ·exact wk
    rintro next36 ⟨v33,v34,v35⟩ K37 h hK38;(conv=>whnf);refine .go ?_;refine sJ h (fun h=>?_) fun h=>AB wk h;revert h;refine AD (fun (v39,v40)=>⟨yr 0 0::X::X::yO 4 JAC.toD v9::yi v7::yb v16::yr 7 0::yi v33::dd 102 ([]),yB (JAI.av v39)::N::N::N::yR 132 2 JAC.toD v9::N::N::yB [yb v16,yO 52 D.i v40]::nn 44 (yR 3 1 D.i v40::nn 58 ([]))⟩) ?_ ?_
    ·intro k41 h;obtain⟨⟨v42,v43⟩,g44,h⟩:=AA h;refine⟨_,_,some [],Ou g44,?_⟩;(conv=>whnf);refine .go ?_;refine sJ h ?_ ?_<;>intro h
     ·refine⟨rfl,?_⟩;obtain⟨v45,g46,h⟩:=AA h;refine⟨rfl,AT (f:=D.i) (g:=D.i) g46,_,AU (f:=D.i) g46,?_⟩;exact AB wk h
     revert h;refine AD (fun v47=>⟨yr 0 0::X::X::yO 4 JAC.toD v9::yi v7::yb v16::yr 7 0::yi v33::yi v42::yi v47::dd 100 ([]),yB (JAI.av v43)::N::N::N::yR 132 2 JAC.toD v9::N::N::yB [yb v16,yO 52 D.i v35]::nn 44 (yR 3 1 D.i v35::nn 58 ([]))⟩) ?_ ?_
     ·intro k48 h;revert h;refine Ap (fun v49=>⟨yr 0 0::X::X::yO 4 JAC.toD v9::yi v7::yb v16::yr 7 0::yi v33::yi v42::yi v49::dd 100 ([]),yB (JAI.av v43)::N::N::N::yR 132 2 JAC.toD v9::N::N::yB [yb v16,yO 52 D.i v35]::nn 44 (yR 3 1 D.i v35::nn 58 ([]))⟩) ?_ ?_
      ·exact wk
      rintro next50 v49 K51 h hK52;revert h;refine AD (fun v53=>⟨yr 0 0::X::X::yO 4 JAC.toD v9::yi v7::yb v16::yr 7 0::yi v33::yi v42::yi v49::dd 56 (yb v53::dd 43 ([])),yB (JAI.av v43)::N::N::N::yR 132 2 JAC.toD v9::N::N::yB [yb v16,yO 52 D.i v35]::nn 44 (yR 3 1 D.i v35::nn 58 ([]))⟩) ?_ ?_
      ·intro k54 h;refine⟨v35.length,by first | exact X10 _ | rfl | (simp only[X10];omega),?_⟩;refine sJ h (fun h=>?_) fun h=>AB wk h;obtain⟨v55,g56,h⟩:=AA h;refine⟨rfl,Af (f:=D.i) g56,?_⟩;refine⟨rfl,D.i v55,(Ai (f:=D.i) g56),?_⟩;exact AB wk h
      rintro v53 h;(conv=>whnf);refine .go ?_;refine sJ h (fun h=>?_) fun h=>AB wk h;(conv=>whnf);refine .go ?_;refine⟨_,rfl,?_⟩;exact hK52 _ _ wk h
     rintro v47 h;revert h;refine AD (fun v57=>⟨yr 0 0::X::X::yO 4 JAC.toD v9::yi v7::yb v16::yr 7 0::yi v33::yi v42::yi v47::dd 72 (yb v57::dd 27 ([])),yB (JAI.av v43)::N::N::N::yR 132 2 JAC.toD v9::N::N::yB [yb v16,yO 52 D.i v35]::nn 44 (yR 3 1 D.i v35::nn 58 ([]))⟩) ?_ ?_
     ·intro k58 h;refine⟨v35.length,by first | exact X10 _ | rfl | (simp only[X10];omega),?_⟩;refine sJ h (fun h=>AB wk h) fun h=>?_;obtain⟨v59,g60,h⟩:=AA h;refine⟨rfl,Af (f:=D.i) g60,?_⟩;refine⟨rfl,D.i v59,(Ai (f:=D.i) g60),?_⟩;exact AB wk h
     rintro v57 h;revert h;refine AD (fun v61=>⟨yr 0 0::X::X::yO 4 JAC.toD v9::yi v7::yb v16::yr 7 0::yi v33::dd 102 ([]),yB (JAI.av v43)::N::N::N::yR 132 2 JAC.toD v9::N::N::yB [yb v16,yO 88 D.i v61]::nn 80 (yR 3 1 D.i v61::nn 22 ([]))⟩) ?_ ?_
     ·intro k62 h;refine sJ h ?_ ?_<;>intro h
      ·(conv=>whnf);refine .inl (dO ?_);(conv=>whnf);refine .inr (.inl ?_);obtain⟨_,g63,h⟩:=AA h;have g169c:=DJ g63;refine⟨UK (f:=D.i) g63,rfl,(Int.toNat 0),(Int.toNat v47-Int.toNat 0),rfl,rfl,?_⟩;refine⟨(by first | rfl | (simp only[X10,X21];omega)|(simp only[cpy,X10,X21,X11,X18,X17,X20];omega)),List.map D.i (List.take (Int.toNat v47-Int.toNat 0) (List.drop (Int.toNat 0) v35)),Om,?_⟩;obtain⟨_,g64,h⟩:=AA h;refine⟨D4 (g:=D.i) g64,?_⟩;refine⟨rfl,?_⟩;obtain⟨v65,g66,h⟩:=AA h;refine⟨rfl,AT (f:=D.i) (g:=D.i) g66,_,AU (f:=D.i) g66,?_⟩;(conv=>whnf);refine .inr (.inl ?_);obtain⟨_,g67,h⟩:=AA h;have g175c:=DJ g67;refine⟨HY (f:=D.i) g67,rfl,(Int.toNat v47),(Int.toNat (v35.length:Int)-Int.toNat v47),rfl,(by rw[X10]),?_⟩;refine⟨(by first | rfl | (simp only[X10,X21];omega)|(simp only[cpy,X10,X21,X11,X18,X17,X20];omega)),List.map D.i (List.take (Int.toNat (v35.length:Int)-Int.toNat v47) (List.drop (Int.toNat v47) v35)),Om,?_⟩;obtain⟨v68,g69,h⟩:=AA h;refine⟨rfl,AT (f:=D.i) (g:=D.i) g69,_,AU (f:=D.i) g69,?_⟩;(conv=>whnf);refine cO ?_;exact AB wk h
      exact AB (.swap 52 88 rfl rfl rfl wk) h
     rintro v61 h;exact AB (.swap 88 52 rfl rfl rfl wk) h
    rintro⟨v39,v40⟩ h;refine⟨_,rfl,?_⟩;exact hK38 _ _ wk h
   rintro⟨v30,v31⟩ h;(conv=>whnf);refine .inl ?_;refine⟨rfl,?_⟩;refine⟨rfl,?_⟩;obtain⟨v70,g71,h⟩:=AA h;refine⟨rfl,AT (f:=JAC.toD) (g:=JAC.toD) g71,_,AU (f:=JAC.toD) g71,?_⟩;refine⟨rfl,?_⟩;obtain⟨v72,g73,h⟩:=AA h;refine⟨_,_,none,Kt g73,?_⟩;revert h;refine AD (fun v74=>⟨yr 0 0::X::X::yO 109 JAC.toD v74::yi v7::dd 105 ([]),yB (JAI.av v30)::nn 108 (yR 132 2 JAC.toD v74::N::[])⟩) ?_ ?_
   ·intro k75 h;refine sJ h ?_ ?_<;>intro h
    ·refine⟨v70.length,by first | exact X10 _ | rfl | (simp only[X10];omega),?_⟩;refine⟨_,rfl,?_⟩;(conv=>whnf);refine .inr (.inr ?_);obtain⟨v76,g77,h⟩:=AA h;refine⟨Qo (f:=JAC.toD) g77,rfl,_,Dj (f:=JAC.toD) g77,?_⟩;exact AB wk h
    exact AB (.swap 4 109 rfl rfl rfl wk) h
   rintro v74 h;exact AB wk h
  rintro⟨v13,v14⟩ h;refine⟨_,rfl,?_⟩;exact hK12 _ _ (.swap 109 4 rfl rfl rfl wk) h
 rintro⟨v4,v5⟩ h;(conv=>whnf);refine .inl ?_;(conv=>whnf);refine .inl ?_;refine⟨rfl,?_⟩;cases h;exact⟨rfl,rfl⟩
theorem Ks {a0:JAB}{r:Bool}(h:EO a0=some r):yC wl 127 [AV.d (JAB.toD a0)] [] (.d (D.b r)) []:=by
 refine oK Tryz.f127 ⟨rfl,?_⟩;unfold EO at h;revert h;refine AD (fun v1=>⟨X::X::yb v1::dd 18 ([]),nn 21 ([])⟩) ?_ ?_
 ·intro k2 h;refine sJ h (fun h=>?_) fun h=>AB wk h;refine sJ h (fun h=>?_) fun h=>AB wk h;exact sJ h (fun h=>AB wk h) fun h=>AB wk h
 rintro v1 h;cases h;exact⟨rfl,rfl⟩
theorem LY {a0:JAB}{a1:JAB}{r:Bool}(h:EU a0 a1=some r):yC wl 128 [AV.d (JAB.toD a0),AV.d (JAB.toD a1)] [] (.d (D.b r)) []:=by
 refine oK Tryz.f128 ⟨rfl,?_⟩;unfold EU at h;revert h;refine AD (fun v1=>⟨dd 4 (yb v1::dd 19 ([])),nn 24 ([])⟩) ?_ ?_
 ·intro k2 h;refine sJ h (fun h=>AB wk h) fun h=>?_;exact sJ h (fun h=>AB wk h) fun h=>AB wk h
 rintro v1 h;cases h;exact⟨rfl,rfl⟩
theorem H8 {a0:List JAB}{r:Bool}(h:Et a0=some r):yC wl 77 [AV.d (D.l 2 JAB.toD a0)] [] (.d (D.b r)) []:=by
 refine oK Tryz.f77 ⟨rfl,?_⟩;unfold Et at h;refine⟨a0.length,X10 _,?_⟩;revert h;refine AD (fun _=>⟨y1 a0::dd 32 ([]),nn 33 ([])⟩) ?_ ?_
 ·intro k1 h;revert h;refine Ag 5 2 JAB.toD rfl (fun i2 _=>⟨y1 a0::dd 4 (y1 a0::yi (a0.length:Int)::yi (i2:Int)::dd 25 ([])),nn 33 ([])⟩) ?_ ?_ ?_
  ·exact wk
  ·rintro _ K3 h;(conv=>whnf);refine .go ?_;(conv=>whnf);refine BJ CX ?_;exact AB wk h
  rintro next4 i2 x5 _ K3 hii2 hxi2 hwi2 h hK6;(conv=>whnf);refine .go ?_;(conv=>whnf);refine BD (CN hii2) ?_;(conv=>whnf);refine .go ?_;refine⟨BE (f:=JAB.toD) hii2,JAB.toD x5,hxi2,rfl,?_⟩;revert h;refine AD (fun v7=>⟨y1 a0::dd 4 (y1 a0::yi (a0.length:Int)::yi (i2:Int)::dd 20 (yb v7::dd 4 ([]))),nn 33 ([])⟩) ?_ ?_
  ·intro k8 h;(conv=>whnf);refine .inl (dO ?_);obtain⟨v9,g10,h⟩:=AA h;refine⟨_,_,Ks g10,.inl rfl,?_⟩;refine sJ h ?_ ?_<;>intro h
   ·(conv=>whnf);refine cO ?_;exact AB wk h
   refine sJ h ?_ ?_<;>intro h
   ·refine⟨_,rfl,?_⟩;obtain⟨v11,g12,h⟩:=AA h;refine⟨Af (f:=JAB.toD) g12,JAB.toD v11,Ai (f:=JAB.toD) g12,rfl,?_⟩;obtain⟨v13,g14,h⟩:=AA h;refine⟨_,_,LY g14,.inl rfl,?_⟩;(conv=>whnf);refine cO ?_;exact AB wk h
   (conv=>whnf);refine cO ?_;exact AB wk h
  rintro v7 h;(conv=>whnf);refine .go ?_;refine sJ h ?_ ?_<;>intro h
  ·cases h;exact⟨rfl,rfl⟩
  refine⟨_,hwi2,?_⟩;exact hK6 _ _ wk h
 rintro _ h;refine⟨a0.length,X10 _,?_⟩;cases h;exact⟨rfl,rfl⟩
theorem UU {a0:List JAB}{a1:JAB}{r:Bool}(h:Gm a0 a1=some r):yC wl 132 [AV.d (D.l 2 JAB.toD a0),AV.d (JAB.toD a1)] [] (.d (D.b r)) []:=by
 refine oK Tryz.f132 ⟨rfl,?_⟩;unfold Gm at h;refine⟨a0.length,X10 _,?_⟩;revert h;refine AD (fun _=>⟨dd 17 ([]),nn 17 ([])⟩) ?_ ?_
 ·intro k1 h;revert h;refine Ag 7 2 JAB.toD rfl (fun i2 _=>⟨X::X::X::yr 3 0::X::X::X::y1 a0::yi (a0.length:Int)::yi (i2:Int)::dd 7 ([]),N::N::N::yB (JAB.av a1)::nn 13 ([])⟩) ?_ ?_ ?_
  ·exact wk
  ·rintro _ K3 h;(conv=>whnf);refine .go ?_;(conv=>whnf);refine BJ CX ?_;exact AB wk h
  rintro next4 i2 x5 _ K3 hii2 hxi2 hwi2 h hK6;(conv=>whnf);refine .go ?_;(conv=>whnf);refine BD (CN hii2) ?_;(conv=>whnf);refine .go ?_;refine⟨BE (f:=JAB.toD) hii2,JAB.toD x5,hxi2,rfl,?_⟩;(conv=>whnf);refine .go ?_;refine sJ h ?_ ?_<;>intro h
  ·cases h;exact⟨rfl,rfl⟩
  refine⟨_,hwi2,?_⟩;exact hK6 _ _ wk h
 rintro _ h;cases h;exact⟨rfl,rfl⟩
theorem UH {a0:List JAB}{a1:JAB}{r:(List JAB)×Int}(h:It a0 a1=some r):yC wl 89 [AV.d (D.l 2 JAB.toD a0),AV.d (JAB.toD a1)] [] (.tup [.d (D.l 2 JAB.toD r.1),.d (D.i r.2)]) []:=by
 refine oK Tryz.f89 ⟨rfl,?_⟩;unfold It at h;(conv=>whnf);refine .go ?_;revert h;refine AD (fun v1=>⟨y1 a0::X::X::yr 3 0::X::X::X::yb v1::dd 43 ([]),N::N::N::yB (JAB.av a1)::nn 47 ([])⟩) ?_ ?_
 ·intro k2 h;obtain⟨v3,g4,h⟩:=AA h;refine⟨_,_,some [],H8 g4,?_⟩;refine sJ h (fun h=>AB wk h) fun h=>?_;obtain⟨v5,g6,h⟩:=AA h;refine⟨_,_,some [],Ks g6,?_⟩;exact AB wk h
 rintro v1 h;(conv=>whnf);refine .go ?_;refine sJ h ?_ ?_<;>intro h
 ·(conv=>whnf);refine .inl ?_;refine⟨rfl,?_⟩;cases h;exact⟨rfl,rfl⟩
 obtain⟨v7,g8,h⟩:=AA h;refine⟨_,_,some [],UU g8,?_⟩;(conv=>whnf);refine .go ?_;refine sJ h ?_ ?_<;>intro h
 ·obtain⟨_,g9,h⟩:=AA h;refine⟨D4 (g:=JAB.toD) g9,?_⟩;(conv=>whnf);refine .inl ?_;refine⟨rfl,?_⟩;cases h;exact⟨rfl,rfl⟩
 refine⟨a0.length,X10 _,?_⟩;(conv=>whnf);refine .go ?_;refine sJ h ?_ ?_<;>intro h
 ·(conv=>whnf);refine .inl ?_;refine⟨rfl,?_⟩;cases h;exact⟨rfl,rfl⟩
 revert h;refine AD (fun v10=>⟨y1 a0::X::X::yr 3 0::X::X::yi v10::dd 44 ([]),N::N::N::yB (JAB.av a1)::nn 47 ([])⟩) ?_ ?_
 ·intro k11 h;revert h;refine Ap (fun v12=>⟨y1 a0::X::X::yr 3 0::X::X::yi v12::dd 44 ([]),N::N::N::yB (JAB.av a1)::nn 47 ([])⟩) ?_ ?_
  ·exact wk
  rintro next13 v12 K14 h hK15;revert h;refine AD (fun v16=>⟨y1 a0::X::X::yr 3 0::X::X::yi v12::dd 30 (yb v16::dd 13 ([])),N::N::N::yB (JAB.av a1)::nn 47 ([])⟩) ?_ ?_
  ·intro k17 h;(conv=>whnf);refine .inl (dO ?_);refine⟨a0.length,X10 _,?_⟩;refine sJ h ?_ ?_<;>intro h
   ·obtain⟨v18,g19,h⟩:=AA h;refine⟨Af (f:=JAB.toD) g19,JAB.toD v18,Ai (f:=JAB.toD) g19,rfl,?_⟩;obtain⟨v20,g21,h⟩:=AA h;refine⟨_,_,LY g21,.inl rfl,?_⟩;(conv=>whnf);refine cO ?_;exact AB wk h
   (conv=>whnf);refine cO ?_;exact AB wk h
  rintro v16 h;(conv=>whnf);refine .go ?_;refine sJ h (fun h=>?_) fun h=>AB wk h;(conv=>whnf);refine .go ?_;refine⟨_,rfl,?_⟩;exact hK15 _ _ wk h
 rintro v10 h;(conv=>whnf);refine .inl (dO ?_);obtain⟨v22,g23,h⟩:=AA h;refine⟨EQ (f:=JAB.toD) g23,_,Dj (f:=JAB.toD) g23,?_⟩;obtain⟨_,g24,h⟩:=AA h;refine⟨D4 (g:=JAB.toD) g24,?_⟩;refine⟨rfl,?_⟩;obtain⟨v25,g26,h⟩:=AA h;refine⟨rfl,AT (f:=JAB.toD) (g:=JAB.toD) g26,_,AU (f:=JAB.toD) g26,?_⟩;obtain⟨v27,g28,h⟩:=AA h;refine⟨FP (f:=JAB.toD) g28,_,FM (f:=JAB.toD) g28,?_⟩;obtain⟨v29,g30,h⟩:=AA h;refine⟨rfl,AT (f:=JAB.toD) (g:=JAB.toD) g30,_,AU (f:=JAB.toD) g30,?_⟩;(conv=>whnf);refine cO ?_;(conv=>whnf);refine .inl ?_;refine⟨rfl,?_⟩;cases h;exact⟨rfl,rfl⟩
theorem HU {a0:JAF}{r:Bool}(h:B5 a0=some r):yC wl 129 [AV.d (JAF.toD a0)] [] (.d (D.b r)) []:=by
 refine oK Tryz.f129 ⟨rfl,?_⟩;unfold B5 at h;revert h;refine AD (fun v1=>⟨X::X::yb v1::dd 28 ([]),nn 31 ([])⟩) ?_ ?_
 ·intro k2 h;refine sJ h (fun h=>?_) fun h=>AB wk h;refine sJ h (fun h=>?_) fun h=>AB wk h;refine sJ h (fun h=>?_) fun h=>AB wk h;refine sJ h (fun h=>?_) fun h=>AB wk h;exact sJ h (fun h=>AB wk h) fun h=>AB wk h
 rintro v1 h;cases h;exact⟨rfl,rfl⟩
theorem H5 {a0:JAF}{a1:JAF}{r:Bool}(h:Bz a0 a1=some r):yC wl 130 [AV.d (JAF.toD a0),AV.d (JAF.toD a1)] [] (.d (D.b r)) []:=by
 refine oK Tryz.f130 ⟨rfl,?_⟩;unfold Bz at h;revert h;refine AD (fun v1=>⟨dd 4 (yb v1::dd 33 ([])),nn 38 ([])⟩) ?_ ?_
 ·intro k2 h;refine sJ h (fun h=>AB wk h) fun h=>?_;refine sJ h (fun h=>?_) fun h=>AB wk h;refine sJ h (fun h=>AB wk h) fun h=>?_;exact sJ h (fun h=>AB wk h) fun h=>AB wk h
 rintro v1 h;cases h;exact⟨rfl,rfl⟩
theorem FT {a0:List JAF}{r:Bool}(h:Cb a0=some r):yC wl 78 [AV.d (D.l 3 JAF.toD a0)] [] (.d (D.b r)) []:=by
 refine oK Tryz.f78 ⟨rfl,?_⟩;unfold Cb at h;refine⟨a0.length,X10 _,?_⟩;revert h;refine AD (fun _=>⟨y2 a0::dd 32 ([]),nn 33 ([])⟩) ?_ ?_
 ·intro k1 h;revert h;refine Ag 5 3 JAF.toD rfl (fun i2 _=>⟨y2 a0::dd 4 (y2 a0::yi (a0.length:Int)::yi (i2:Int)::dd 25 ([])),nn 33 ([])⟩) ?_ ?_ ?_
  ·exact wk
  ·rintro _ K3 h;(conv=>whnf);refine .go ?_;(conv=>whnf);refine BJ CX ?_;exact AB wk h
  rintro next4 i2 x5 _ K3 hii2 hxi2 hwi2 h hK6;(conv=>whnf);refine .go ?_;(conv=>whnf);refine BD (CN hii2) ?_;(conv=>whnf);refine .go ?_;refine⟨BE (f:=JAF.toD) hii2,JAF.toD x5,hxi2,rfl,?_⟩;revert h;refine AD (fun v7=>⟨y2 a0::dd 4 (y2 a0::yi (a0.length:Int)::yi (i2:Int)::dd 20 (yb v7::dd 4 ([]))),nn 33 ([])⟩) ?_ ?_
  ·intro k8 h;(conv=>whnf);refine .inl (dO ?_);obtain⟨v9,g10,h⟩:=AA h;refine⟨_,_,HU g10,.inl rfl,?_⟩;refine sJ h ?_ ?_<;>intro h
   ·(conv=>whnf);refine cO ?_;exact AB wk h
   refine sJ h ?_ ?_<;>intro h
   ·refine⟨_,rfl,?_⟩;obtain⟨v11,g12,h⟩:=AA h;refine⟨Af (f:=JAF.toD) g12,JAF.toD v11,Ai (f:=JAF.toD) g12,rfl,?_⟩;obtain⟨v13,g14,h⟩:=AA h;refine⟨_,_,H5 g14,.inl rfl,?_⟩;(conv=>whnf);refine cO ?_;exact AB wk h
   (conv=>whnf);refine cO ?_;exact AB wk h
  rintro v7 h;(conv=>whnf);refine .go ?_;refine sJ h ?_ ?_<;>intro h
  ·cases h;exact⟨rfl,rfl⟩
  refine⟨_,hwi2,?_⟩;exact hK6 _ _ wk h
 rintro _ h;refine⟨a0.length,X10 _,?_⟩;cases h;exact⟨rfl,rfl⟩
theorem NA {a0:List JAF}{a1:JAF}{r:Bool}(h:Di a0 a1=some r):yC wl 133 [AV.d (D.l 3 JAF.toD a0),AV.d (JAF.toD a1)] [] (.d (D.b r)) []:=by
 refine oK Tryz.f133 ⟨rfl,?_⟩;unfold Di at h;refine⟨a0.length,X10 _,?_⟩;revert h;refine AD (fun _=>⟨dd 17 ([]),nn 17 ([])⟩) ?_ ?_
 ·intro k1 h;revert h;refine Ag 7 3 JAF.toD rfl (fun i2 _=>⟨X::X::X::yr 3 0::X::X::X::y2 a0::yi (a0.length:Int)::yi (i2:Int)::dd 7 ([]),N::N::N::yB (JAF.av a1)::nn 13 ([])⟩) ?_ ?_ ?_
  ·exact wk
  ·rintro _ K3 h;(conv=>whnf);refine .go ?_;(conv=>whnf);refine BJ CX ?_;exact AB wk h
  rintro next4 i2 x5 _ K3 hii2 hxi2 hwi2 h hK6;(conv=>whnf);refine .go ?_;(conv=>whnf);refine BD (CN hii2) ?_;(conv=>whnf);refine .go ?_;refine⟨BE (f:=JAF.toD) hii2,JAF.toD x5,hxi2,rfl,?_⟩;(conv=>whnf);refine .go ?_;refine sJ h ?_ ?_<;>intro h
  ·cases h;exact⟨rfl,rfl⟩
  refine⟨_,hwi2,?_⟩;exact hK6 _ _ wk h
 rintro _ h;cases h;exact⟨rfl,rfl⟩
theorem MR {a0:List JAF}{a1:JAF}{r:(List JAF)×Int}(h:FC a0 a1=some r):yC wl 90 [AV.d (D.l 3 JAF.toD a0),AV.d (JAF.toD a1)] [] (.tup [.d (D.l 3 JAF.toD r.1),.d (D.i r.2)]) []:=by
 refine oK Tryz.f90 ⟨rfl,?_⟩;unfold FC at h;(conv=>whnf);refine .go ?_;revert h;refine AD (fun v1=>⟨y2 a0::X::X::yr 3 0::X::X::X::yb v1::dd 43 ([]),N::N::N::yB (JAF.av a1)::nn 47 ([])⟩) ?_ ?_
 ·intro k2 h;obtain⟨v3,g4,h⟩:=AA h;refine⟨_,_,some [],FT g4,?_⟩;refine sJ h (fun h=>AB wk h) fun h=>?_;obtain⟨v5,g6,h⟩:=AA h;refine⟨_,_,some [],HU g6,?_⟩;exact AB wk h
 rintro v1 h;(conv=>whnf);refine .go ?_;refine sJ h ?_ ?_<;>intro h
 ·(conv=>whnf);refine .inl ?_;refine⟨rfl,?_⟩;cases h;exact⟨rfl,rfl⟩
 obtain⟨v7,g8,h⟩:=AA h;refine⟨_,_,some [],NA g8,?_⟩;(conv=>whnf);refine .go ?_;refine sJ h ?_ ?_<;>intro h
 ·obtain⟨_,g9,h⟩:=AA h;refine⟨D4 (g:=JAF.toD) g9,?_⟩;(conv=>whnf);refine .inl ?_;refine⟨rfl,?_⟩;cases h;exact⟨rfl,rfl⟩
 refine⟨a0.length,X10 _,?_⟩;(conv=>whnf);refine .go ?_;refine sJ h ?_ ?_<;>intro h
 ·(conv=>whnf);refine .inl ?_;refine⟨rfl,?_⟩;cases h;exact⟨rfl,rfl⟩
 revert h;refine AD (fun v10=>⟨y2 a0::X::X::yr 3 0::X::X::yi v10::dd 44 ([]),N::N::N::yB (JAF.av a1)::nn 47 ([])⟩) ?_ ?_
 ·intro k11 h;revert h;refine Ap (fun v12=>⟨y2 a0::X::X::yr 3 0::X::X::yi v12::dd 44 ([]),N::N::N::yB (JAF.av a1)::nn 47 ([])⟩) ?_ ?_
  ·exact wk
  rintro next13 v12 K14 h hK15;revert h;refine AD (fun v16=>⟨y2 a0::X::X::yr 3 0::X::X::yi v12::dd 30 (yb v16::dd 13 ([])),N::N::N::yB (JAF.av a1)::nn 47 ([])⟩) ?_ ?_
  ·intro k17 h;(conv=>whnf);refine .inl (dO ?_);refine⟨a0.length,X10 _,?_⟩;refine sJ h ?_ ?_<;>intro h
   ·obtain⟨v18,g19,h⟩:=AA h;refine⟨Af (f:=JAF.toD) g19,JAF.toD v18,Ai (f:=JAF.toD) g19,rfl,?_⟩;obtain⟨v20,g21,h⟩:=AA h;refine⟨_,_,H5 g21,.inl rfl,?_⟩;(conv=>whnf);refine cO ?_;exact AB wk h
   (conv=>whnf);refine cO ?_;exact AB wk h
  rintro v16 h;(conv=>whnf);refine .go ?_;refine sJ h (fun h=>?_) fun h=>AB wk h;(conv=>whnf);refine .go ?_;refine⟨_,rfl,?_⟩;exact hK15 _ _ wk h
 rintro v10 h;(conv=>whnf);refine .inl (dO ?_);obtain⟨v22,g23,h⟩:=AA h;refine⟨EQ (f:=JAF.toD) g23,_,Dj (f:=JAF.toD) g23,?_⟩;obtain⟨_,g24,h⟩:=AA h;refine⟨D4 (g:=JAF.toD) g24,?_⟩;refine⟨rfl,?_⟩;obtain⟨v25,g26,h⟩:=AA h;refine⟨rfl,AT (f:=JAF.toD) (g:=JAF.toD) g26,_,AU (f:=JAF.toD) g26,?_⟩;obtain⟨v27,g28,h⟩:=AA h;refine⟨FP (f:=JAF.toD) g28,_,FM (f:=JAF.toD) g28,?_⟩;obtain⟨v29,g30,h⟩:=AA h;refine⟨rfl,AT (f:=JAF.toD) (g:=JAF.toD) g30,_,AU (f:=JAF.toD) g30,?_⟩;(conv=>whnf);refine cO ?_;(conv=>whnf);refine .inl ?_;refine⟨rfl,?_⟩;cases h;exact⟨rfl,rfl⟩
theorem Ia {a0:JAI}{r:(List JAB)×(List JAF)×JAI}(h:CS a0=some r):yC wl 45 [.ref 0 0] [.box (JAI.av a0)] (.tup [.d (D.l 2 JAB.toD r.1),.d (D.l 3 JAF.toD r.2.1)]) [.box (JAI.av r.2.2)]:=by
 refine oK Tryz.f45 ⟨rfl,?_⟩;unfold CS at h;obtain⟨⟨v1,v2⟩,g3,h⟩:=AA h;refine⟨_,_,some [],AK g3,?_⟩;revert h;refine AD (fun (v4,v5)=>⟨yr 0 0::X::X::X::y1 v4::AV.own 6 (List.map JAF.toD []).length::dd 50 ([]),yB (JAI.av v5)::nn 5 (some (OB.row 141 3 (List.map JAF.toD []) .no)::nn 50 ([]))⟩) ?_ ?_
 ·intro k6 h;revert h;refine Ap (fun (v7,v8,v9)=>⟨yr 0 0::X::X::X::y1 v7::AV.own 6 (List.map JAF.toD []).length::yi v8::dd 49 ([]),yB (JAI.av v9)::nn 5 (some (OB.row 141 3 (List.map JAF.toD []) .no)::nn 50 ([]))⟩) ?_ ?_
  ·exact wk
  rintro next10 ⟨v7,v8,v9⟩ K11 h hK12;(conv=>whnf);refine .go ?_;refine sJ h (fun h=>?_) fun h=>AB wk h;(conv=>whnf);refine .go ?_;(conv=>whnf);refine .inl (dO ?_);obtain⟨⟨v13,v14⟩,g15,h⟩:=AA h;refine⟨_,_,AK g15,.inl rfl,?_⟩;obtain⟨v16,g17,h⟩:=AA h;refine⟨rfl,Af (f:=D.i) g17,?_⟩;refine⟨rfl,D.i v16,(Ai (f:=D.i) g17),?_⟩;obtain⟨⟨v18,v19⟩,g20,h⟩:=AA h;refine⟨_,_,AK g20,.inl rfl,?_⟩;refine⟨_,rfl,?_⟩;obtain⟨⟨v21,v22⟩,g23,h⟩:=AA h;refine⟨_,_,AK g23,.inl rfl,?_⟩;obtain⟨v24,g25,h⟩:=AA h;refine⟨rfl,Af (f:=D.i) g25,?_⟩;refine⟨rfl,D.i v24,(Ai (f:=D.i) g25),?_⟩;obtain⟨⟨v26,v27⟩,g28,h⟩:=AA h;refine⟨_,_,UH g28,.inl rfl,?_⟩;(conv=>whnf);refine cO ?_;refine⟨_,rfl,?_⟩;exact hK12 _ _ wk h
 rintro⟨v4,v5⟩ h;obtain⟨⟨v29,v30⟩,g31,h⟩:=AA h;refine⟨_,_,some [],AK g31,?_⟩;revert h;refine AD (fun (v32,v33)=>⟨dd 4 (y1 v4::y2 v32::dd 50 ([])),yB (JAI.av v33)::nn 56 ([])⟩) ?_ ?_
 ·intro k34 h;revert h;refine Ap (fun (v35,v36,v37)=>⟨yr 0 0::X::X::X::y1 v4::y2 v35::X::yi v36::dd 48 ([]),yB (JAI.av v37)::nn 56 ([])⟩) ?_ ?_
  ·exact wk
  rintro next38 ⟨v35,v36,v37⟩ K39 h hK40;(conv=>whnf);refine .go ?_;refine sJ h (fun h=>?_) fun h=>AB wk h;(conv=>whnf);refine .go ?_;(conv=>whnf);refine .inl (dO ?_);obtain⟨⟨v41,v42⟩,g43,h⟩:=AA h;refine⟨_,_,AK g43,.inl rfl,?_⟩;obtain⟨v44,g45,h⟩:=AA h;refine⟨rfl,Af (f:=D.i) g45,?_⟩;refine⟨rfl,D.i v44,(Ai (f:=D.i) g45),?_⟩;obtain⟨⟨v46,v47⟩,g48,h⟩:=AA h;refine⟨_,_,AK g48,.inl rfl,?_⟩;obtain⟨⟨v49,v50⟩,g51,h⟩:=AA h;refine⟨_,_,AK g51,.inl rfl,?_⟩;obtain⟨⟨v52,v53⟩,g54,h⟩:=AA h;refine⟨_,_,MR g54,.inl rfl,?_⟩;(conv=>whnf);refine cO ?_;refine⟨_,rfl,?_⟩;exact hK40 _ _ wk h
 rintro⟨v32,v33⟩ h;cases h;exact⟨rfl,rfl⟩
theorem MJ {a0:JAI}{a1:Int}{r:(List UInt8)×JAI}(h:EW a0 a1=some r):yC wl 46 [.ref 0 0,AV.d (D.i a1)] [.box (JAI.av a0)] (.d (D.l 1 D.u8 r.1)) [.box (JAI.av r.2)]:=by
 refine oK Tryz.f46 ⟨rfl,?_⟩;unfold EW at h;refine⟨_,rfl,?_⟩;obtain⟨⟨v1,v2⟩,g3,h⟩:=AA h;refine⟨_,_,some [],AK g3,?_⟩;revert h;refine AD (fun (v4,v5)=>⟨dd 5 (yO 6 D.u8 v5::dd 16 ([])),yB (JAI.av v4)::nn 5 (yR 5 1 D.u8 v5::nn 16 ([]))⟩) ?_ ?_
 ·intro k6 h;revert h;refine Ap (fun (v7,v8,v9)=>⟨yr 0 0::dd 4 (yO 6 D.u8 v9::yi v7::dd 15 ([])),yB (JAI.av v8)::nn 5 (yR 5 1 D.u8 v9::nn 16 ([]))⟩) ?_ ?_
  ·exact wk
  rintro next10 ⟨v7,v8,v9⟩ K11 h hK12;(conv=>whnf);refine .go ?_;refine sJ h (fun h=>?_) fun h=>AB wk h;(conv=>whnf);refine .go ?_;obtain⟨⟨v13,v14⟩,g15,h⟩:=AA h;refine⟨_,_,some [],AK g15,?_⟩;refine⟨_,Aj _,?_⟩;refine⟨rfl,?_⟩;obtain⟨v16,g17,h⟩:=AA h;refine⟨rfl,AT (f:=D.u8) (g:=D.u8) g17,_,AU (f:=D.u8) g17,?_⟩;refine⟨_,rfl,?_⟩;exact hK12 _ _ wk h
 rintro⟨v4,v5⟩ h;(conv=>whnf);refine .inl ?_;(conv=>whnf);refine .inl ?_;refine⟨rfl,?_⟩;cases h;exact⟨rfl,rfl⟩
theorem IB {a0:JAI}{r:JAE×JAI}(h:Du a0=some r):yC wl 15 [.ref 0 0] [.box (JAI.av a0)] (.d (JAE.toD r.1)) [.box (JAI.av r.2)]:=by
 refine okx 2 Tryz.f15 (by kernel_rfl) (by kernel_rfl) ⟨rfl,?_⟩;unfold Du at h;revert h;refine AD (fun _=>⟨yr 0 0::X::yr 3 0::dd 4 (AV.d (D.agg [D.i (-1),D.nil 2,D.b false,D.u64 (0:UInt64),D.u64 (0:UInt64),D.i (-1),D.i (-1),D.i (-1),D.nil 2,D.nil 3,D.nil 3])::dd 62 ([])),yB (JAI.av a0)::N::N::yB JAE.zv::nn 69 ([])⟩) ?_ ?_
 ·intro k1 h;(conv=>whnf);refine inl Tryz.f17 71 (by kernel_rfl) (by kernel_rfl) ⟨rfl,?_⟩;exact AB wk h
 rintro _ h;obtain⟨⟨v2,v3⟩,g4,h⟩:=AA h;refine⟨_,_,some [],AK g4,?_⟩;refine⟨_,rfl,?_⟩;obtain⟨⟨v5,v6⟩,g7,h⟩:=AA h;refine⟨_,_,some [],NH g7,?_⟩;obtain⟨v8,g9,h⟩:=AA h;refine⟨_,_,some [],Nq g9,?_⟩;obtain⟨v10,g11,h⟩:=AA h;refine⟨_,_,some [],O4 g11,?_⟩;obtain⟨⟨v12,v13⟩,g14,h⟩:=AA h;refine⟨_,_,some [],AK g14,?_⟩;obtain⟨v15,g16,h⟩:=AA h;refine⟨rfl,Af (f:=Addr.toD) g16,?_⟩;refine⟨rfl,Addr.toD v15,(Ai (f:=Addr.toD) g16),?_⟩;(conv=>whnf);refine .inl (dO ?_);obtain⟨⟨v17,v18⟩,g19,h⟩:=AA h;refine⟨_,_,AK g19,.inl rfl,?_⟩;obtain⟨v20,g21,h⟩:=AA h;refine⟨rfl,Af (f:=D.i) g21,?_⟩;refine⟨rfl,D.i v20,(Ai (f:=D.i) g21),?_⟩;obtain⟨⟨v22,v23⟩,g24,h⟩:=AA h;refine⟨_,_,AK g24,.inl rfl,?_⟩;obtain⟨v25,g26,h⟩:=AA h;refine⟨rfl,Af (f:=D.i) g26,?_⟩;refine⟨rfl,D.i v25,(Ai (f:=D.i) g26),?_⟩;(conv=>whnf);refine cO ?_;obtain⟨⟨v27,v28⟩,g29,h⟩:=AA h;refine⟨_,_,some [],AK g29,?_⟩;obtain⟨v30,g31,h⟩:=AA h;refine⟨rfl,Af (f:=D.i) g31,?_⟩;refine⟨rfl,D.i v30,(Ai (f:=D.i) g31),?_⟩;obtain⟨⟨v32,v33,v34⟩,g35,h⟩:=AA h;refine⟨_,_,some [],Ia g35,?_⟩;refine⟨([6,7,16,34,200,255]:List Int).length,by first | exact X10 _ | rfl | (simp only[X10];omega),?_⟩;revert h;refine AD (fun (v36,v37)=>⟨X::X::yr 3 0::yr 4 0::dd 66 ([]),yB (JAI.av v36)::N::N::yB JAE.zv::yB [yi (AN (v2-1)),y0 v5,AV.d (D.b v15.V6),AV.d (D.u64 v15.Hi),AV.d (D.u64 v15.Lo),yi v20,yi v25,yi v30,y1 v32,y2 v33,yO 67 JAA.toD v37]::nn 62 (yR 88 3 JAA.toD v37::nn 5 ([]))⟩) ?_ ?_
 ·intro k38 h;revert h;refine Kx 51 3 1 .no D.i rfl (fun i39 (v40,v41)=>⟨yr 0 0::X::yr 3 0::yr 4 0::dd 46 (yO 51 D.i ([6,7,16,34,200,255]:List Int)::yi (([6,7,16,34,200,255]:List Int).length:Int)::yi (i39:Int)::dd 17 ([])),yB (JAI.av v40)::N::N::yB JAE.zv::yB [yi (AN (v2-1)),y0 v5,AV.d (D.b v15.V6),AV.d (D.u64 v15.Hi),AV.d (D.u64 v15.Lo),yi v20,yi v25,yi v30,y1 v32,y2 v33,yO 67 JAA.toD v41]::nn 46 (yR 3 1 D.i ([6,7,16,34,200,255]:List Int)::nn 15 (yR 88 3 JAA.toD v41::nn 5 ([])))⟩) ?_ ?_ ?_
  ·exact wk
  ·rintro⟨v40,v41⟩ K42 h;(conv=>whnf);refine .go ?_;exact AB wk h
  rintro next43 i39 x44 ⟨v40,v41⟩ K42 hii39 hxi39 hwi39 h hK45;(conv=>whnf);refine .go ?_;(conv=>whnf);refine BD (CN hii39) ?_;(conv=>whnf);refine .go ?_;refine⟨rfl,BE (f:=D.i) hii39,?_⟩;refine⟨rfl,D.i x44,hxi39,?_⟩;obtain⟨⟨v46,v47⟩,g48,h⟩:=AA h;refine⟨_,_,some [],AK g48,?_⟩;revert h;refine AD (fun (v49,v50)=>⟨yr 0 0::X::yr 3 0::yr 4 0::dd 46 (yO 51 D.i ([6,7,16,34,200,255]:List Int)::yi (([6,7,16,34,200,255]:List Int).length:Int)::yi (i39:Int)::dd 17 ([])),yB (JAI.av v49)::N::N::yB JAE.zv::yB [yi (AN (v2-1)),y0 v5,AV.d (D.b v15.V6),AV.d (D.u64 v15.Hi),AV.d (D.u64 v15.Lo),yi v20,yi v25,yi v30,y1 v32,y2 v33,yO 67 JAA.toD v50]::nn 46 (yR 3 1 D.i ([6,7,16,34,200,255]:List Int)::nn 15 (yR 88 3 JAA.toD v50::nn 5 ([])))⟩) ?_ ?_
  ·intro k51 h;refine sJ h (fun h=>?_) fun h=>AB wk h;(conv=>whnf);refine .inl (dO ?_);obtain⟨⟨v52,v53⟩,g54,h⟩:=AA h;refine⟨_,_,MJ g54,.inl rfl,?_⟩;refine⟨rfl,?_⟩;obtain⟨v55,g56,h⟩:=AA h;refine⟨rfl,AT (f:=JAA.toD) (g:=JAA.toD) g56,_,AU (f:=JAA.toD) g56,?_⟩;(conv=>whnf);refine cO ?_;exact AB wk h
  rintro⟨v49,v50⟩ h;refine⟨_,hwi39,?_⟩;exact hK45 _ _ wk h
 rintro⟨v36,v37⟩ h;(conv=>whnf);refine .inl ?_;refine⟨rfl,?_⟩;cases h;exact⟨rfl,rfl⟩
theorem Nb {a0:JAI}{r:Addr×JAI}(h:E2 a0=some r):yC wl 47 [.ref 0 0] [.box (JAI.av a0)] (.d (Addr.toD r.1)) [.box (JAI.av r.2)]:=by
 refine oK Tryz.f47 ⟨rfl,?_⟩;unfold E2 at h;obtain⟨⟨v1,v2⟩,g3,h⟩:=AA h;refine⟨_,_,some [],AK g3,?_⟩;(conv=>whnf);refine .go ?_;(conv=>whnf);refine .go ?_;refine sJ h ?_ ?_<;>intro h
 ·obtain⟨⟨v4,v5⟩,g6,h⟩:=AA h;refine⟨_,_,some [],AK g6,?_⟩;refine⟨by decide,_,rfl,?_⟩;refine⟨_,rfl,?_⟩;obtain⟨⟨v7,v8⟩,g9,h⟩:=AA h;refine⟨_,_,some [],AK g9,?_⟩;refine⟨_,rfl,?_⟩;refine⟨_,Aw _,?_⟩;cases h;exact⟨rfl,rfl⟩
 (conv=>whnf);refine .go ?_;refine sJ h ?_ ?_<;>intro h
 ·obtain⟨⟨v10,v11⟩,g12,h⟩:=AA h;refine⟨_,_,some [],AK g12,?_⟩;refine⟨_,Aw _,?_⟩;refine⟨_,Aw _,?_⟩;obtain⟨⟨v13,v14⟩,g15,h⟩:=AA h;refine⟨_,_,some [],AK g15,?_⟩;refine⟨_,Aw _,?_⟩;cases h;exact⟨rfl,rfl⟩
 (conv=>whnf);refine .go ?_;refine sJ h ?_ ?_<;>intro h
 ·obtain⟨⟨v16,v17⟩,g18,h⟩:=AA h;refine⟨_,_,some [],AK g18,?_⟩;obtain⟨v19,g20,h⟩:=AA h;refine⟨rfl,Af (f:=D.u64) g20,?_⟩;refine⟨rfl,D.u64 v19,(Ai (f:=D.u64) g20),?_⟩;cases h;exact⟨rfl,rfl⟩
 (conv=>whnf);refine .go ?_;refine sJ h ?_ ?_<;>intro h
 ·(conv=>whnf);refine .inl (dO ?_);obtain⟨⟨v21,v22⟩,g23,h⟩:=AA h;refine⟨_,_,AK g23,.inl rfl,?_⟩;obtain⟨v24,g25,h⟩:=AA h;refine⟨rfl,Af (f:=D.u64) g25,?_⟩;refine⟨rfl,D.u64 v24,(Ai (f:=D.u64) g25),?_⟩;obtain⟨⟨v26,v27⟩,g28,h⟩:=AA h;refine⟨_,_,AK g28,.inl rfl,?_⟩;obtain⟨v29,g30,h⟩:=AA h;refine⟨rfl,Af (f:=D.u64) g30,?_⟩;refine⟨rfl,D.u64 v29,(Ai (f:=D.u64) g30),?_⟩;(conv=>whnf);refine cO ?_;cases h;exact⟨rfl,rfl⟩
 (conv=>whnf);refine .go ?_;refine sJ h ?_ ?_<;>intro h
 ·obtain⟨⟨v31,v32⟩,g33,h⟩:=AA h;refine⟨_,_,some [],AK g33,?_⟩;refine⟨_,Aw _,?_⟩;obtain⟨⟨v34,v35⟩,g36,h⟩:=AA h;refine⟨_,_,some [],AK g36,?_⟩;refine⟨_,rfl,?_⟩;refine⟨_,Aw _,?_⟩;refine⟨Int.natCast_nonneg _,_,Aw _,?_⟩;obtain⟨⟨v37,v38⟩,g39,h⟩:=AA h;refine⟨_,_,some [],AK g39,?_⟩;refine⟨_,Aw _,?_⟩;obtain⟨⟨v40,v41⟩,g42,h⟩:=AA h;refine⟨_,_,some [],AK g42,?_⟩;refine⟨_,rfl,?_⟩;refine⟨_,Aw _,?_⟩;refine⟨Int.natCast_nonneg _,_,Aw _,?_⟩;cases h;exact⟨rfl,rfl⟩
 obtain⟨⟨v43,v44⟩,g45,h⟩:=AA h;refine⟨_,_,some [],AK g45,?_⟩;refine⟨_,Aw _,?_⟩;cases h;exact⟨rfl,rfl⟩
theorem H9 {a0:Addr}{r:Bool}(h:D3 a0=some r):yC wl 76 [AV.d (Addr.toD a0)] [] (.d (D.b r)) []:=by
 refine oK Tryz.f76 ⟨rfl,?_⟩;unfold D3 at h;revert h;refine AD (fun v1=>⟨X::X::yb v1::dd 12 ([]),nn 15 ([])⟩) ?_ ?_
 ·intro k2 h;refine sJ h (fun h=>AB wk h) fun h=>?_;exact sJ h (fun h=>AB wk h) fun h=>AB wk h
 rintro v1 h;cases h;exact⟨rfl,rfl⟩
theorem QD {a0:Addr}{r:Int}(h:D6 a0=some r):yC wl 91 [AV.d (Addr.toD a0)] [] (.d (D.i r)) []:=by
 refine oK Tryz.f91 ⟨rfl,?_⟩;unfold D6 at h;(conv=>whnf);refine .go ?_;refine sJ h ?_ ?_<;>intro h
 ·cases h;exact⟨rfl,rfl⟩
 cases h;exact⟨rfl,rfl⟩
theorem GW {a0:Addr}{r:(List UInt8)}(h:Ba a0=some r):yC wl 92 [AV.d (Addr.toD a0)] [] (AV.own 0 (List.map D.u8 r).length) [.row 5 1 (List.map D.u8 r) .no]:=by
 refine oK Tryz.f92 ⟨rfl,?_⟩;unfold Ba at h;obtain⟨v1,g2,h⟩:=AA h;refine⟨_,_,some [],H9 g2,?_⟩;(conv=>whnf);refine .go ?_;refine sJ h ?_ ?_<;>intro h
 ·(conv=>whnf);refine .inr ⟨X29 rfl,5,?_⟩;cases h;exact⟨rfl,rfl⟩
 revert h;refine AD (fun v3=>⟨X::yr 1 0::X::yi v3::dd 31 ([]),N::yB (Addr.av a0)::nn 33 ([])⟩) ?_ ?_
 ·intro k4 h;exact sJ h (fun h=>AB wk h) fun h=>AB wk h
 rintro v3 h;refine⟨_,rfl,?_⟩;revert h;refine AD (fun v5=>⟨dd 4 (yO 4 D.u8 v5::dd 30 ([])),nn 4 (yR 5 1 D.u8 v5::nn 30 ([]))⟩) ?_ ?_
 ·intro k6 h;revert h;refine Ap (fun (v7,v8)=>⟨X::yr 1 0::X::X::yO 4 D.u8 v8::yi v7::dd 29 ([]),N::yB (Addr.av a0)::N::N::yR 5 1 D.u8 v8::nn 30 ([])⟩) ?_ ?_
  ·exact wk
  rintro next9 ⟨v7,v8⟩ K10 h hK11;(conv=>whnf);refine .go ?_;refine sJ h (fun h=>?_) fun h=>AB wk h;(conv=>whnf);refine .go ?_;revert h;refine AD (fun v12=>⟨X::yr 1 0::X::X::yO 4 D.u8 v8::yi v7::yu v12::dd 28 ([]),N::yB (Addr.av a0)::N::N::yR 5 1 D.u8 v8::nn 30 ([])⟩) ?_ ?_
  ·intro k13 h;exact sJ h (fun h=>AB wk h) fun h=>AB wk h
  rintro v12 h;refine⟨by decide,_,rfl,?_⟩;refine⟨_,Aw _,?_⟩;refine⟨_,Aw _,?_⟩;refine⟨Int.natCast_nonneg _,_,MU v12 _,?_⟩;refine⟨_,Aj _,?_⟩;refine⟨rfl,?_⟩;obtain⟨v14,g15,h⟩:=AA h;refine⟨rfl,AT (f:=D.u8) (g:=D.u8) g15,_,AU (f:=D.u8) g15,?_⟩;refine⟨_,rfl,?_⟩;exact hK11 _ _ wk h
 rintro v5 h;(conv=>whnf);refine .inl ?_;(conv=>whnf);refine .inr ?_;cases h;exact⟨rfl,rfl⟩
theorem Lr {a0:List UInt8}{r:Addr×Int}(h:CM a0=some r):yC wl 93 [AV.d (D.l 1 D.u8 a0)] [] (.tup [.d (Addr.toD r.1),.d (D.i r.2)]) []:=by
 refine oK Tryz.f93 ⟨rfl,?_⟩;unfold CM at h;revert h;refine AD (fun v1=>⟨y3 a0::X::yr 2 0::dd 11 (yb v1::dd 28 ([])),N::N::yB Addr.zv::nn 40 ([])⟩) ?_ ?_
 ·intro k2 h;refine⟨a0.length,X10 _,?_⟩;refine sJ h (fun h=>?_) fun h=>AB wk h;refine⟨a0.length,X10 _,?_⟩;exact AB wk h
 rintro v1 h;(conv=>whnf);refine .go ?_;refine sJ h ?_ ?_<;>intro h
 ·cases h;exact⟨rfl,rfl⟩
 refine⟨a0.length,X10 _,?_⟩;refine⟨a0.length,X10 _,?_⟩;revert h;refine AD (fun v3=>⟨X::X::yr 2 0::X::yr 4 0::dd 38 ([]),N::N::yB Addr.zv::N::yB (Addr.av v3)::nn 38 ([])⟩) ?_ ?_
 ·intro k4 h;revert h;refine Ag 20 1 D.u8 rfl (fun i5 v6=>⟨X::X::yr 2 0::X::yr 4 0::dd 15 (y3 a0::yi (a0.length:Int)::yi (i5:Int)::dd 20 ([])),N::N::yB Addr.zv::N::yB (Addr.av v6)::nn 38 ([])⟩) ?_ ?_ ?_
  ·exact wk
  ·rintro v6 K7 h;(conv=>whnf);refine .go ?_;(conv=>whnf);refine BJ CX ?_;exact AB wk h
  rintro next8 i5 x9 v6 K7 hii5 hxi5 hwi5 h hK10;(conv=>whnf);refine .go ?_;(conv=>whnf);refine BD (CN hii5) ?_;(conv=>whnf);refine .go ?_;refine⟨BE (f:=D.u8) hii5,D.u8 x9,hxi5,rfl,?_⟩;refine⟨by decide,_,Aw _,?_⟩;refine⟨by decide,_,MU v6.Lo _,?_⟩;refine⟨_,Aw _,?_⟩;refine⟨by decide,_,Aw _,?_⟩;refine⟨_,Aw _,?_⟩;refine⟨_,Aw _,?_⟩;refine⟨_,hwi5,?_⟩;exact hK10 _ _ wk h
 rintro v3 h;cases h;exact⟨rfl,rfl⟩
theorem LS {a0:Addr}{a1:Int}{r:JAD×Int}(h:EA a0 a1=some r):yC wl 48 [AV.d (Addr.toD a0),AV.d (D.i a1)] [] (.tup [.d (JAD.toD r.1),.d (D.i r.2)]) []:=by
 refine oK Tryz.f48 ⟨rfl,?_⟩;unfold EA at h;(conv=>whnf);refine .go ?_;obtain⟨v1,g2,h⟩:=AA h;refine⟨_,_,some [],H9 g2,?_⟩;(conv=>whnf);refine .go ?_;refine sJ h ?_ ?_<;>intro h
 ·cases h;exact⟨rfl,rfl⟩
 revert h;refine AD (fun v3=>⟨X::yi a1::yr 2 0::X::yr 4 0::dd 10 (yb v3::dd 38 ([])),N::N::yB (Addr.av a0)::N::yB JAD.zv::nn 49 ([])⟩) ?_ ?_
 ·intro k4 h;refine sJ h (fun h=>AB wk h) fun h=>?_;obtain⟨v5,g6,h⟩:=AA h;refine⟨_,_,some [],QD g6,?_⟩;exact AB wk h
 rintro v3 h;(conv=>whnf);refine .go ?_;refine sJ h ?_ ?_<;>intro h
 ·cases h;exact⟨rfl,rfl⟩
 obtain⟨v7,g8,h⟩:=AA h;refine⟨_,_,some [26],GW g8,?_⟩;revert h;refine AD (fun v9=>⟨X::yi a1::X::X::yr 4 0::X::yO 26 D.u8 v9::dd 47 ([]),nn 4 (yB JAD.zv::nn 21 (yR 5 1 D.u8 v9::nn 27 ([])))⟩) ?_ ?_
 ·intro k10 h;revert h;refine Ap (fun (v11,v12)=>⟨X::yi a1::X::X::yr 4 0::X::yO 26 D.u8 v12::yi v11::dd 46 ([]),nn 4 (yB JAD.zv::nn 21 (yR 5 1 D.u8 v12::nn 27 ([])))⟩) ?_ ?_
  ·exact wk
  rintro next13 ⟨v11,v12⟩ K14 h hK15;refine⟨v12.length,by first | exact X10 _ | rfl | (simp only[X10];omega),?_⟩;refine⟨_,rfl,?_⟩;(conv=>whnf);refine .go ?_;refine sJ h (fun h=>?_) fun h=>AB wk h;(conv=>whnf);refine .go ?_;refine⟨by decide,_,rfl,?_⟩;obtain⟨v16,g17,h⟩:=AA h;refine⟨rfl,Af (f:=D.u8) g17,?_⟩;refine⟨rfl,D.u8 v16,(Ai (f:=D.u8) g17),?_⟩;refine⟨by decide,_,rfl,?_⟩;refine⟨_,Aw _,?_⟩;refine⟨Int.natCast_nonneg _,_,cm (128:UInt8) _,?_⟩;refine⟨_,Aj _,?_⟩;obtain⟨v18,g19,h⟩:=AA h;refine⟨rfl,Af (f:=D.u8) g19,?_⟩;obtain⟨v20,g21,h⟩:=AA h;have g21l:=IE g21;refine⟨rfl,rfl,D.u8 v18,(Ai (f:=D.u8) g19),?_⟩;refine⟨_,MI (f:=D.u8) g21,?_⟩;refine⟨_,rfl,?_⟩;exact hK15 _ _ wk h
 rintro v9 h;refine⟨rfl,?_⟩;obtain⟨⟨v22,v23⟩,g24,h⟩:=AA h;refine⟨_,_,none,Lr g24,?_⟩;cases h;exact⟨rfl,rfl⟩
theorem HV {a0:JAI}{r:JAD×JAI}(h:DX a0=some r):yC wl 16 [.ref 0 0] [.box (JAI.av a0)] (.d (JAD.toD r.1)) [.box (JAI.av r.2)]:=by
 refine oK Tryz.f16 ⟨rfl,?_⟩;unfold DX at h;obtain⟨⟨v1,v2⟩,g3,h⟩:=AA h;refine⟨_,_,some [],Nb g3,?_⟩;revert h;refine AD (fun v4=>⟨yr 0 0::X::yr 3 0::yr 4 0::yi v4::dd 34 ([]),yB (JAI.av v2)::N::N::yB JAD.zv::yB (Addr.av v1)::nn 35 ([])⟩) ?_ ?_
 ·intro k5 h;exact sJ h (fun h=>AB wk h) fun h=>AB wk h
 rintro v4 h;obtain⟨⟨v6,v7⟩,g8,h⟩:=AA h;refine⟨_,_,some [],AK g8,?_⟩;(conv=>whnf);refine .go ?_;revert h;refine AD (fun (v9,v10)=>⟨X::X::yr 3 0::yr 4 0::yi v9::dd 34 ([]),yB (JAI.av v10)::N::N::yB JAD.zv::yB (Addr.av v1)::nn 35 ([])⟩) ?_ ?_
 ·intro k11 h;refine sJ h ?_ ?_<;>intro h
  ·refine⟨_,rfl,?_⟩;obtain⟨⟨v12,v13⟩,g14,h⟩:=AA h;refine⟨_,_,some [],AK g14,?_⟩;exact AB wk h
  revert h;refine AD (fun (v15,v16)=>⟨X::X::yr 3 0::yr 4 0::yi v15::dd 34 ([]),yB (JAI.av v16)::N::N::yB JAD.zv::yB (Addr.av v1)::nn 35 ([])⟩) ?_ ?_
  ·intro k17 h;refine sJ h ?_ ?_<;>intro h
   ·obtain⟨⟨v18,v19⟩,g20,h⟩:=AA h;refine⟨_,_,some [],AK g20,?_⟩;refine⟨_,rfl,?_⟩;exact AB wk h
   revert h;refine AD (fun (v21,v22)=>⟨X::X::yr 3 0::yr 4 0::yi v21::dd 34 ([]),yB (JAI.av v22)::N::N::yB JAD.zv::yB (Addr.av v1)::nn 35 ([])⟩) ?_ ?_
   ·intro k23 h;refine sJ h (fun h=>?_) fun h=>AB wk h;obtain⟨⟨v24,v25⟩,g26,h⟩:=AA h;refine⟨_,_,some [],AK g26,?_⟩;obtain⟨v27,g28,h⟩:=AA h;refine⟨rfl,Af (f:=D.i) g28,?_⟩;refine⟨rfl,D.i v27,(Ai (f:=D.i) g28),?_⟩;exact AB wk h
   rintro⟨v21,v22⟩ h;exact AB wk h
  rintro⟨v15,v16⟩ h;exact AB wk h
 rintro⟨v9,v10⟩ h;obtain⟨⟨v29,v30⟩,g31,h⟩:=AA h;refine⟨_,_,some [],LS g31,?_⟩;cases h;exact⟨rfl,rfl⟩
theorem Kq {a0:JAD}{r:Bool}(h:DL a0=some r):yC wl 34 [AV.d (JAD.toD a0)] [] (.d (D.b r)) []:=by
 refine oK Tryz.f34 ⟨rfl,?_⟩;unfold DL at h;obtain⟨⟨v1,v2⟩,g3,h⟩:=AA h;refine⟨_,_,some [],LS g3,?_⟩;revert h;refine AD (fun v4=>⟨X::X::yb v4::dd 17 ([]),nn 20 ([])⟩) ?_ ?_
 ·intro k5 h;exact sJ h (fun h=>AB wk h) fun h=>AB wk h
 rintro v4 h;cases h;exact⟨rfl,rfl⟩
theorem KB {a0:Int}{r:Int}(h:Bc a0=some r):yC wl 107 [AV.d (D.i a0)] [] (.d (D.i r)) []:=by
 refine oK Tryz.f107 ⟨rfl,?_⟩;unfold Bc at h;(conv=>whnf);refine .go ?_;revert h;refine AD (fun v1=>⟨X::X::X::yi a0::yb v1::dd 10 ([]),nn 15 ([])⟩) ?_ ?_
 ·intro k2 h;refine sJ h (fun h=>AB wk h) fun h=>?_;revert h;refine AD (fun v3=>⟨X::X::X::yi a0::yb v3::dd 10 ([]),nn 15 ([])⟩) ?_ ?_
  ·intro k4 h;refine sJ h (fun h=>AB wk h) fun h=>?_;revert h;refine AD (fun v5=>⟨X::X::X::yi a0::yb v5::dd 10 ([]),nn 15 ([])⟩) ?_ ?_
   ·intro k6 h;exact sJ h (fun h=>AB wk h) fun h=>AB wk h
   rintro v5 h;exact AB wk h
  rintro v3 h;exact AB wk h
 rintro v1 h;(conv=>whnf);refine .go ?_;refine sJ h ?_ ?_<;>intro h
 ·cases h;exact⟨rfl,rfl⟩
 (conv=>whnf);refine .go ?_;refine sJ h ?_ ?_<;>intro h
 ·cases h;exact⟨rfl,rfl⟩
 revert h;refine AD (fun v7=>⟨dd 11 (yb v7::X::X::X::[]),nn 15 ([])⟩) ?_ ?_
 ·intro k8 h;refine sJ h (fun h=>AB wk h) fun h=>?_;revert h;refine AD (fun v9=>⟨dd 11 (yb v9::X::X::X::[]),nn 15 ([])⟩) ?_ ?_
  ·intro k10 h;exact sJ h (fun h=>AB wk h) fun h=>AB wk h
  rintro v9 h;exact AB wk h
 rintro v7 h;(conv=>whnf);refine .go ?_;refine sJ h ?_ ?_<;>intro h
 ·cases h;exact⟨rfl,rfl⟩
 cases h;exact⟨rfl,rfl⟩
theorem OC {a0:Int}{r:Bool}(h:DN a0=some r):yC wl 74 [AV.d (D.i a0)] [] (.d (D.b r)) []:=by
 refine oK Tryz.f74 ⟨rfl,?_⟩;unfold DN at h;revert h;refine AD (fun v1=>⟨X::X::yb v1::dd 11 ([]),nn 14 ([])⟩) ?_ ?_
 ·intro k2 h;obtain⟨v3,g4,h⟩:=AA h;refine⟨_,_,some [],KB g4,?_⟩;refine sJ h (fun h=>?_) fun h=>AB wk h;exact sJ h (fun h=>AB wk h) fun h=>AB wk h
 rintro v1 h;cases h;exact⟨rfl,rfl⟩
theorem H2 {a0:JAE}{r:Bool}(h:E6 a0=some r):yC wl 35 [AV.d (JAE.toD a0)] [] (.d (D.b r)) []:=by
 refine oK Tryz.f35 ⟨rfl,?_⟩;unfold E6 at h;refine⟨a0.Other.length,X10 _,?_⟩;revert h;refine AD (fun _=>⟨X::yr 1 0::dd 122 ([]),N::yB (JAE.av a0)::nn 122 ([])⟩) ?_ ?_
 ·intro k1 h;revert h;refine Ag 6 3 JAA.toD rfl (fun i2 _=>⟨X::yr 1 0::dd 4 (AV.d (D.l 3 JAA.toD a0.Other)::yi (a0.Other.length:Int)::yi (i2:Int)::dd 115 ([])),N::yB (JAE.av a0)::nn 122 ([])⟩) ?_ ?_ ?_
  ·exact wk
  ·rintro _ K3 h;(conv=>whnf);refine .go ?_;(conv=>whnf);refine BJ CX ?_;exact AB wk h
  rintro next4 i2 x5 _ K3 hii2 hxi2 hwi2 h hK6;(conv=>whnf);refine .go ?_;(conv=>whnf);refine BD (CN hii2) ?_;(conv=>whnf);refine .go ?_;refine⟨BE (f:=JAA.toD) hii2,JAA.toD x5,hxi2,rfl,?_⟩;revert h;refine AD (fun v7=>⟨X::yr 1 0::dd 4 (AV.d (D.l 3 JAA.toD a0.Other)::yi (a0.Other.length:Int)::yi (i2:Int)::dd 44 (yb v7::dd 70 ([]))),N::yB (JAE.av a0)::nn 122 ([])⟩) ?_ ?_
  ·intro k8 h;(conv=>whnf);refine .inl (dO ?_);refine sJ h ?_ ?_<;>intro h
   ·(conv=>whnf);refine cO ?_;exact AB wk h
   refine sJ h ?_ ?_<;>intro h
   ·(conv=>whnf);refine cO ?_;exact AB wk h
   obtain⟨v9,g10,h⟩:=AA h;refine⟨_,_,OC g10,.inl rfl,?_⟩;refine sJ h ?_ ?_<;>intro h
   ·(conv=>whnf);refine cO ?_;exact AB wk h
   refine sJ h ?_ ?_<;>intro h
   ·(conv=>whnf);refine cO ?_;exact AB wk h
   refine⟨x5.Data.length,X10 _,?_⟩;refine sJ h ?_ ?_<;>intro h
   ·(conv=>whnf);refine cO ?_;exact AB wk h
   refine sJ h ?_ ?_<;>intro h
   ·refine⟨_,rfl,?_⟩;obtain⟨v11,g12,h⟩:=AA h;refine⟨Af (f:=JAA.toD) g12,JAA.toD v11,Ai (f:=JAA.toD) g12,rfl,?_⟩;(conv=>whnf);refine cO ?_;exact AB wk h
   (conv=>whnf);refine cO ?_;exact AB wk h
  rintro v7 h;(conv=>whnf);refine .go ?_;refine sJ h ?_ ?_<;>intro h
  ·cases h;exact⟨rfl,rfl⟩
  refine⟨_,hwi2,?_⟩;exact hK6 _ _ wk h
 rintro _ h;revert h;refine AD (fun v13=>⟨X::X::yb v13::dd 121 ([]),nn 124 ([])⟩) ?_ ?_
 ·intro k14 h;refine sJ h (fun h=>?_) fun h=>AB wk h;refine sJ h (fun h=>?_) fun h=>AB wk h;obtain⟨v15,g16,h⟩:=AA h;refine⟨_,_,some [],Kt g16,?_⟩;refine sJ h (fun h=>?_) fun h=>AB wk h;obtain⟨v17,g18,h⟩:=AA h;refine⟨_,_,some [],H9 g18,?_⟩;refine sJ h (fun h=>?_) fun h=>AB wk h;refine sJ h (fun h=>?_) fun h=>AB wk h;refine sJ h (fun h=>?_) fun h=>AB wk h;refine sJ h (fun h=>?_) fun h=>AB wk h;refine sJ h (fun h=>?_) fun h=>AB wk h;refine sJ h ?_ ?_<;>intro h
  ·obtain⟨v19,g20,h⟩:=AA h;refine⟨_,_,some [],H8 g20,?_⟩;refine sJ h (fun h=>?_) fun h=>AB wk h;obtain⟨v21,g22,h⟩:=AA h;refine⟨_,_,some [],FT g22,?_⟩;refine sJ h (fun h=>?_) fun h=>AB wk h;refine⟨a0.Other.length,X10 _,?_⟩;exact AB wk h
  refine sJ h (fun h=>?_) fun h=>AB wk h;refine sJ h (fun h=>?_) fun h=>AB wk h;obtain⟨v23,g24,h⟩:=AA h;refine⟨_,_,some [],H8 g24,?_⟩;refine sJ h (fun h=>?_) fun h=>AB wk h;obtain⟨v25,g26,h⟩:=AA h;refine⟨_,_,some [],FT g26,?_⟩;refine sJ h (fun h=>?_) fun h=>AB wk h;refine⟨a0.Other.length,X10 _,?_⟩;exact AB wk h
 rintro v13 h;cases h;exact⟨rfl,rfl⟩
theorem Rr {a0:List JAC}{a1:List JAC}{r:Bool}(h:ES a0 a1=some r):yC wl 79 [AV.d (D.l 2 JAC.toD a0),AV.d (D.l 2 JAC.toD a1)] [] (.d (D.b r)) []:=by
 refine oK Tryz.f79 ⟨rfl,?_⟩;unfold ES at h;refine⟨a0.length,X10 _,?_⟩;refine⟨a1.length,X10 _,?_⟩;(conv=>whnf);refine .go ?_;refine sJ h ?_ ?_<;>intro h
 ·cases h;exact⟨rfl,rfl⟩
 refine⟨a0.length,X10 _,?_⟩;revert h;refine AD (fun _=>⟨dd 61 ([]),nn 61 ([])⟩) ?_ ?_
 ·intro k1 h;revert h;refine Ag 14 2 JAC.toD rfl (fun i2 _=>⟨X::y0 a1::dd 12 (y0 a0::yi (a0.length:Int)::yi (i2:Int)::dd 44 ([])),nn 61 ([])⟩) ?_ ?_ ?_
  ·exact wk
  ·rintro _ K3 h;(conv=>whnf);refine .go ?_;(conv=>whnf);refine BJ CX ?_;exact AB wk h
  rintro next4 i2 x5 _ K3 hii2 hxi2 hwi2 h hK6;(conv=>whnf);refine .go ?_;(conv=>whnf);refine BD (CN hii2) ?_;revert h;refine AD (fun _=>⟨X::y0 a1::dd 12 (y0 a0::yi (a0.length:Int)::yi (i2:Int)::dd 44 ([])),nn 61 ([])⟩) ?_ ?_
  ·intro k7 h;refine⟨BE (f:=JAC.toD) hii2,JAC.toD x5,hxi2,rfl,?_⟩;revert h;refine AD (fun v8=>⟨X::y0 a1::X::X::X::yi (i2:Int)::yr 6 0::dd 7 (y0 a0::yi (a0.length:Int)::yi (i2:Int)::dd 23 (yb v8::dd 20 ([]))),nn 6 (yB (JAC.av x5)::nn 54 ([]))⟩) ?_ ?_
   ·intro k9 h;(conv=>whnf);refine .inl (dO ?_);obtain⟨v10,g11,h⟩:=AA h;refine⟨Af (f:=JAC.toD) g11,JAC.toD v10,Ai (f:=JAC.toD) g11,rfl,?_⟩;refine sJ h ?_ ?_<;>intro h
    ·(conv=>whnf);refine cO ?_;exact AB wk h
    refine⟨x5.ASNs.length,X10 _,?_⟩;obtain⟨v12,g13,h⟩:=AA h;refine⟨Af (f:=JAC.toD) g13,JAC.toD v12,Ai (f:=JAC.toD) g13,rfl,?_⟩;refine⟨v12.ASNs.length,X10 _,?_⟩;(conv=>whnf);refine cO ?_;exact AB wk h
   rintro v8 h;(conv=>whnf);refine .go ?_;refine sJ h ?_ ?_<;>intro h
   ·cases h;exact⟨rfl,rfl⟩
   refine⟨x5.ASNs.length,X10 _,?_⟩;revert h;refine AD (fun _=>⟨X::y0 a1::dd 12 (y0 a0::yi (a0.length:Int)::yi (i2:Int)::dd 44 ([])),nn 61 ([])⟩) ?_ ?_
   ·intro k14 h;revert h;refine Ag 42 1 D.i rfl (fun i15 _=>⟨X::y0 a1::X::X::X::yi (i2:Int)::dd 8 (y0 a0::yi (a0.length:Int)::yi (i2:Int)::dd 25 (AV.d (D.l 1 D.i x5.ASNs)::yi (x5.ASNs.length:Int)::yi (i15:Int)::dd 16 ([]))),nn 61 ([])⟩) ?_ ?_ ?_
    ·exact wk
    ·rintro _ K16 h;(conv=>whnf);refine .go ?_;(conv=>whnf);refine BJ CX ?_;exact AB wk h
    rintro next17 i15 x18 _ K16 hii15 hxi15 hwi15 h hK19;(conv=>whnf);refine .go ?_;(conv=>whnf);refine BD (CN hii15) ?_;(conv=>whnf);refine .go ?_;refine⟨BE (f:=D.i) hii15,D.i x18,hxi15,rfl,?_⟩;obtain⟨v20,g21,h⟩:=AA h;refine⟨Af (f:=JAC.toD) g21,JAC.toD v20,Ai (f:=JAC.toD) g21,rfl,?_⟩;obtain⟨v22,g23,h⟩:=AA h;refine⟨Af (f:=D.i) g23,D.i v22,Ai (f:=D.i) g23,rfl,?_⟩;(conv=>whnf);refine .go ?_;refine sJ h ?_ ?_<;>intro h
    ·cases h;exact⟨rfl,rfl⟩
    refine⟨_,hwi15,?_⟩;exact hK19 _ _ wk h
   rintro _ h;exact AB wk h
  rintro _ h;refine⟨_,hwi2,?_⟩;exact hK6 _ _ wk h
 rintro _ h;cases h;exact⟨rfl,rfl⟩
theorem Ru {a0:List JAB}{a1:List JAB}{r:Bool}(h:EP a0 a1=some r):yC wl 80 [AV.d (D.l 2 JAB.toD a0),AV.d (D.l 2 JAB.toD a1)] [] (.d (D.b r)) []:=by
 refine oK Tryz.f80 ⟨rfl,?_⟩;unfold EP at h;refine⟨a0.length,X10 _,?_⟩;refine⟨a1.length,X10 _,?_⟩;(conv=>whnf);refine .go ?_;refine sJ h ?_ ?_<;>intro h
 ·cases h;exact⟨rfl,rfl⟩
 refine⟨a0.length,X10 _,?_⟩;revert h;refine AD (fun _=>⟨dd 26 ([]),nn 26 ([])⟩) ?_ ?_
 ·intro k1 h;revert h;refine Ag 12 2 JAB.toD rfl (fun i2 _=>⟨X::y1 a1::dd 10 (y1 a0::yi (a0.length:Int)::yi (i2:Int)::dd 11 ([])),nn 26 ([])⟩) ?_ ?_ ?_
  ·exact wk
  ·rintro _ K3 h;(conv=>whnf);refine .go ?_;(conv=>whnf);refine BJ CX ?_;exact AB wk h
  rintro next4 i2 x5 _ K3 hii2 hxi2 hwi2 h hK6;(conv=>whnf);refine .go ?_;(conv=>whnf);refine BD (CN hii2) ?_;(conv=>whnf);refine .go ?_;refine⟨BE (f:=JAB.toD) hii2,JAB.toD x5,hxi2,rfl,?_⟩;(conv=>whnf);refine .inl (dO ?_);obtain⟨v7,g8,h⟩:=AA h;refine⟨Af (f:=JAB.toD) g8,JAB.toD v7,Ai (f:=JAB.toD) g8,rfl,?_⟩;(conv=>whnf);refine cO ?_;(conv=>whnf);refine .go ?_;refine sJ h ?_ ?_<;>intro h
  ·cases h;exact⟨rfl,rfl⟩
  refine⟨_,hwi2,?_⟩;exact hK6 _ _ wk h
 rintro _ h;cases h;exact⟨rfl,rfl⟩
theorem Lm {a0:List JAF}{a1:List JAF}{r:Bool}(h:B1 a0 a1=some r):yC wl 81 [AV.d (D.l 3 JAF.toD a0),AV.d (D.l 3 JAF.toD a1)] [] (.d (D.b r)) []:=by
 refine oK Tryz.f81 ⟨rfl,?_⟩;unfold B1 at h;refine⟨a0.length,X10 _,?_⟩;refine⟨a1.length,X10 _,?_⟩;(conv=>whnf);refine .go ?_;refine sJ h ?_ ?_<;>intro h
 ·cases h;exact⟨rfl,rfl⟩
 refine⟨a0.length,X10 _,?_⟩;revert h;refine AD (fun _=>⟨dd 26 ([]),nn 26 ([])⟩) ?_ ?_
 ·intro k1 h;revert h;refine Ag 12 3 JAF.toD rfl (fun i2 _=>⟨X::y2 a1::dd 10 (y2 a0::yi (a0.length:Int)::yi (i2:Int)::dd 11 ([])),nn 26 ([])⟩) ?_ ?_ ?_
  ·exact wk
  ·rintro _ K3 h;(conv=>whnf);refine .go ?_;(conv=>whnf);refine BJ CX ?_;exact AB wk h
  rintro next4 i2 x5 _ K3 hii2 hxi2 hwi2 h hK6;(conv=>whnf);refine .go ?_;(conv=>whnf);refine BD (CN hii2) ?_;(conv=>whnf);refine .go ?_;refine⟨BE (f:=JAF.toD) hii2,JAF.toD x5,hxi2,rfl,?_⟩;(conv=>whnf);refine .inl (dO ?_);obtain⟨v7,g8,h⟩:=AA h;refine⟨Af (f:=JAF.toD) g8,JAF.toD v7,Ai (f:=JAF.toD) g8,rfl,?_⟩;(conv=>whnf);refine cO ?_;(conv=>whnf);refine .go ?_;refine sJ h ?_ ?_<;>intro h
  ·cases h;exact⟨rfl,rfl⟩
  refine⟨_,hwi2,?_⟩;exact hK6 _ _ wk h
 rintro _ h;cases h;exact⟨rfl,rfl⟩
theorem Np {a0:List JAA}{a1:List JAA}{r:Bool}(h:CE a0 a1=some r):yC wl 82 [AV.d (D.l 3 JAA.toD a0),AV.d (D.l 3 JAA.toD a1)] [] (.d (D.b r)) []:=by
 refine oK Tryz.f82 ⟨rfl,?_⟩;unfold CE at h;refine⟨a0.length,X10 _,?_⟩;refine⟨a1.length,X10 _,?_⟩;(conv=>whnf);refine .go ?_;refine sJ h ?_ ?_<;>intro h
 ·cases h;exact⟨rfl,rfl⟩
 refine⟨a0.length,X10 _,?_⟩;revert h;refine AD (fun _=>⟨dd 50 ([]),nn 50 ([])⟩) ?_ ?_
 ·intro k1 h;revert h;refine Ag 12 3 JAA.toD rfl (fun i2 _=>⟨X::y4 a1::dd 10 (y4 a0::yi (a0.length:Int)::yi (i2:Int)::dd 35 ([])),nn 50 ([])⟩) ?_ ?_ ?_
  ·exact wk
  ·rintro _ K3 h;(conv=>whnf);refine .go ?_;(conv=>whnf);refine BJ CX ?_;exact AB wk h
  rintro next4 i2 x5 _ K3 hii2 hxi2 hwi2 h hK6;(conv=>whnf);refine .go ?_;(conv=>whnf);refine BD (CN hii2) ?_;(conv=>whnf);refine .go ?_;refine⟨BE (f:=JAA.toD) hii2,JAA.toD x5,hxi2,rfl,?_⟩;revert h;refine AD (fun v7=>⟨X::y4 a1::dd 10 (y4 a0::yi (a0.length:Int)::yi (i2:Int)::dd 33 (yb v7::X::[])),nn 50 ([])⟩) ?_ ?_
  ·intro k8 h;(conv=>whnf);refine .inl (dO ?_);obtain⟨v9,g10,h⟩:=AA h;refine⟨Af (f:=JAA.toD) g10,JAA.toD v9,Ai (f:=JAA.toD) g10,rfl,?_⟩;refine sJ h ?_ ?_<;>intro h
   ·(conv=>whnf);refine cO ?_;exact AB wk h
   obtain⟨v11,g12,h⟩:=AA h;refine⟨Af (f:=JAA.toD) g12,JAA.toD v11,Ai (f:=JAA.toD) g12,rfl,?_⟩;refine sJ h ?_ ?_<;>intro h
   ·(conv=>whnf);refine cO ?_;exact AB wk h
   refine⟨x5.Data,rfl,?_⟩;obtain⟨v13,g14,h⟩:=AA h;refine⟨Af (f:=JAA.toD) g14,JAA.toD v13,Ai (f:=JAA.toD) g14,rfl,?_⟩;refine⟨v13.Data,rfl,?_⟩;(conv=>whnf);refine cO ?_;exact AB wk h
  rintro v7 h;(conv=>whnf);refine .go ?_;refine sJ h ?_ ?_<;>intro h
  ·cases h;exact⟨rfl,rfl⟩
  refine⟨_,hwi2,?_⟩;exact hK6 _ _ wk h
 rintro _ h;cases h;exact⟨rfl,rfl⟩
theorem La {a0:JAE}{a1:JAE}{r:Bool}(h:C9 a0 a1=some r):yC wl 36 [AV.d (JAE.toD a0),AV.d (JAE.toD a1)] [] (.d (D.b r)) []:=by
 refine oK Tryz.f36 ⟨rfl,?_⟩;unfold C9 at h;revert h;refine AD (fun v1=>⟨dd 4 (yb v1::dd 61 ([])),nn 66 ([])⟩) ?_ ?_
 ·intro k2 h;refine sJ h (fun h=>?_) fun h=>AB wk h;obtain⟨v3,g4,h⟩:=AA h;refine⟨_,_,some [],Rr g4,?_⟩;refine sJ h (fun h=>?_) fun h=>AB wk h;refine sJ h (fun h=>?_) fun h=>AB wk h;refine sJ h (fun h=>?_) fun h=>AB wk h;refine sJ h (fun h=>?_) fun h=>AB wk h;refine sJ h (fun h=>?_) fun h=>AB wk h;obtain⟨v5,g6,h⟩:=AA h;refine⟨_,_,some [],Ru g6,?_⟩;refine sJ h (fun h=>?_) fun h=>AB wk h;obtain⟨v7,g8,h⟩:=AA h;refine⟨_,_,some [],Lm g8,?_⟩;refine sJ h (fun h=>?_) fun h=>AB wk h;obtain⟨v9,g10,h⟩:=AA h;refine⟨_,_,some [],Np g10,?_⟩;exact AB wk h
 rintro v1 h;cases h;exact⟨rfl,rfl⟩
theorem Cd {a0:Int}{a1:Int}{r:(List UInt8)}(h:AS a0 a1=some r):yC wl 106 [AV.d (D.i a0),AV.d (D.i a1)] [] (.d (D.l 1 D.u8 r)) []:=by
 refine oK Tryz.f106 ⟨rfl,?_⟩;unfold AS at h;refine⟨_,rfl,?_⟩;revert h;refine AD (fun v1=>⟨dd 5 (yO 5 D.u8 v1::dd 17 ([])),nn 5 (yR 5 1 D.u8 v1::nn 17 ([]))⟩) ?_ ?_
 ·intro k2 h;revert h;refine Ap (fun (v3,v4)=>⟨yi a0::dd 4 (yO 5 D.u8 v4::yi v3::dd 16 ([])),nn 5 (yR 5 1 D.u8 v4::nn 17 ([]))⟩) ?_ ?_
  ·exact wk
  rintro next5 ⟨v3,v4⟩ K6 h hK7;(conv=>whnf);refine .go ?_;refine sJ h (fun h=>?_) fun h=>AB wk h;(conv=>whnf);refine .go ?_;refine⟨_,Aw _,?_⟩;refine⟨_,Aw _,?_⟩;refine⟨Int.natCast_nonneg _,_,rfl,?_⟩;refine⟨_,Aj _,?_⟩;refine⟨rfl,?_⟩;obtain⟨v8,g9,h⟩:=AA h;refine⟨rfl,AT (f:=D.u8) (g:=D.u8) g9,_,AU (f:=D.u8) g9,?_⟩;refine⟨_,rfl,?_⟩;exact hK7 _ _ wk h
 rintro v1 h;(conv=>whnf);refine .inl ?_;(conv=>whnf);refine .inl ?_;refine⟨rfl,?_⟩;cases h;exact⟨rfl,rfl⟩
theorem KO {a0:JAE}{r:(List JAA)×Int}(h:FA a0=some r):yC wl 55 [AV.d (JAE.toD a0)] [] (.tup [.d (D.l 3 JAA.toD r.1),.d (D.i r.2)]) []:=by
 refine oK Tryz.f55 ⟨rfl,?_⟩;unfold FA at h;obtain⟨v1,g2,h⟩:=AA h;refine⟨_,_,some [],H2 g2,?_⟩;(conv=>whnf);refine .go ?_;refine sJ h ?_ ?_<;>intro h
 ·cases h;exact⟨rfl,rfl⟩
 revert h;refine AD (fun v3=>⟨X::yr 1 0::X::X::AV.own 4 (List.map JAA.toD []).length::AV.mp 24::dd 189 ([]),N::yB (JAE.av a0)::N::N::some (OB.row 88 3 (List.map JAA.toD []) .no)::nn 19 (some (OB.map 3 44 (Bm D.i (D.l 1 D.u8) v3))::nn 170 ([]))⟩) ?_ ?_
 ·intro k4 h;refine sJ h (fun h=>?_) fun h=>AB wk h;refine⟨_,Aj _,?_⟩;(conv=>whnf);refine .inl ?_;refine⟨rfl,?_⟩;refine⟨_,Ec (ek:=D.i) (ev:=(D.l 1 D.u8)) (l:=[]) (k:=1) (v:=([(Ao a0.Origin)]:List UInt8)) BM,?_⟩;exact AB wk h
 rintro v3 h;revert h;refine AD (fun v5=>⟨X::yr 1 0::X::X::AV.own 4 (List.map JAA.toD []).length::AV.mp 24::dd 35 (yb v5::dd 153 ([])),N::yB (JAE.av a0)::N::N::some (OB.row 88 3 (List.map JAA.toD []) .no)::nn 19 (some (OB.map 3 44 (Bm D.i (D.l 1 D.u8) v3))::nn 170 ([]))⟩) ?_ ?_
 ·intro k6 h;refine sJ h (fun h=>AB wk h) fun h=>?_;refine⟨a0.Path.length,X10 _,?_⟩;exact AB wk h
 rintro v5 h;revert h;refine AD (fun v7=>⟨X::yr 1 0::X::X::AV.own 4 (List.map JAA.toD []).length::AV.mp 24::dd 189 ([]),N::yB (JAE.av a0)::N::N::some (OB.row 88 3 (List.map JAA.toD []) .no)::nn 19 (some (OB.map 3 44 (Bm D.i (D.l 1 D.u8) v7))::nn 170 ([]))⟩) ?_ ?_
 ·intro k8 h;refine sJ h (fun h=>?_) fun h=>AB wk h;refine⟨a0.Path.length,X10 _,?_⟩;revert h;refine AD (fun v9=>⟨X::yr 1 0::X::X::AV.own 4 (List.map JAA.toD []).length::AV.mp 24::yO 42 D.u8 v9::dd 188 ([]),N::yB (JAE.av a0)::N::N::some (OB.row 88 3 (List.map JAA.toD []) .no)::nn 19 (some (OB.map 3 44 (Bm D.i (D.l 1 D.u8) v3))::nn 17 (yR 5 1 D.u8 v9::nn 152 ([])))⟩) ?_ ?_
  ·intro k10 h;revert h;refine Ag 44 2 JAC.toD rfl (fun i11 v12=>⟨X::yr 1 0::X::X::AV.own 4 (List.map JAA.toD []).length::AV.mp 24::yO 42 D.u8 v12::dd 37 (AV.d (D.l 2 JAC.toD a0.Path)::yi (a0.Path.length:Int)::yi (i11:Int)::dd 148 ([])),N::yB (JAE.av a0)::N::N::some (OB.row 88 3 (List.map JAA.toD []) .no)::nn 19 (some (OB.map 3 44 (Bm D.i (D.l 1 D.u8) v3))::nn 17 (yR 5 1 D.u8 v12::nn 152 ([])))⟩) ?_ ?_ ?_
   ·exact wk
   ·rintro v12 K13 h;(conv=>whnf);refine .go ?_;(conv=>whnf);refine BJ CX ?_;exact AB wk h
   rintro next14 i11 x15 v12 K13 hii11 hxi11 hwi11 h hK16;(conv=>whnf);refine .go ?_;(conv=>whnf);refine BD (CN hii11) ?_;revert h;refine AD (fun v17=>⟨X::yr 1 0::X::X::AV.own 4 (List.map JAA.toD []).length::AV.mp 24::yO 42 D.u8 v17::dd 37 (AV.d (D.l 2 JAC.toD a0.Path)::yi (a0.Path.length:Int)::yi (i11:Int)::dd 148 ([])),N::yB (JAE.av a0)::N::N::some (OB.row 88 3 (List.map JAA.toD []) .no)::nn 19 (some (OB.map 3 44 (Bm D.i (D.l 1 D.u8) v3))::nn 17 (yR 5 1 D.u8 v17::nn 152 ([])))⟩) ?_ ?_
   ·intro k18 h;refine⟨BE (f:=JAC.toD) hii11,JAC.toD x15,hxi11,rfl,?_⟩;revert h;refine AD (fun v19=>⟨X::yr 1 0::X::X::AV.own 4 (List.map JAA.toD []).length::AV.mp 24::yO 42 D.u8 v12::X::yr 8 0::yv v19::dd 34 (AV.d (D.l 2 JAC.toD a0.Path)::yi (a0.Path.length:Int)::yi (i11:Int)::dd 148 ([])),N::yB (JAE.av a0)::N::N::some (OB.row 88 3 (List.map JAA.toD []) .no)::N::N::N::yB (JAC.av x15)::nn 15 (some (OB.map 3 44 (Bm D.i (D.l 1 D.u8) v3))::nn 17 (yR 5 1 D.u8 v12::nn 152 ([])))⟩) ?_ ?_
    ·intro k20 h;exact sJ h (fun h=>AB wk h) fun h=>AB wk h
    rintro v19 h;refine⟨x15.ASNs.length,X10 _,?_⟩;refine⟨_,Aj _,?_⟩;refine⟨rfl,?_⟩;obtain⟨v21,g22,h⟩:=AA h;refine⟨rfl,AT (f:=D.u8) (g:=D.u8) g22,_,AU (f:=D.u8) g22,?_⟩;refine⟨x15.ASNs.length,X10 _,?_⟩;revert h;refine AD (fun v23=>⟨X::yr 1 0::X::X::AV.own 4 (List.map JAA.toD []).length::AV.mp 24::yO 42 D.u8 v23::dd 37 (AV.d (D.l 2 JAC.toD a0.Path)::yi (a0.Path.length:Int)::yi (i11:Int)::dd 148 ([])),N::yB (JAE.av a0)::N::N::some (OB.row 88 3 (List.map JAA.toD []) .no)::nn 19 (some (OB.map 3 44 (Bm D.i (D.l 1 D.u8) v3))::nn 17 (yR 5 1 D.u8 v23::nn 152 ([])))⟩) ?_ ?_
    ·intro k24 h;revert h;refine Ag 61 1 D.i rfl (fun i25 v26=>⟨X::yr 1 0::X::X::AV.own 4 (List.map JAA.toD []).length::AV.mp 24::yO 42 D.u8 v26::dd 37 (AV.d (D.l 2 JAC.toD a0.Path)::yi (a0.Path.length:Int)::yi (i11:Int)::dd 14 (AV.d (D.l 1 D.i x15.ASNs)::yi (x15.ASNs.length:Int)::yi (i25:Int)::dd 131 ([]))),N::yB (JAE.av a0)::N::N::some (OB.row 88 3 (List.map JAA.toD []) .no)::nn 19 (some (OB.map 3 44 (Bm D.i (D.l 1 D.u8) v3))::nn 17 (yR 5 1 D.u8 v26::nn 152 ([])))⟩) ?_ ?_ ?_
     ·exact wk
     ·rintro v26 K27 h;(conv=>whnf);refine .go ?_;(conv=>whnf);refine BJ CX ?_;exact AB wk h
     rintro next28 i25 x29 v26 K27 hii25 hxi25 hwi25 h hK30;(conv=>whnf);refine .go ?_;(conv=>whnf);refine BD (CN hii25) ?_;(conv=>whnf);refine .go ?_;refine⟨BE (f:=D.i) hii25,D.i x29,hxi25,rfl,?_⟩;obtain⟨v31,g32,h⟩:=AA h;refine⟨_,_,some [],Cd g32,?_⟩;obtain⟨v33,g34,h⟩:=AA h;refine⟨rfl,AT (f:=D.u8) (g:=D.u8) g34,_,AU (f:=D.u8) g34,?_⟩;refine⟨_,hwi25,?_⟩;exact hK30 _ _ wk h
    rintro v23 h;exact AB wk h
   rintro v17 h;refine⟨_,hwi11,?_⟩;exact hK16 _ _ wk h
  rintro v9 h;(conv=>whnf);refine .inl ?_;refine⟨rfl,?_⟩;refine⟨_,Ec (ek:=D.i) (ev:=(D.l 1 D.u8)) (l:=v3) (k:=2) (v:=v9) BM,?_⟩;exact AB wk h
 rintro v7 h;revert h;refine AD (fun v35=>⟨X::yr 1 0::X::X::AV.own 4 (List.map JAA.toD []).length::AV.mp 24::dd 78 (yb v35::dd 110 ([])),N::yB (JAE.av a0)::N::N::some (OB.row 88 3 (List.map JAA.toD []) .no)::nn 19 (some (OB.map 3 44 (Bm D.i (D.l 1 D.u8) v7))::nn 170 ([]))⟩) ?_ ?_
 ·intro k36 h;exact sJ h (fun h=>AB wk h) fun h=>AB wk h
 rintro v35 h;revert h;refine AD (fun v37=>⟨X::yr 1 0::X::X::AV.own 4 (List.map JAA.toD []).length::AV.mp 24::dd 189 ([]),N::yB (JAE.av a0)::N::N::some (OB.row 88 3 (List.map JAA.toD []) .no)::nn 19 (some (OB.map 3 44 (Bm D.i (D.l 1 D.u8) v37))::nn 170 ([]))⟩) ?_ ?_
 ·intro k38 h;refine sJ h (fun h=>?_) fun h=>AB wk h;obtain⟨v39,g40,h⟩:=AA h;refine⟨_,_,some [88],GW g40,?_⟩;(conv=>whnf);refine .inl ?_;refine⟨rfl,?_⟩;refine⟨_,Ec (ek:=D.i) (ev:=(D.l 1 D.u8)) (l:=v7) (k:=3) (v:=v39) BM,?_⟩;exact AB wk h
 rintro v37 h;revert h;refine AD (fun v41=>⟨X::yr 1 0::X::X::AV.own 4 (List.map JAA.toD []).length::AV.mp 24::dd 189 ([]),N::yB (JAE.av a0)::N::N::some (OB.row 88 3 (List.map JAA.toD []) .no)::nn 19 (some (OB.map 3 44 (Bm D.i (D.l 1 D.u8) v41))::nn 170 ([]))⟩) ?_ ?_
 ·intro k42 h;refine sJ h (fun h=>?_) fun h=>AB wk h;obtain⟨v43,g44,h⟩:=AA h;refine⟨_,_,some [],Cd g44,?_⟩;refine⟨_,Ec (ek:=D.i) (ev:=(D.l 1 D.u8)) (l:=v37) (k:=4) (v:=v43) BM,?_⟩;exact AB wk h
 rintro v41 h;revert h;refine AD (fun v45=>⟨X::yr 1 0::X::X::AV.own 4 (List.map JAA.toD []).length::AV.mp 24::dd 189 ([]),N::yB (JAE.av a0)::N::N::some (OB.row 88 3 (List.map JAA.toD []) .no)::nn 19 (some (OB.map 3 44 (Bm D.i (D.l 1 D.u8) v45))::nn 170 ([]))⟩) ?_ ?_
 ·intro k46 h;refine sJ h (fun h=>?_) fun h=>AB wk h;obtain⟨v47,g48,h⟩:=AA h;refine⟨_,_,some [],Cd g48,?_⟩;refine⟨_,Ec (ek:=D.i) (ev:=(D.l 1 D.u8)) (l:=v41) (k:=5) (v:=v47) BM,?_⟩;exact AB wk h
 rintro v45 h;refine⟨a0.Communities.length,X10 _,?_⟩;revert h;refine AD (fun (v49,v50)=>⟨X::yr 1 0::X::X::AV.own 4 (List.map JAA.toD []).length::AV.mp 24::dd 189 ([]),N::yB (JAE.av a0)::N::N::some (OB.row 88 3 (List.map JAA.toD []) .no)::nn 19 (some (OB.amap 3 44 (Bm D.i (D.l 1 D.u8) v49) (.int .i64 8) 112 (List.map D.u8 v50).length)::nn 87 (some (OB.row 5 1 (List.map D.u8 v50) .yes)::nn 82 ([])))⟩) ?_ ?_
 ·intro k51 h;obtain⟨_,g52,h⟩:=AA h;revert h;refine Ag 104 2 JAB.toD rfl (fun i53 (v54,v55)=>⟨X::yr 1 0::X::X::AV.own 4 (List.map JAA.toD []).length::AV.mp 24::dd 98 (AV.d (D.l 2 JAB.toD a0.Communities)::yi (a0.Communities.length:Int)::yi (i53:Int)::dd 88 ([])),N::yB (JAE.av a0)::N::N::some (OB.row 88 3 (List.map JAA.toD []) .no)::nn 19 (some (OB.amap 3 44 (Bm D.i (D.l 1 D.u8) v54) (.int .i64 8) 112 (List.map D.u8 v55).length)::nn 87 (some (OB.row 5 1 (List.map D.u8 v55) .yes)::nn 82 ([])))⟩) ?_ ?_ ?_
  ·exact (.mk rfl (And.intro (.refl _) (And.intro (.refl _) (And.intro (.refl _) (And.intro (.refl _) (And.intro (.refl _) (And.intro (.refl _) True.intro)))))) (And.intro ⟨_,rfl,And.intro ⟨rfl,.refl _⟩ (And.intro ⟨rfl,.refl _⟩ (And.intro ⟨rfl,.refl _⟩ (And.intro ⟨rfl,.refl _⟩ (And.intro ⟨rfl,.refl _⟩ (And.intro ⟨rfl,.refl _⟩ (And.intro ⟨rfl,.refl _⟩ (And.intro ⟨rfl,.refl _⟩ (And.intro ⟨rfl,.refl _⟩ (And.intro ⟨rfl,.refl _⟩ (And.intro ⟨rfl,.refl _⟩ (True.intro)))))))))))⟩ (And.intro (.inl ⟨_,rfl,⟨id,trivial⟩⟩) (And.intro (.inr ⟨.inl rfl,⟨_,O8 BM g52⟩,rfl,rfl,_,_,_,rfl⟩) (And.intro (.inr ⟨rfl,rfl,by decide⟩) (True.intro))))) rfl)
  ·rintro⟨v54,v55⟩ K56 h;(conv=>whnf);refine .go ?_;(conv=>whnf);refine BJ CX ?_;exact AB wk h
  rintro next57 i53 x58 ⟨v54,v55⟩ K56 hii53 hxi53 hwi53 h hK59;(conv=>whnf);refine .go ?_;(conv=>whnf);refine BD (CN hii53) ?_;(conv=>whnf);refine .go ?_;refine⟨BE (f:=JAB.toD) hii53,JAB.toD x58,hxi53,rfl,?_⟩;(conv=>whnf);refine .inl (dO ?_);(conv=>whnf);refine .inr ⟨rfl,rfl,⟨_,BW (ek:=D.i) (ev:=(D.l 1 D.u8)) (l:=v54) (k:=8) BM⟩,rfl,?_⟩;obtain⟨v60,g61,h⟩:=AA h;refine⟨_,_,Cd g61,.inl rfl,?_⟩;obtain⟨v62,g63,h⟩:=AA h;refine⟨rfl,AT (f:=D.u8) (g:=D.u8) g63,_,AU (f:=D.u8) g63,?_⟩;obtain⟨v64,g65,h⟩:=AA h;refine⟨_,_,Cd g65,.inl rfl,?_⟩;obtain⟨v66,g67,h⟩:=AA h;refine⟨rfl,AT (f:=D.u8) (g:=D.u8) g67,_,AU (f:=D.u8) g67,?_⟩;(conv=>whnf);refine .inr ?_;refine⟨rfl,?_⟩;refine⟨_,Ec (ek:=D.i) (ev:=(D.l 1 D.u8)) (l:=v54) (k:=8) (v:=v66) BM,?_⟩;(conv=>whnf);refine cO ?_;refine⟨_,hwi53,?_⟩;exact hK59 _ _ wk h
 rintro⟨v49,v50⟩ h;refine⟨a0.JAF.length,X10 _,?_⟩;revert h;refine AD (fun (v68,v69)=>⟨X::yr 1 0::X::X::AV.own 4 (List.map JAA.toD []).length::AV.mp 24::dd 189 ([]),N::yB (JAE.av a0)::N::N::some (OB.row 88 3 (List.map JAA.toD []) .no)::nn 19 (some (OB.amap 3 44 (Bm D.i (D.l 1 D.u8) v68) (.int .i64 32) 131 (List.map D.u8 v69).length)::nn 106 (some (OB.row 5 1 (List.map D.u8 v69) .yes)::nn 63 ([])))⟩) ?_ ?_
 ·intro k70 h;obtain⟨_,g71,h⟩:=AA h;revert h;refine Ag 123 3 JAF.toD rfl (fun i72 (v73,v74)=>⟨X::yr 1 0::X::X::AV.own 4 (List.map JAA.toD []).length::AV.mp 24::dd 117 (AV.d (D.l 3 JAF.toD a0.JAF)::yi (a0.JAF.length:Int)::yi (i72:Int)::dd 69 ([])),N::yB (JAE.av a0)::N::N::some (OB.row 88 3 (List.map JAA.toD []) .no)::nn 19 (some (OB.amap 3 44 (Bm D.i (D.l 1 D.u8) v73) (.int .i64 32) 131 (List.map D.u8 v74).length)::nn 106 (some (OB.row 5 1 (List.map D.u8 v74) .yes)::nn 63 ([])))⟩) ?_ ?_ ?_
  ·exact (.mk rfl (And.intro (.refl _) (And.intro (.refl _) (And.intro (.refl _) (And.intro (.refl _) (And.intro (.refl _) (And.intro (.refl _) True.intro)))))) (And.intro ⟨_,rfl,And.intro ⟨rfl,.refl _⟩ (And.intro ⟨rfl,.refl _⟩ (And.intro ⟨rfl,.refl _⟩ (And.intro ⟨rfl,.refl _⟩ (And.intro ⟨rfl,.refl _⟩ (And.intro ⟨rfl,.refl _⟩ (And.intro ⟨rfl,.refl _⟩ (And.intro ⟨rfl,.refl _⟩ (And.intro ⟨rfl,.refl _⟩ (And.intro ⟨rfl,.refl _⟩ (And.intro ⟨rfl,.refl _⟩ (True.intro)))))))))))⟩ (And.intro (.inl ⟨_,rfl,⟨id,trivial⟩⟩) (And.intro (.inr ⟨.inr ⟨_,_,_,rfl⟩,⟨_,O8 BM g71⟩,rfl,rfl,_,_,_,rfl⟩) (And.intro (.inr ⟨rfl,rfl,by decide⟩) (True.intro))))) rfl)
  ·rintro⟨v73,v74⟩ K75 h;(conv=>whnf);refine .go ?_;(conv=>whnf);refine BJ CX ?_;exact AB wk h
  rintro next76 i72 x77 ⟨v73,v74⟩ K75 hii72 hxi72 hwi72 h hK78;(conv=>whnf);refine .go ?_;(conv=>whnf);refine BD (CN hii72) ?_;(conv=>whnf);refine .go ?_;refine⟨BE (f:=JAF.toD) hii72,JAF.toD x77,hxi72,rfl,?_⟩;(conv=>whnf);refine .inl (dO ?_);(conv=>whnf);refine .inr ⟨rfl,rfl,⟨_,BW (ek:=D.i) (ev:=(D.l 1 D.u8)) (l:=v73) (k:=32) BM⟩,rfl,?_⟩;obtain⟨v79,g80,h⟩:=AA h;refine⟨_,_,Cd g80,.inl rfl,?_⟩;obtain⟨v81,g82,h⟩:=AA h;refine⟨rfl,AT (f:=D.u8) (g:=D.u8) g82,_,AU (f:=D.u8) g82,?_⟩;obtain⟨v83,g84,h⟩:=AA h;refine⟨_,_,Cd g84,.inl rfl,?_⟩;obtain⟨v85,g86,h⟩:=AA h;refine⟨rfl,AT (f:=D.u8) (g:=D.u8) g86,_,AU (f:=D.u8) g86,?_⟩;obtain⟨v87,g88,h⟩:=AA h;refine⟨_,_,Cd g88,.inl rfl,?_⟩;obtain⟨v89,g90,h⟩:=AA h;refine⟨rfl,AT (f:=D.u8) (g:=D.u8) g90,_,AU (f:=D.u8) g90,?_⟩;(conv=>whnf);refine .inr ?_;refine⟨rfl,?_⟩;refine⟨_,Ec (ek:=D.i) (ev:=(D.l 1 D.u8)) (l:=v73) (k:=32) (v:=v89) BM,?_⟩;(conv=>whnf);refine cO ?_;refine⟨_,hwi72,?_⟩;exact hK78 _ _ wk h
 rintro⟨v68,v69⟩ h;revert h;refine AD (fun v91=>⟨X::yr 1 0::X::X::AV.own 4 (List.map JAA.toD []).length::AV.mp 24::dd 189 ([]),N::yB (JAE.av a0)::N::N::some (OB.row 88 3 (List.map JAA.toD []) .no)::nn 19 (some (OB.map 3 44 (Bm D.i (D.l 1 D.u8) v91))::nn 170 ([]))⟩) ?_ ?_
 ·intro k92 h;refine sJ h (fun h=>?_) fun h=>AB wk h;obtain⟨v93,g94,h⟩:=AA h;refine⟨_,_,some [],Cd g94,?_⟩;refine⟨_,Ec (ek:=D.i) (ev:=(D.l 1 D.u8)) (l:=v68) (k:=35) (v:=v93) BM,?_⟩;exact AB wk h
 rintro v91 h;revert h;refine AD (fun v95=>⟨dd 4 (yO 4 JAA.toD v95::dd 190 ([])),nn 4 (yR 88 3 JAA.toD v95::nn 190 ([]))⟩) ?_ ?_
 ·intro k96 h;revert h;refine Ap (fun (v97,v98)=>⟨X::yr 1 0::X::X::yO 4 JAA.toD v98::AV.mp 24::dd 146 (yi v97::dd 42 ([])),N::yB (JAE.av a0)::N::N::yR 88 3 JAA.toD v98::nn 19 (some (OB.map 3 44 (Bm D.i (D.l 1 D.u8) v91))::nn 170 ([]))⟩) ?_ ?_
  ·exact wk
  rintro next99 ⟨v97,v98⟩ K100 h hK101;(conv=>whnf);refine .go ?_;refine sJ h (fun h=>?_) fun h=>AB wk h;revert h;refine AD (fun v102=>⟨X::yr 1 0::X::X::yO 4 JAA.toD v102::AV.mp 24::dd 146 (yi v97::dd 42 ([])),N::yB (JAE.av a0)::N::N::yR 88 3 JAA.toD v102::nn 19 (some (OB.map 3 44 (Bm D.i (D.l 1 D.u8) v91))::nn 170 ([]))⟩) ?_ ?_
  ·intro k103 h;obtain⟨v104,g105,h⟩:=AA h;obtain⟨v106,g107,h⟩:=AA h;refine⟨_,BW (ek:=D.i) (ev:=(D.l 1 D.u8)) (l:=v91) (k:=v97) BM,(D.l 1 D.u8) v104,Dv (z:=[]) rfl g105,v106,az g107,?_⟩;revert h;refine AD (fun v108=>⟨X::yr 1 0::X::X::yO 4 JAA.toD v108::AV.mp 24::dd 10 (yi v97::dd 135 (yi v97::dd 42 ([]))),N::yB (JAE.av a0)::N::N::yR 88 3 JAA.toD v108::nn 19 (some (OB.map 3 44 (Bm D.i (D.l 1 D.u8) v91))::nn 170 ([]))⟩) ?_ ?_
   ·intro k109 h;refine sJ h (fun h=>?_) fun h=>AB wk h;obtain⟨v110,g111,h⟩:=AA h;refine⟨_,_,some [],KB g111,?_⟩;obtain⟨_,g112,h⟩:=AA h;refine⟨D4 (g:=D.u8) g112,?_⟩;(conv=>whnf);refine .inl ?_;refine⟨rfl,?_⟩;refine⟨rfl,?_⟩;obtain⟨v113,g114,h⟩:=AA h;refine⟨rfl,AT (f:=JAA.toD) (g:=JAA.toD) g114,_,AU (f:=JAA.toD) g114,?_⟩;exact AB wk h
   rintro v108 h;refine⟨a0.Other.length,X10 _,?_⟩;revert h;refine AD (fun v115=>⟨X::yr 1 0::X::X::yO 4 JAA.toD v115::AV.mp 24::dd 146 (yi v97::dd 42 ([])),N::yB (JAE.av a0)::N::N::yR 88 3 JAA.toD v115::nn 19 (some (OB.map 3 44 (Bm D.i (D.l 1 D.u8) v91))::nn 170 ([]))⟩) ?_ ?_
   ·intro k116 h;revert h;refine Ag 172 3 JAA.toD rfl (fun i117 v118=>⟨X::yr 1 0::X::X::yO 4 JAA.toD v118::AV.mp 24::dd 10 (yi v97::dd 135 (yi v97::dd 19 (AV.d (D.l 3 JAA.toD a0.Other)::yi (a0.Other.length:Int)::yi (i117:Int)::dd 20 ([])))),N::yB (JAE.av a0)::N::N::yR 88 3 JAA.toD v118::nn 19 (some (OB.map 3 44 (Bm D.i (D.l 1 D.u8) v91))::nn 170 ([]))⟩) ?_ ?_ ?_
    ·exact wk
    ·rintro v118 K119 h;(conv=>whnf);refine .go ?_;(conv=>whnf);refine BJ CX ?_;exact AB wk h
    rintro next120 i117 x121 v118 K119 hii117 hxi117 hwi117 h hK122;(conv=>whnf);refine .go ?_;(conv=>whnf);refine BD (CN hii117) ?_;(conv=>whnf);refine .go ?_;refine⟨BE (f:=JAA.toD) hii117,JAA.toD x121,hxi117,rfl,?_⟩;revert h;refine AD (fun v123=>⟨X::yr 1 0::X::X::yO 4 JAA.toD v123::AV.mp 24::dd 10 (yi v97::dd 135 (yi v97::dd 19 (AV.d (D.l 3 JAA.toD a0.Other)::yi (a0.Other.length:Int)::yi (i117:Int)::dd 20 ([])))),N::yB (JAE.av a0)::N::N::yR 88 3 JAA.toD v123::nn 19 (some (OB.map 3 44 (Bm D.i (D.l 1 D.u8) v91))::nn 170 ([]))⟩) ?_ ?_
    ·intro k124 h;refine sJ h (fun h=>?_) fun h=>AB wk h;(conv=>whnf);refine .inl (dO ?_);obtain⟨_,g125,h⟩:=AA h;refine⟨D4 (g:=D.u8) g125,?_⟩;(conv=>whnf);refine .inl ?_;refine⟨rfl,?_⟩;refine⟨rfl,?_⟩;obtain⟨v126,g127,h⟩:=AA h;refine⟨rfl,AT (f:=JAA.toD) (g:=JAA.toD) g127,_,AU (f:=JAA.toD) g127,?_⟩;(conv=>whnf);refine cO ?_;exact AB wk h
    rintro v123 h;refine⟨_,hwi117,?_⟩;exact hK122 _ _ wk h
   rintro v115 h;exact AB wk h
  rintro v102 h;refine⟨_,rfl,?_⟩;exact hK101 _ _ wk h
 rintro v95 h;(conv=>whnf);refine .inl ?_;refine⟨rfl,?_⟩;cases h;exact⟨rfl,rfl⟩
theorem Ld {a0:List JAA}{r:(List UInt8)×Int}(h:Gu a0=some r):yC wl 57 [AV.d (D.l 3 JAA.toD a0)] [] (.tup [.d (D.l 1 D.u8 r.1),.d (D.i r.2)]) []:=by
 refine oK Tryz.f57 ⟨rfl,?_⟩;unfold Gu at h;refine⟨a0.length,X10 _,?_⟩;revert h;refine AD (fun _=>⟨y4 a0::dd 88 ([]),nn 89 ([])⟩) ?_ ?_
 ·intro k1 h;revert h;refine Ag 10 3 JAA.toD rfl (fun i2 _=>⟨y4 a0::dd 9 (y4 a0::yi (a0.length:Int)::yi (i2:Int)::dd 76 ([])),nn 89 ([])⟩) ?_ ?_ ?_
  ·exact wk
  ·rintro _ K3 h;(conv=>whnf);refine .go ?_;(conv=>whnf);refine BJ CX ?_;exact AB wk h
  rintro next4 i2 x5 _ K3 hii2 hxi2 hwi2 h hK6;(conv=>whnf);refine .go ?_;(conv=>whnf);refine BD (CN hii2) ?_;(conv=>whnf);refine .go ?_;refine⟨BE (f:=JAA.toD) hii2,JAA.toD x5,hxi2,rfl,?_⟩;revert h;refine AD (fun v7=>⟨y4 a0::dd 9 (y4 a0::yi (a0.length:Int)::yi (i2:Int)::dd 26 (yb v7::dd 49 ([]))),nn 89 ([])⟩) ?_ ?_
  ·intro k8 h;refine sJ h (fun h=>AB wk h) fun h=>?_;refine sJ h (fun h=>AB wk h) fun h=>?_;refine sJ h (fun h=>AB wk h) fun h=>?_;refine sJ h (fun h=>AB wk h) fun h=>?_;refine⟨x5.Data.length,X10 _,?_⟩;exact AB wk h
  rintro v7 h;(conv=>whnf);refine .go ?_;refine sJ h ?_ ?_<;>intro h
  ·(conv=>whnf);refine .inl ?_;refine⟨rfl,?_⟩;cases h;exact⟨rfl,rfl⟩
  refine⟨_,hwi2,?_⟩;exact hK6 _ _ wk h
 rintro _ h;refine⟨a0.length,X10 _,?_⟩;revert h;refine AD (fun v9=>⟨dd 6 (yO 6 D.u8 v9::dd 82 ([])),nn 6 (yR 5 1 D.u8 v9::nn 82 ([]))⟩) ?_ ?_
 ·intro k10 h;revert h;refine Ag 41 3 JAA.toD rfl (fun i11 v12=>⟨dd 6 (yO 6 D.u8 v12::dd 34 (y4 a0::yi (a0.length:Int)::yi (i11:Int)::dd 45 ([]))),nn 6 (yR 5 1 D.u8 v12::nn 82 ([]))⟩) ?_ ?_ ?_
  ·exact wk
  ·rintro v12 K13 h;(conv=>whnf);refine .go ?_;(conv=>whnf);refine BJ CX ?_;exact AB wk h
  rintro next14 i11 x15 v12 K13 hii11 hxi11 hwi11 h hK16;(conv=>whnf);refine .go ?_;(conv=>whnf);refine BD (CN hii11) ?_;(conv=>whnf);refine .go ?_;refine⟨BE (f:=JAA.toD) hii11,JAA.toD x15,hxi11,rfl,?_⟩;refine⟨x15.Data.length,X10 _,?_⟩;revert h;refine AD (fun v17=>⟨dd 6 (yO 6 D.u8 v17::X::yr 8 0::dd 32 (y4 a0::yi (a0.length:Int)::yi (i11:Int)::dd 45 ([]))),nn 6 (yR 5 1 D.u8 v17::N::yB (JAA.av x15)::nn 80 ([]))⟩) ?_ ?_
  ·intro k18 h;refine sJ h ?_ ?_<;>intro h
   ·refine⟨_,Aj _,?_⟩;refine⟨_,Aj _,?_⟩;refine⟨_,Aj _,?_⟩;refine⟨_,Aj _,?_⟩;refine⟨by decide,_,rfl,?_⟩;refine⟨_,Aj _,?_⟩;refine⟨_,Aj _,?_⟩;refine⟨rfl,?_⟩;obtain⟨v19,g20,h⟩:=AA h;refine⟨rfl,AT (f:=D.u8) (g:=D.u8) g20,_,AU (f:=D.u8) g20,?_⟩;exact AB wk h
   refine⟨_,Aj _,?_⟩;refine⟨_,Aj _,?_⟩;refine⟨_,Aj _,?_⟩;refine⟨_,Aj _,?_⟩;refine⟨rfl,?_⟩;obtain⟨v21,g22,h⟩:=AA h;refine⟨rfl,AT (f:=D.u8) (g:=D.u8) g22,_,AU (f:=D.u8) g22,?_⟩;exact AB wk h
  rintro v17 h;obtain⟨v23,g24,h⟩:=AA h;refine⟨rfl,AT (f:=D.u8) (g:=D.u8) g24,_,AU (f:=D.u8) g24,?_⟩;refine⟨_,hwi11,?_⟩;exact hK16 _ _ wk h
 rintro v9 h;refine⟨v9.length,by first | exact X10 _ | rfl | (simp only[X10];omega),?_⟩;(conv=>whnf);refine .go ?_;refine sJ h ?_ ?_<;>intro h
 ·(conv=>whnf);refine .inl ?_;refine⟨rfl,?_⟩;cases h;exact⟨rfl,rfl⟩
 (conv=>whnf);refine .inl ?_;refine⟨rfl,?_⟩;cases h;exact⟨rfl,rfl⟩
theorem GO {a0:List JAD}{a1:Bool}{r:(List UInt8)}(h:EN a0 a1=some r):yC wl 97 [AV.d (D.l 4 JAD.toD a0),AV.d (D.b a1)] [] (.d (D.l 1 D.u8 r)) []:=by
 refine oK Tryz.f97 ⟨rfl,?_⟩;unfold EN at h;refine⟨a0.length,X10 _,?_⟩;revert h;refine AD (fun v1=>⟨dd 5 (yO 5 D.u8 v1::dd 30 ([])),nn 5 (yR 5 1 D.u8 v1::nn 30 ([]))⟩) ?_ ?_
 ·intro k2 h;revert h;refine Ag 8 4 JAD.toD rfl (fun i3 v4=>⟨X::yb a1::X::X::X::yO 5 D.u8 v4::X::X::y5 a0::yi (a0.length:Int)::yi (i3:Int)::dd 25 ([]),nn 5 (yR 5 1 D.u8 v4::nn 30 ([]))⟩) ?_ ?_ ?_
  ·exact wk
  ·rintro v4 K5 h;(conv=>whnf);refine .go ?_;(conv=>whnf);refine BJ CX ?_;exact AB wk h
  rintro next6 i3 x7 v4 K5 hii3 hxi3 hwi3 h hK8;(conv=>whnf);refine .go ?_;(conv=>whnf);refine BD (CN hii3) ?_;(conv=>whnf);refine .go ?_;refine⟨BE (f:=JAD.toD) hii3,JAD.toD x7,hxi3,rfl,?_⟩;revert h;refine AD (fun v9=>⟨X::yb a1::X::X::X::yO 5 D.u8 v9::X::X::y5 a0::yi (a0.length:Int)::yi (i3:Int)::dd 25 ([]),nn 5 (yR 5 1 D.u8 v9::nn 30 ([]))⟩) ?_ ?_
  ·intro k10 h;refine sJ h (fun h=>?_) fun h=>AB wk h;(conv=>whnf);refine .inl (dO ?_);refine⟨_,Aj _,?_⟩;refine⟨rfl,?_⟩;obtain⟨v11,g12,h⟩:=AA h;refine⟨rfl,AT (f:=D.u8) (g:=D.u8) g12,_,AU (f:=D.u8) g12,?_⟩;obtain⟨v13,g14,h⟩:=AA h;refine⟨_,_,GW g14,.inr rfl,?_⟩;refine⟨_,rfl,?_⟩;refine⟨by decide,_,rfl,?_⟩;(conv=>whnf);refine .inr (.inl ?_);obtain⟨_,g15,h⟩:=AA h;have g21c:=DJ g15;refine⟨UK (f:=D.u8) g15,rfl,(Int.toNat 0),(Int.toNat (AN (Int.tdiv (AN (x7.Len+7)) 8))-Int.toNat 0),rfl,rfl,?_⟩;refine⟨(by first | rfl | (simp only[X10,X21];omega)|(simp only[cpy,X10,X21,X11,X18,X17,X20];omega)),List.map D.u8 (List.take (Int.toNat (AN (Int.tdiv (AN (x7.Len+7)) 8))-Int.toNat 0) (List.drop (Int.toNat 0) v13)),Om,?_⟩;obtain⟨v16,g17,h⟩:=AA h;refine⟨rfl,AT (f:=D.u8) (g:=D.u8) g17,_,AU (f:=D.u8) g17,?_⟩;(conv=>whnf);refine cO ?_;exact AB wk h
  rintro v9 h;refine⟨_,hwi3,?_⟩;exact hK8 _ _ wk h
 rintro v1 h;(conv=>whnf);refine .inl ?_;(conv=>whnf);refine .inl ?_;refine⟨rfl,?_⟩;cases h;exact⟨rfl,rfl⟩
theorem NP {a0:List JAA}{a1:JAA}{r:(List JAA)}(h:GE a0 a1=some r):yC wl 98 [AV.d (D.l 3 JAA.toD a0),AV.d (JAA.toD a1)] [] (.d (D.l 3 JAA.toD r)) []:=by
 refine oK Tryz.f98 ⟨rfl,?_⟩;unfold GE at h;revert h;refine AD (fun v1=>⟨y4 a0::X::X::yr 3 0::X::yi v1::dd 27 ([]),N::N::N::yB (JAA.av a1)::nn 29 ([])⟩) ?_ ?_
 ·intro k2 h;revert h;refine Ap (fun v3=>⟨y4 a0::X::X::yr 3 0::X::yi v3::dd 27 ([]),N::N::N::yB (JAA.av a1)::nn 29 ([])⟩) ?_ ?_
  ·exact wk
  rintro next4 v3 K5 h hK6;revert h;refine AD (fun v7=>⟨y4 a0::X::X::yr 3 0::X::yi v3::dd 13 (yb v7::dd 13 ([])),N::N::N::yB (JAA.av a1)::nn 29 ([])⟩) ?_ ?_
  ·intro k8 h;(conv=>whnf);refine .inl (dO ?_);refine⟨a0.length,X10 _,?_⟩;refine sJ h ?_ ?_<;>intro h
   ·obtain⟨v9,g10,h⟩:=AA h;refine⟨Af (f:=JAA.toD) g10,JAA.toD v9,Ai (f:=JAA.toD) g10,rfl,?_⟩;(conv=>whnf);refine cO ?_;exact AB wk h
   (conv=>whnf);refine cO ?_;exact AB wk h
  rintro v7 h;(conv=>whnf);refine .go ?_;refine sJ h (fun h=>?_) fun h=>AB wk h;(conv=>whnf);refine .go ?_;refine⟨_,rfl,?_⟩;exact hK6 _ _ wk h
 rintro v1 h;(conv=>whnf);refine .inl (dO ?_);obtain⟨v11,g12,h⟩:=AA h;refine⟨EQ (f:=JAA.toD) g12,_,Dj (f:=JAA.toD) g12,?_⟩;obtain⟨_,g13,h⟩:=AA h;refine⟨D4 (g:=JAA.toD) g13,?_⟩;refine⟨rfl,?_⟩;obtain⟨v14,g15,h⟩:=AA h;refine⟨rfl,AT (f:=JAA.toD) (g:=JAA.toD) g15,_,AU (f:=JAA.toD) g15,?_⟩;obtain⟨v16,g17,h⟩:=AA h;refine⟨FP (f:=JAA.toD) g17,_,FM (f:=JAA.toD) g17,?_⟩;obtain⟨v18,g19,h⟩:=AA h;refine⟨rfl,AT (f:=JAA.toD) (g:=JAA.toD) g19,_,AU (f:=JAA.toD) g19,?_⟩;(conv=>whnf);refine cO ?_;(conv=>whnf);refine .inl ?_;(conv=>whnf);refine .inl ?_;refine⟨rfl,?_⟩;cases h;exact⟨rfl,rfl⟩
theorem KI {a0:JAG}{r:(List UInt8)×Int}(h:E7 a0=some r):yC wl 50 [AV.d (JAG.toD a0)] [] (.tup [.d (D.l 1 D.u8 r.1),.d (D.i r.2)]) []:=by
 refine oK Tryz.f50 ⟨rfl,?_⟩;unfold E7 at h;refine⟨a0.Announce.length,X10 _,?_⟩;revert h;refine AD (fun v1=>⟨X::yr 1 0::X::X::y4 v1::dd 91 ([]),N::yB (JAG.av a0)::nn 94 ([])⟩) ?_ ?_
 ·intro k2 h;refine sJ h (fun h=>?_) fun h=>AB wk h;obtain⟨⟨v3,v4⟩,g5,h⟩:=AA h;refine⟨_,_,some [],KO g5,?_⟩;(conv=>whnf);refine .go ?_;refine sJ h (fun h=>?_) fun h=>AB wk h;cases h;exact⟨rfl,rfl⟩
 rintro v1 h;obtain⟨v6,g7,h⟩:=AA h;refine⟨_,_,some [],GO g7,?_⟩;refine⟨v6.length,X10 _,?_⟩;revert h;refine AD (fun v8=>⟨X::yr 1 0::X::X::y4 v8::dd 91 ([]),N::yB (JAG.av a0)::nn 94 ([])⟩) ?_ ?_
 ·intro k9 h;refine sJ h (fun h=>?_) fun h=>AB wk h;obtain⟨v10,g11,h⟩:=AA h;refine⟨_,_,some [38],GW g11,?_⟩;refine⟨rfl,?_⟩;obtain⟨v12,g13,h⟩:=AA h;refine⟨rfl,AT (f:=D.u8) (g:=D.u8) g13,_,AU (f:=D.u8) g13,?_⟩;refine⟨rfl,?_⟩;obtain⟨v14,g15,h⟩:=AA h;refine⟨rfl,AT (f:=D.u8) (g:=D.u8) g15,_,AU (f:=D.u8) g15,?_⟩;obtain⟨v16,g17,h⟩:=AA h;refine⟨rfl,AT (f:=D.u8) (g:=D.u8) g17,_,AU (f:=D.u8) g17,?_⟩;refine⟨rfl,?_⟩;obtain⟨v18,g19,h⟩:=AA h;refine⟨_,_,some [],NP g19,?_⟩;exact AB wk h
 rintro v8 h;obtain⟨v20,g21,h⟩:=AA h;refine⟨_,_,some [],GO g21,?_⟩;refine⟨v20.length,X10 _,?_⟩;revert h;refine AD (fun v22=>⟨X::yr 1 0::X::X::y4 v22::dd 91 ([]),N::yB (JAG.av a0)::nn 94 ([])⟩) ?_ ?_
 ·intro k23 h;refine sJ h (fun h=>?_) fun h=>AB wk h;obtain⟨v24,g25,h⟩:=AA h;refine⟨rfl,AT (f:=D.u8) (g:=D.u8) g25,_,AU (f:=D.u8) g25,?_⟩;refine⟨rfl,?_⟩;obtain⟨v26,g27,h⟩:=AA h;refine⟨_,_,some [],NP g27,?_⟩;exact AB wk h
 rintro v22 h;obtain⟨⟨v28,v29⟩,g30,h⟩:=AA h;refine⟨_,_,some [],Ld g30,?_⟩;(conv=>whnf);refine .go ?_;refine sJ h ?_ ?_<;>intro h
 ·(conv=>whnf);refine .inl ?_;refine⟨rfl,?_⟩;cases h;exact⟨rfl,rfl⟩
 obtain⟨v31,g32,h⟩:=AA h;refine⟨_,_,some [],GO g32,?_⟩;refine⟨v31.length,X10 _,?_⟩;refine⟨by decide,_,rfl,?_⟩;refine⟨_,Aj _,?_⟩;refine⟨v31.length,X10 _,?_⟩;refine⟨_,Aj _,?_⟩;obtain⟨v33,g34,h⟩:=AA h;refine⟨rfl,AT (f:=D.u8) (g:=D.u8) g34,_,AU (f:=D.u8) g34,?_⟩;refine⟨v28.length,X10 _,?_⟩;refine⟨by decide,_,rfl,?_⟩;refine⟨_,Aj _,?_⟩;refine⟨v28.length,X10 _,?_⟩;refine⟨_,Aj _,?_⟩;refine⟨rfl,?_⟩;obtain⟨v35,g36,h⟩:=AA h;refine⟨rfl,AT (f:=D.u8) (g:=D.u8) g36,_,AU (f:=D.u8) g36,?_⟩;obtain⟨v37,g38,h⟩:=AA h;refine⟨rfl,AT (f:=D.u8) (g:=D.u8) g38,_,AU (f:=D.u8) g38,?_⟩;obtain⟨v39,g40,h⟩:=AA h;refine⟨_,_,some [],GO g40,?_⟩;obtain⟨v41,g42,h⟩:=AA h;refine⟨rfl,AT (f:=D.u8) (g:=D.u8) g42,_,AU (f:=D.u8) g42,?_⟩;(conv=>whnf);refine .inl ?_;refine⟨rfl,?_⟩;cases h;exact⟨rfl,rfl⟩
theorem Jx {a0:JAG}{r:Bool}(h:F8 a0=some r):yC wl 21 [AV.d (JAG.toD a0)] [] (.d (D.b r)) []:=by
 refine oK Tryz.f21 ⟨rfl,?_⟩;unfold F8 at h;revert h;refine AD (fun v1=>⟨X::yr 1 0::dd 16 (yb v1::dd 73 ([])),N::yB (JAG.av a0)::nn 90 ([])⟩) ?_ ?_
 ·intro k2 h;refine⟨a0.Withdraw.length,X10 _,?_⟩;refine sJ h (fun h=>AB wk h) fun h=>?_;refine⟨a0.Announce.length,X10 _,?_⟩;exact AB wk h
 rintro v1 h;(conv=>whnf);refine .go ?_;refine sJ h ?_ ?_<;>intro h
 ·cases h;exact⟨rfl,rfl⟩
 (conv=>whnf);refine .inl (dO ?_);obtain⟨_,g3,h⟩:=AA h;refine⟨D4 (g:=JAD.toD) g3,?_⟩;obtain⟨v4,g5,h⟩:=AA h;refine⟨rfl,AT (f:=JAD.toD) (g:=JAD.toD) g5,_,AU (f:=JAD.toD) g5,?_⟩;refine⟨v4.length,by first | exact X10 _ | rfl | (simp only[X10];omega),?_⟩;(conv=>whnf);refine cO ?_;revert h;refine AD (fun _=>⟨X::yr 1 0::dd 90 ([]),N::yB (JAG.av a0)::nn 90 ([])⟩) ?_ ?_
 ·intro k6 h;revert h;refine Kx 21 41 4 .no JAD.toD rfl (fun i7 _=>⟨X::yr 1 0::dd 22 (yO 21 JAD.toD v4::yi (v4.length:Int)::yi (i7:Int)::dd 65 ([])),N::yB (JAG.av a0)::nn 19 (yR 41 4 JAD.toD v4::nn 70 ([]))⟩) ?_ ?_ ?_
  ·exact wk
  ·rintro _ K8 h;(conv=>whnf);refine .go ?_;(conv=>whnf);refine BJ CX ?_;exact AB wk h
  rintro next9 i7 x10 _ K8 hii7 hxi7 hwi7 h hK11;(conv=>whnf);refine .go ?_;(conv=>whnf);refine BD (CN hii7) ?_;(conv=>whnf);refine .go ?_;refine⟨rfl,BE (f:=JAD.toD) hii7,?_⟩;refine⟨rfl,JAD.toD x10,hxi7,?_⟩;obtain⟨v12,g13,h⟩:=AA h;refine⟨_,_,some [],Kq g13,?_⟩;(conv=>whnf);refine .go ?_;refine sJ h ?_ ?_<;>intro h
  ·cases h;exact⟨rfl,rfl⟩
  refine⟨_,hwi7,?_⟩;exact hK11 _ _ wk h
 rintro _ h;revert h;refine AD (fun v14=>⟨X::yr 1 0::dd 42 (yb v14::dd 47 ([])),N::yB (JAG.av a0)::nn 90 ([])⟩) ?_ ?_
 ·intro k15 h;(conv=>whnf);refine .inl (dO ?_);refine⟨a0.Announce.length,X10 _,?_⟩;refine sJ h ?_ ?_<;>intro h
  ·obtain⟨v16,g17,h⟩:=AA h;refine⟨_,_,Hk g17,.inl rfl,?_⟩;obtain⟨v18,g19,h⟩:=AA h;refine⟨_,_,La g19,.inl rfl,?_⟩;(conv=>whnf);refine cO ?_;exact AB wk h
  (conv=>whnf);refine cO ?_;exact AB wk h
 rintro v14 h;(conv=>whnf);refine .go ?_;refine sJ h ?_ ?_<;>intro h
 ·cases h;exact⟨rfl,rfl⟩
 refine⟨a0.Announce.length,X10 _,?_⟩;revert h;refine AD (fun _=>⟨X::yr 1 0::dd 90 ([]),N::yB (JAG.av a0)::nn 90 ([])⟩) ?_ ?_
 ·intro k20 h;revert h;refine Ag 46 4 JAD.toD rfl (fun i21 _=>⟨X::yr 1 0::dd 44 (AV.d (D.l 4 JAD.toD a0.Announce)::yi (a0.Announce.length:Int)::yi (i21:Int)::dd 43 ([])),N::yB (JAG.av a0)::nn 90 ([])⟩) ?_ ?_ ?_
  ·exact wk
  ·rintro _ K22 h;(conv=>whnf);refine .go ?_;(conv=>whnf);refine BJ CX ?_;exact AB wk h
  rintro next23 i21 x24 _ K22 hii21 hxi21 hwi21 h hK25;(conv=>whnf);refine .go ?_;(conv=>whnf);refine BD (CN hii21) ?_;(conv=>whnf);refine .go ?_;refine⟨BE (f:=JAD.toD) hii21,JAD.toD x24,hxi21,rfl,?_⟩;revert h;refine AD (fun v26=>⟨X::yr 1 0::dd 44 (AV.d (D.l 4 JAD.toD a0.Announce)::yi (a0.Announce.length:Int)::yi (i21:Int)::dd 29 (yb v26::dd 13 ([]))),N::yB (JAG.av a0)::nn 90 ([])⟩) ?_ ?_
  ·intro k27 h;refine sJ h (fun h=>AB wk h) fun h=>?_;refine sJ h (fun h=>AB wk h) fun h=>?_;refine sJ h (fun h=>AB wk h) fun h=>?_;obtain⟨v28,g29,h⟩:=AA h;refine⟨_,_,some [],H2 g29,?_⟩;exact AB wk h
  rintro v26 h;(conv=>whnf);refine .go ?_;refine sJ h ?_ ?_<;>intro h
  ·cases h;exact⟨rfl,rfl⟩
  refine⟨_,hwi21,?_⟩;exact hK25 _ _ wk h
 rintro _ h;obtain⟨⟨v30,v31⟩,g32,h⟩:=AA h;refine⟨_,_,some [],KI g32,?_⟩;revert h;refine AD (fun v33=>⟨X::X::yb v33::dd 89 ([]),nn 92 ([])⟩) ?_ ?_
 ·intro k34 h;refine sJ h (fun h=>?_) fun h=>AB wk h;refine⟨v30.length,X10 _,?_⟩;exact AB wk h
 rintro v33 h;cases h;exact⟨rfl,rfl⟩
theorem LH {a0:JAI}{r:JAG×JAI}(h:EJ a0=some r):yC wl 13 [.ref 0 0] [.box (JAI.av a0)] (.d (JAG.toD r.1)) [.box (JAI.av r.2)]:=by
 refine okx 2 Tryz.f13 (by kernel_rfl) (by kernel_rfl) ⟨rfl,?_⟩;unfold EJ at h;revert h;refine AD (fun _=>⟨yr 0 0::X::yr 3 0::dd 5 (AV.d (D.agg [D.i (-1),D.nil 2,D.b false,D.u64 (0:UInt64),D.u64 (0:UInt64),D.i (-1),D.i (-1),D.i (-1),D.nil 2,D.nil 3,D.nil 3])::dd 67 ([])),yB (JAI.av a0)::N::N::yB JAG.zv::nn 75 ([])⟩) ?_ ?_
 ·intro k1 h;(conv=>whnf);refine inl Tryz.f17 77 (by kernel_rfl) (by kernel_rfl) ⟨rfl,?_⟩;exact AB wk h
 rintro _ h;obtain⟨⟨v2,v3⟩,g4,h⟩:=AA h;refine⟨_,_,some [],AK g4,?_⟩;revert h;refine AD (fun (v5,v6)=>⟨yr 0 0::X::yr 3 0::yr 4 0::dd 72 ([]),yB (JAI.av v5)::N::N::yB JAG.zv::yB [yO 22 JAD.toD v6,yi (-1),AV.d (D.nil 2),yb false,yu (0:UInt64),yu (0:UInt64),yi (-1),yi (-1),yi (-1),AV.d (D.nil 2),AV.d (D.nil 3),AV.d (D.nil 3),AV.d (D.nil 4)]::nn 17 (yR 41 4 JAD.toD v6::nn 56 ([]))⟩) ?_ ?_
 ·intro k7 h;revert h;refine Ap (fun (v8,v9,v10)=>⟨yr 0 0::X::yr 3 0::yr 4 0::yi v8::dd 71 ([]),yB (JAI.av v9)::N::N::yB JAG.zv::yB [yO 22 JAD.toD v10,yi (-1),AV.d (D.nil 2),yb false,yu (0:UInt64),yu (0:UInt64),yi (-1),yi (-1),yi (-1),AV.d (D.nil 2),AV.d (D.nil 3),AV.d (D.nil 3),AV.d (D.nil 4)]::nn 17 (yR 41 4 JAD.toD v10::nn 56 ([]))⟩) ?_ ?_
  ·exact wk
  rintro next11 ⟨v8,v9,v10⟩ K12 h hK13;(conv=>whnf);refine .go ?_;refine sJ h (fun h=>?_) fun h=>AB wk h;(conv=>whnf);refine .go ?_;(conv=>whnf);refine .inl (dO ?_);obtain⟨⟨v14,v15⟩,g16,h⟩:=AA h;refine⟨_,_,HV g16,.inl rfl,?_⟩;refine⟨rfl,?_⟩;obtain⟨v17,g18,h⟩:=AA h;refine⟨rfl,AT (f:=JAD.toD) (g:=JAD.toD) g18,_,AU (f:=JAD.toD) g18,?_⟩;(conv=>whnf);refine cO ?_;refine⟨_,rfl,?_⟩;exact hK13 _ _ wk h
 rintro⟨v5,v6⟩ h;obtain⟨⟨v19,v20⟩,g21,h⟩:=AA h;refine⟨_,_,some [],AK g21,?_⟩;(conv=>whnf);refine .go ?_;refine sJ h ?_ ?_<;>intro h
 ·(conv=>whnf);refine .inl ?_;refine⟨rfl,?_⟩;cases h;exact⟨rfl,rfl⟩
 obtain⟨⟨v22,v23⟩,g24,h⟩:=AA h;refine⟨_,_,some [],AK g24,?_⟩;obtain⟨⟨v25,v26⟩,g27,h⟩:=AA h;refine⟨_,_,some [],AK g27,?_⟩;revert h;refine AD (fun (v28,v29)=>⟨yr 0 0::X::yr 3 0::yr 4 0::X::yb (v22==1)::dd 70 ([]),yB (JAI.av v28)::N::N::yB JAG.zv::yB [yO 22 JAD.toD v6,yi (-1),AV.d (D.nil 2),yb false,yu (0:UInt64),yu (0:UInt64),yi (-1),yi (-1),yi (-1),AV.d (D.nil 2),AV.d (D.nil 3),AV.d (D.nil 3),yO 48 JAD.toD v29]::nn 17 (yR 41 4 JAD.toD v6::nn 25 (yR 41 4 JAD.toD v29::nn 30 ([])))⟩) ?_ ?_
 ·intro k30 h;revert h;refine Ap (fun (v31,v32,v33)=>⟨yr 0 0::X::yr 3 0::yr 4 0::X::yb (v22==1)::yi v31::dd 69 ([]),yB (JAI.av v32)::N::N::yB JAG.zv::yB [yO 22 JAD.toD v6,yi (-1),AV.d (D.nil 2),yb false,yu (0:UInt64),yu (0:UInt64),yi (-1),yi (-1),yi (-1),AV.d (D.nil 2),AV.d (D.nil 3),AV.d (D.nil 3),yO 48 JAD.toD v33]::nn 17 (yR 41 4 JAD.toD v6::nn 25 (yR 41 4 JAD.toD v33::nn 30 ([])))⟩) ?_ ?_
  ·exact wk
  rintro next34 ⟨v31,v32,v33⟩ K35 h hK36;(conv=>whnf);refine .go ?_;refine sJ h (fun h=>?_) fun h=>AB wk h;(conv=>whnf);refine .go ?_;obtain⟨⟨v37,v38⟩,g39,h⟩:=AA h;refine⟨_,_,some [],HV g39,?_⟩;revert h;refine AD (fun v40=>⟨yr 0 0::X::yr 3 0::yr 4 0::X::yb (v22==1)::yi v31::dd 69 ([]),yB (JAI.av v38)::N::N::yB JAG.zv::yB [yO 22 JAD.toD v6,yi (-1),AV.d (D.nil 2),yb false,yu (0:UInt64),yu (0:UInt64),yi (-1),yi (-1),yi (-1),AV.d (D.nil 2),AV.d (D.nil 3),AV.d (D.nil 3),yO 48 JAD.toD v40]::nn 17 (yR 41 4 JAD.toD v6::nn 25 (yR 41 4 JAD.toD v40::nn 30 ([])))⟩) ?_ ?_
  ·intro k41 h;refine sJ h (fun h=>?_) fun h=>AB wk h;refine⟨rfl,?_⟩;obtain⟨v42,g43,h⟩:=AA h;refine⟨rfl,AT (f:=JAD.toD) (g:=JAD.toD) g43,_,AU (f:=JAD.toD) g43,?_⟩;exact AB wk h
  rintro v40 h;refine⟨_,rfl,?_⟩;exact hK36 _ _ wk h
 rintro⟨v28,v29⟩ h;refine⟨v29.length,by first | exact X10 _ | rfl | (simp only[X10];omega),?_⟩;(conv=>whnf);refine .go ?_;refine sJ h ?_ ?_<;>intro h
 ·(conv=>whnf);refine .inl ?_;refine⟨rfl,?_⟩;refine⟨rfl,?_⟩;cases h;exact⟨rfl,rfl⟩
 obtain⟨⟨v44,v45⟩,g46,h⟩:=AA h;refine⟨_,_,some [],IB g46,?_⟩;refine⟨_,rfl,?_⟩;obtain⟨v47,g48,h⟩:=AA h;refine⟨_,_,some [],Nq g48,?_⟩;revert h;refine AD (fun (v49,v50,v51)=>⟨X::X::yr 3 0::yr 4 0::dd 72 ([]),yB (JAI.av v45)::N::N::yB JAG.zv::yB [yO 22 JAD.toD v6,yi (if v44.Origin > 0 then v44.Origin else 0),AV.d (D.l 2 JAC.toD v44.Path),yb v49,yu v50,yu v51,AV.d (D.i v44.MED),AV.d (D.i v44.Pref),AV.d (D.i v44.OTC),AV.d (D.l 2 JAB.toD v44.Communities),AV.d (D.l 3 JAF.toD v44.JAF),AV.d (D.l 3 JAA.toD v44.Other),yO 48 JAD.toD v29]::nn 17 (yR 41 4 JAD.toD v6::nn 25 (yR 41 4 JAD.toD v29::nn 30 ([])))⟩) ?_ ?_
 ·intro k52 h;refine sJ h (fun h=>?_) fun h=>AB wk h;obtain⟨v53,g54,h⟩:=AA h;refine⟨_,_,some [],O4 g54,?_⟩;exact AB wk h
 rintro⟨v49,v50,v51⟩ h;refine⟨rfl,?_⟩;refine⟨rfl,?_⟩;obtain⟨v55,g56,h⟩:=AA h;refine⟨_,_,none,Jx g56,?_⟩;(conv=>whnf);refine .go ?_;refine sJ h ?_ ?_<;>intro h
 ·revert h;refine AD (fun _=>⟨X::X::yr 3 0::dd 70 (AV.d (D.agg [D.i (-1),D.nil 2,D.b false,D.u64 (0:UInt64),D.u64 (0:UInt64),D.i (-1),D.i (-1),D.i (-1),D.nil 2,D.nil 3,D.nil 3])::X::X::[]),yB (JAI.av v45)::N::N::yB JAG.zv::nn 75 ([])⟩) ?_ ?_
  ·intro k57 h;(conv=>whnf);refine inl Tryz.f17 77 (by kernel_rfl) (by kernel_rfl) ⟨rfl,?_⟩;exact AB wk h
  rintro _ h;cases h;exact⟨rfl,rfl⟩
 (conv=>whnf);refine .inl ?_;refine⟨rfl,?_⟩;refine⟨rfl,?_⟩;cases h;exact⟨rfl,rfl⟩
theorem Rh {a0:List UInt8}{a1:Int}{r:(List UInt8)}(h:Hw a0 a1=some r):yC wl 87 [AV.own 0 (List.map D.u8 a0).length,AV.d (D.i a1)] [.row 5 1 (List.map D.u8 a0) .no] (AV.own 0 (List.map D.u8 r).length) [.row 5 1 (List.map D.u8 r) .no]:=by
 refine oK Tryz.f87 ⟨rfl,?_⟩;unfold Hw at h;refine⟨by decide,_,rfl,?_⟩;refine⟨_,Aj _,?_⟩;refine⟨_,Aj _,?_⟩;refine⟨rfl,?_⟩;obtain⟨v1,g2,h⟩:=AA h;refine⟨rfl,AT (f:=D.u8) (g:=D.u8) g2,_,AU (f:=D.u8) g2,?_⟩;(conv=>whnf);refine .inl ?_;cases h;exact⟨rfl,rfl⟩
theorem Bj {a0:Int}{a1:Int}{a2:Int}{r:Bool}(h:A7 a0 a1 a2=some r):yC wl 118 [AV.d (D.i a0),AV.d (D.i a1),AV.d (D.i a2)] [] (.d (D.b r)) []:=by
 refine oK Tryz.f118 ⟨rfl,?_⟩;unfold A7 at h;revert h;refine AD (fun v1=>⟨dd 6 (yb v1::dd 8 ([])),nn 15 ([])⟩) ?_ ?_
 ·intro k2 h;exact sJ h (fun h=>AB wk h) fun h=>AB wk h
 rintro v1 h;cases h;exact⟨rfl,rfl⟩
theorem Nn {a0:List JAA}{r:(List UInt8)×Int}(h:E1 a0=some r):yC wl 94 [AV.d (D.l 3 JAA.toD a0)] [] (.tup [.d (D.l 1 D.u8 r.1),.d (D.i r.2)]) []:=by
 refine oK Tryz.f94 ⟨rfl,?_⟩;unfold E1 at h;refine⟨a0.length,X10 _,?_⟩;revert h;refine AD (fun _=>⟨y4 a0::dd 79 ([]),nn 80 ([])⟩) ?_ ?_
 ·intro k1 h;revert h;refine Ag 11 3 JAA.toD rfl (fun i2 _=>⟨y4 a0::dd 10 (y4 a0::yi (a0.length:Int)::yi (i2:Int)::dd 66 ([])),nn 80 ([])⟩) ?_ ?_ ?_
  ·exact wk
  ·rintro _ K3 h;(conv=>whnf);refine .go ?_;(conv=>whnf);refine BJ CX ?_;exact AB wk h
  rintro next4 i2 x5 _ K3 hii2 hxi2 hwi2 h hK6;(conv=>whnf);refine .go ?_;(conv=>whnf);refine BD (CN hii2) ?_;(conv=>whnf);refine .go ?_;refine⟨BE (f:=JAA.toD) hii2,JAA.toD x5,hxi2,rfl,?_⟩;revert h;refine AD (fun v7=>⟨y4 a0::dd 10 (y4 a0::yi (a0.length:Int)::yi (i2:Int)::dd 18 (yb v7::dd 47 ([]))),nn 80 ([])⟩) ?_ ?_
  ·intro k8 h;obtain⟨v9,g10,h⟩:=AA h;refine⟨_,_,some [],Bj g10,?_⟩;refine sJ h (fun h=>AB wk h) fun h=>?_;obtain⟨v11,g12,h⟩:=AA h;refine⟨_,_,some [],Bj g12,?_⟩;refine sJ h (fun h=>AB wk h) fun h=>?_;refine⟨x5.Data.length,X10 _,?_⟩;exact AB wk h
  rintro v7 h;(conv=>whnf);refine .go ?_;refine sJ h ?_ ?_<;>intro h
  ·(conv=>whnf);refine .inl ?_;refine⟨rfl,?_⟩;cases h;exact⟨rfl,rfl⟩
  refine⟨_,hwi2,?_⟩;exact hK6 _ _ wk h
 rintro _ h;refine⟨a0.length,X10 _,?_⟩;revert h;refine AD (fun v13=>⟨dd 6 (yO 6 D.u8 v13::dd 73 ([])),nn 6 (yR 5 1 D.u8 v13::nn 73 ([]))⟩) ?_ ?_
 ·intro k14 h;revert h;refine Ag 34 3 JAA.toD rfl (fun i15 v16=>⟨dd 6 (yO 6 D.u8 v16::dd 27 (y4 a0::yi (a0.length:Int)::yi (i15:Int)::dd 43 ([]))),nn 6 (yR 5 1 D.u8 v16::nn 73 ([]))⟩) ?_ ?_ ?_
  ·exact wk
  ·rintro v16 K17 h;(conv=>whnf);refine .go ?_;(conv=>whnf);refine BJ CX ?_;exact AB wk h
  rintro next18 i15 x19 v16 K17 hii15 hxi15 hwi15 h hK20;(conv=>whnf);refine .go ?_;(conv=>whnf);refine BD (CN hii15) ?_;(conv=>whnf);refine .go ?_;refine⟨BE (f:=JAA.toD) hii15,JAA.toD x19,hxi15,rfl,?_⟩;(conv=>whnf);refine .inl (dO ?_);refine⟨_,Aj _,?_⟩;refine⟨_,Aj _,?_⟩;refine⟨x19.Data.length,X10 _,?_⟩;(conv=>whnf);refine cO ?_;revert h;refine AD (fun v21=>⟨dd 6 (yO 6 D.u8 v21::X::yr 8 0::dd 25 (y4 a0::yi (a0.length:Int)::yi (i15:Int)::dd 43 ([]))),nn 6 (yR 5 1 D.u8 v21::N::yB (JAA.av x19)::nn 71 ([]))⟩) ?_ ?_
  ·intro k22 h;refine sJ h ?_ ?_<;>intro h
   ·refine⟨_,Aj _,?_⟩;refine⟨_,Aj _,?_⟩;refine⟨by decide,_,rfl,?_⟩;refine⟨_,Aj _,?_⟩;refine⟨_,Aj _,?_⟩;refine⟨rfl,?_⟩;obtain⟨v23,g24,h⟩:=AA h;refine⟨rfl,AT (f:=D.u8) (g:=D.u8) g24,_,AU (f:=D.u8) g24,?_⟩;exact AB wk h
   refine⟨_,Aj _,?_⟩;refine⟨_,Aj _,?_⟩;refine⟨rfl,?_⟩;obtain⟨v25,g26,h⟩:=AA h;refine⟨rfl,AT (f:=D.u8) (g:=D.u8) g26,_,AU (f:=D.u8) g26,?_⟩;exact AB wk h
  rintro v21 h;obtain⟨v27,g28,h⟩:=AA h;refine⟨rfl,AT (f:=D.u8) (g:=D.u8) g28,_,AU (f:=D.u8) g28,?_⟩;refine⟨v27.length,by first | exact X10 _ | rfl | (simp only[X10];omega),?_⟩;(conv=>whnf);refine .go ?_;refine sJ h ?_ ?_<;>intro h
  ·(conv=>whnf);refine .inl ?_;refine⟨rfl,?_⟩;cases h;exact⟨rfl,rfl⟩
  refine⟨_,hwi15,?_⟩;exact hK20 _ _ wk h
 rintro v13 h;(conv=>whnf);refine .inl ?_;refine⟨rfl,?_⟩;cases h;exact⟨rfl,rfl⟩
theorem Gz {a0:Addr}{r:Bool}(h:Ek a0=some r):yC wl 99 [AV.d (Addr.toD a0)] [] (.d (D.b r)) []:=by
 refine oK Tryz.f99 ⟨rfl,?_⟩;unfold Ek at h;revert h;refine AD (fun v1=>⟨X::X::yb v1::dd 12 ([]),nn 15 ([])⟩) ?_ ?_
 ·intro k2 h;refine sJ h (fun h=>AB wk h) fun h=>?_;exact sJ h (fun h=>AB wk h) fun h=>AB wk h
 rintro v1 h;cases h;exact⟨rfl,rfl⟩
theorem Fa {a0:Addr}{r:(List UInt8)}(h:BN a0=some r):yC wl 135 [AV.d (Addr.toD a0)] [] (.d (D.l 1 D.u8 r)) []:=by
 refine oK Tryz.f135 ⟨rfl,?_⟩;unfold BN at h;obtain⟨v1,g2,h⟩:=AA h;refine⟨_,_,some [],Gz g2,?_⟩;(conv=>whnf);refine .go ?_;refine sJ h ?_ ?_<;>intro h
 ·(conv=>whnf);refine .inl ?_;cases h;exact⟨rfl,rfl⟩
 revert h;refine AD (fun v3=>⟨X::yr 1 0::X::yi v3::dd 34 ([]),N::yB (Addr.av a0)::nn 36 ([])⟩) ?_ ?_
 ·intro k4 h;exact sJ h (fun h=>AB wk h) fun h=>AB wk h
 rintro v3 h;obtain⟨_,g5,h⟩:=AA h;refine⟨Wg g5 (X29 rfl),D.u8 (0:UInt8),rfl,(List.map D.u8 (List.replicate (Int.toNat v3) (0:UInt8))),List.map_replicate.symm,?_⟩;refine⟨_,rfl,?_⟩;revert h;refine AD (fun v6=>⟨dd 4 (yO 12 D.u8 v6::dd 33 ([])),nn 12 (yR 5 1 D.u8 v6::nn 25 ([]))⟩) ?_ ?_
 ·intro k7 h;revert h;refine Ap (fun (v8,v9,v10)=>⟨X::yr 1 0::X::X::yO 12 D.u8 v10::yi v8::dd 32 ([]),N::yB (Addr.av v9)::nn 10 (yR 5 1 D.u8 v10::nn 25 ([]))⟩) ?_ ?_
  ·exact wk
  rintro next11 ⟨v8,v9,v10⟩ K12 h hK13;(conv=>whnf);refine .go ?_;refine sJ h (fun h=>?_) fun h=>AB wk h;(conv=>whnf);refine .go ?_;refine⟨_,Aj _,?_⟩;obtain⟨v14,g15,h⟩:=AA h;refine⟨rfl,Af (f:=D.u8) g15,?_⟩;obtain⟨v16,g17,h⟩:=AA h;have g17l:=IE g17;refine⟨rfl,rfl,D.u8 v14,(Ai (f:=D.u8) g15),?_⟩;refine⟨_,MI (f:=D.u8) g17,?_⟩;refine⟨by decide,_,MU v9.Lo _,?_⟩;refine⟨by decide,_,Aw _,?_⟩;refine⟨_,Aw _,?_⟩;refine⟨by decide,_,MU v9.Hi _,?_⟩;refine⟨_,rfl,?_⟩;exact hK13 _ _ wk h
 rintro v6 h;(conv=>whnf);refine .inl ?_;(conv=>whnf);refine .inl ?_;refine⟨rfl,?_⟩;cases h;exact⟨rfl,rfl⟩
theorem Jb {a0:List UInt8}{a1:List JAD}{a2:Bool}{r:(List UInt8)}(h:ET a0 a1 a2=some r):yC wl 96 [AV.own 0 (List.map D.u8 a0).length,AV.d (D.l 4 JAD.toD a1),AV.d (D.b a2)] [.row 5 1 (List.map D.u8 a0) .no] (AV.own 0 (List.map D.u8 r).length) [.row 5 1 (List.map D.u8 r) .no]:=by
 refine oK Tryz.f96 ⟨rfl,?_⟩;unfold ET at h;refine⟨a1.length,X10 _,?_⟩;revert h;refine AD (fun v1=>⟨yO 0 D.u8 v1::dd 36 ([]),yR 5 1 D.u8 v1::nn 37 ([])⟩) ?_ ?_
 ·intro k2 h;revert h;refine Ag 9 4 JAD.toD rfl (fun i3 v4=>⟨yO 0 D.u8 v4::X::yb a2::dd 6 (y5 a1::yi (a1.length:Int)::yi (i3:Int)::dd 25 ([])),yR 5 1 D.u8 v4::nn 37 ([])⟩) ?_ ?_ ?_
  ·exact wk
  ·rintro v4 K5 h;(conv=>whnf);refine .go ?_;(conv=>whnf);refine BJ CX ?_;exact AB wk h
  rintro next6 i3 x7 v4 K5 hii3 hxi3 hwi3 h hK8;(conv=>whnf);refine .go ?_;(conv=>whnf);refine BD (CN hii3) ?_;(conv=>whnf);refine .go ?_;refine⟨BE (f:=JAD.toD) hii3,JAD.toD x7,hxi3,rfl,?_⟩;revert h;refine AD (fun v9=>⟨yO 0 D.u8 v9::X::yb a2::dd 6 (y5 a1::yi (a1.length:Int)::yi (i3:Int)::dd 25 ([])),yR 5 1 D.u8 v9::nn 37 ([])⟩) ?_ ?_
  ·intro k10 h;refine sJ h (fun h=>?_) fun h=>AB wk h;(conv=>whnf);refine .inl (dO ?_);refine⟨_,Aj _,?_⟩;refine⟨rfl,?_⟩;obtain⟨v11,g12,h⟩:=AA h;refine⟨rfl,AT (f:=D.u8) (g:=D.u8) g12,_,AU (f:=D.u8) g12,?_⟩;obtain⟨v13,g14,h⟩:=AA h;refine⟨_,_,Fa g14,.inl rfl,?_⟩;refine⟨_,rfl,?_⟩;refine⟨by decide,_,rfl,?_⟩;obtain⟨v15,g16,h⟩:=AA h;refine⟨EQ (f:=D.u8) g16,_,Dj (f:=D.u8) g16,?_⟩;obtain⟨v17,g18,h⟩:=AA h;refine⟨rfl,AT (f:=D.u8) (g:=D.u8) g18,_,AU (f:=D.u8) g18,?_⟩;(conv=>whnf);refine cO ?_;exact AB wk h
  rintro v9 h;refine⟨_,hwi3,?_⟩;exact hK8 _ _ wk h
 rintro v1 h;(conv=>whnf);refine .inl ?_;cases h;exact⟨rfl,rfl⟩
theorem Gl {a0:Int}{r:Bool}(h:D8 a0=some r):yC wl 139 [AV.d (D.i a0)] [] (.d (D.b r)) []:=by
 refine oK Tryz.f139 ⟨rfl,?_⟩;unfold D8 at h;revert h;refine AD (fun v1=>⟨X::X::yb v1::dd 6 ([]),nn 9 ([])⟩) ?_ ?_
 ·intro k2 h;exact sJ h (fun h=>AB wk h) fun h=>AB wk h
 rintro v1 h;cases h;exact⟨rfl,rfl⟩
theorem Ji {a0:List JAC}{r:Bool}(h:FQ a0=some r):yC wl 138 [AV.d (D.l 2 JAC.toD a0)] [] (.d (D.b r)) []:=by
 refine oK Tryz.f138 ⟨rfl,?_⟩;unfold FQ at h;refine⟨a0.length,X10 _,?_⟩;revert h;refine AD (fun v1=>⟨X::X::X::yi v1::dd 71 ([]),nn 75 ([])⟩) ?_ ?_
 ·intro k2 h;revert h;refine Ag 8 2 JAC.toD rfl (fun i3 v4=>⟨y0 a0::X::X::yi v4::dd 4 (y0 a0::yi (a0.length:Int)::yi (i3:Int)::dd 64 ([])),nn 75 ([])⟩) ?_ ?_ ?_
  ·exact wk
  ·rintro v4 K5 h;(conv=>whnf);refine .go ?_;(conv=>whnf);refine BJ CX ?_;exact AB wk h
  rintro next6 i3 x7 v4 K5 hii3 hxi3 hwi3 h hK8;(conv=>whnf);refine .go ?_;(conv=>whnf);refine BD (CN hii3) ?_;revert h;refine AD (fun _=>⟨y0 a0::X::X::yi (AN (v4+(x7.ASNs.length:Int)))::dd 4 (y0 a0::yi (a0.length:Int)::yi (i3:Int)::dd 64 ([])),nn 75 ([])⟩) ?_ ?_
  ·intro k9 h;refine⟨BE (f:=JAC.toD) hii3,JAC.toD x7,hxi3,rfl,?_⟩;revert h;refine AD (fun v10=>⟨y0 a0::X::X::yi v4::X::yr 5 0::X::X::y0 a0::yi (a0.length:Int)::yi (i3:Int)::dd 25 (yb v10::dd 38 ([])),nn 5 (yB (JAC.av x7)::nn 69 ([]))⟩) ?_ ?_
   ·intro k11 h;refine⟨x7.ASNs.length,X10 _,?_⟩;refine sJ h (fun h=>AB wk h) fun h=>?_;refine sJ h (fun h=>?_) fun h=>AB wk h;refine sJ h (fun h=>?_) fun h=>AB wk h;refine⟨_,rfl,?_⟩;obtain⟨v12,g13,h⟩:=AA h;refine⟨Af (f:=JAC.toD) g13,JAC.toD v12,Ai (f:=JAC.toD) g13,rfl,?_⟩;exact AB wk h
   rintro v10 h;(conv=>whnf);refine .go ?_;refine sJ h ?_ ?_<;>intro h
   ·cases h;exact⟨rfl,rfl⟩
   refine⟨x7.ASNs.length,X10 _,?_⟩;revert h;refine AD (fun _=>⟨y0 a0::X::X::yi v4::X::yr 5 0::X::X::y0 a0::yi (a0.length:Int)::yi (i3:Int)::dd 64 ([]),nn 5 (yB (JAC.av x7)::nn 69 ([]))⟩) ?_ ?_
   ·intro k14 h;revert h;refine Ag 38 1 D.i rfl (fun i15 _=>⟨y0 a0::X::X::yi v4::X::yr 5 0::X::X::y0 a0::yi (a0.length:Int)::yi (i3:Int)::dd 27 (AV.d (D.l 1 D.i x7.ASNs)::yi (x7.ASNs.length:Int)::yi (i15:Int)::dd 34 ([])),nn 5 (yB (JAC.av x7)::nn 69 ([]))⟩) ?_ ?_ ?_
    ·exact wk
    ·rintro _ K16 h;(conv=>whnf);refine .go ?_;(conv=>whnf);refine BJ CX ?_;exact AB wk h
    rintro next17 i15 x18 _ K16 hii15 hxi15 hwi15 h hK19;(conv=>whnf);refine .go ?_;(conv=>whnf);refine BD (CN hii15) ?_;(conv=>whnf);refine .go ?_;refine⟨BE (f:=D.i) hii15,D.i x18,hxi15,rfl,?_⟩;revert h;refine AD (fun v20=>⟨y0 a0::X::X::yi v4::X::yr 5 0::X::X::y0 a0::yi (a0.length:Int)::yi (i3:Int)::dd 27 (AV.d (D.l 1 D.i x7.ASNs)::yi (x7.ASNs.length:Int)::yi (i15:Int)::dd 24 (yb v20::dd 9 ([]))),nn 5 (yB (JAC.av x7)::nn 69 ([]))⟩) ?_ ?_
    ·intro k21 h;obtain⟨v22,g23,h⟩:=AA h;refine⟨_,_,some [],Gl g23,?_⟩;refine sJ h (fun h=>AB wk h) fun h=>?_;refine sJ h (fun h=>?_) fun h=>AB wk h;refine sJ h (fun h=>?_) fun h=>AB wk h;refine⟨_,rfl,?_⟩;obtain⟨v24,g25,h⟩:=AA h;refine⟨Af (f:=D.i) g25,D.i v24,Ai (f:=D.i) g25,rfl,?_⟩;exact AB wk h
    rintro v20 h;(conv=>whnf);refine .go ?_;refine sJ h ?_ ?_<;>intro h
    ·cases h;exact⟨rfl,rfl⟩
    refine⟨_,hwi15,?_⟩;exact hK19 _ _ wk h
   rintro _ h;refine⟨x7.ASNs.length,X10 _,?_⟩;refine⟨_,rfl,?_⟩;exact AB wk h
  rintro _ h;refine⟨_,hwi3,?_⟩;exact hK8 _ _ wk h
 rintro v1 h;cases h;exact⟨rfl,rfl⟩
theorem Jn {a0:List Int}{r:Int}(h:Dh a0=some r):yC wl 188 [AV.d (D.l 1 D.i a0)] [] (.d (D.i r)) []:=by
 refine oK Tryz.f188 ⟨rfl,?_⟩;unfold Dh at h;refine⟨a0.length,X10 _,?_⟩;(conv=>whnf);refine .go ?_;refine sJ h ?_ ?_<;>intro h
 ·exact nomatch h
 obtain⟨v1,g2,h⟩:=AA h;refine⟨Af (f:=D.i) g2,D.i v1,Ai (f:=D.i) g2,rfl,?_⟩;revert h;refine AD (fun v3=>⟨X::X::X::yi v3::dd 21 ([]),nn 25 ([])⟩) ?_ ?_
 ·intro k4 h;revert h;refine Ap (fun (v5,v6)=>⟨y6 a0::X::X::yi v5::yi v6::dd 20 ([]),nn 25 ([])⟩) ?_ ?_
  ·exact wk
  rintro next7 ⟨v5,v6⟩ K8 h hK9;refine⟨a0.length,X10 _,?_⟩;(conv=>whnf);refine .go ?_;refine sJ h (fun h=>?_) fun h=>AB wk h;(conv=>whnf);refine .go ?_;obtain⟨v10,g11,h⟩:=AA h;refine⟨Af (f:=D.i) g11,D.i v10,Ai (f:=D.i) g11,rfl,?_⟩;refine⟨_,rfl,?_⟩;refine⟨_,rfl,?_⟩;exact hK9 _ _ wk h
 rintro v3 h;cases h;exact⟨rfl,rfl⟩
theorem Jp {a0:List Int}{r:Int}(h:Db a0=some r):yC wl 189 [AV.d (D.l 1 D.i a0)] [] (.d (D.i r)) []:=by
 refine oK Tryz.f189 ⟨rfl,?_⟩;unfold Db at h;refine⟨a0.length,X10 _,?_⟩;(conv=>whnf);refine .go ?_;refine sJ h ?_ ?_<;>intro h
 ·exact nomatch h
 obtain⟨v1,g2,h⟩:=AA h;refine⟨Af (f:=D.i) g2,D.i v1,Ai (f:=D.i) g2,rfl,?_⟩;revert h;refine AD (fun v3=>⟨X::X::X::yi v3::dd 21 ([]),nn 25 ([])⟩) ?_ ?_
 ·intro k4 h;revert h;refine Ap (fun (v5,v6)=>⟨y6 a0::X::X::yi v5::yi v6::dd 20 ([]),nn 25 ([])⟩) ?_ ?_
  ·exact wk
  rintro next7 ⟨v5,v6⟩ K8 h hK9;refine⟨a0.length,X10 _,?_⟩;(conv=>whnf);refine .go ?_;refine sJ h (fun h=>?_) fun h=>AB wk h;(conv=>whnf);refine .go ?_;obtain⟨v10,g11,h⟩:=AA h;refine⟨Af (f:=D.i) g11,D.i v10,Ai (f:=D.i) g11,rfl,?_⟩;refine⟨_,rfl,?_⟩;refine⟨_,rfl,?_⟩;exact hK9 _ _ wk h
 rintro v3 h;cases h;exact⟨rfl,rfl⟩
theorem HW {a0:Int}{a1:List Int}{r:Bool}(h:DY a0 a1=some r):yC wl 181 [AV.d (D.i a0),AV.d (D.l 1 D.i a1)] [] (.d (D.b r)) []:=by
 refine oK Tryz.f181 ⟨rfl,?_⟩;unfold DY at h;revert h;refine AD (fun v1=>⟨dd 4 (yb v1::dd 9 ([])),nn 14 ([])⟩) ?_ ?_
 ·intro k2 h;obtain⟨v3,g4,h⟩:=AA h;refine⟨_,_,some [],Jn g4,?_⟩;refine sJ h (fun h=>?_) fun h=>AB wk h;obtain⟨v5,g6,h⟩:=AA h;refine⟨_,_,some [],Jp g6,?_⟩;exact AB wk h
 rintro v1 h;cases h;exact⟨rfl,rfl⟩
theorem MX {a0:JAB}{r:Bool}(h:Ew a0=some r):yC wl 163 [AV.d (JAB.toD a0)] [] (.d (D.b r)) []:=by
 refine oK Tryz.f163 ⟨rfl,?_⟩;unfold Ew at h;refine⟨rfl,?_⟩;obtain⟨v1,g2,h⟩:=AA h;refine⟨_,_,none,HW g2,?_⟩;cases h;exact⟨rfl,rfl⟩
theorem Iu {a0:Int}{r:Bool}(h:cmp_isNaN_int a0=some r):yC wl 151 [AV.d (D.i a0)] [] (.d (D.b r)) []:=by
 refine oK Tryz.f151 ⟨rfl,?_⟩;unfold cmp_isNaN_int at h;cases h;exact⟨rfl,rfl⟩
theorem Az {a0:Int}{a1:Int}{r:Int}(h:cmp_Compare_int a0 a1=some r):yC wl 122 [AV.d (D.i a0),AV.d (D.i a1)] [] (.d (D.i r)) []:=by
 refine oK Tryz.f122 ⟨rfl,?_⟩;unfold cmp_Compare_int at h;obtain⟨v1,g2,h⟩:=AA h;refine⟨_,_,some [],Iu g2,?_⟩;obtain⟨v3,g4,h⟩:=AA h;refine⟨_,_,some [],Iu g4,?_⟩;(conv=>whnf);refine .go ?_;refine sJ h ?_ ?_<;>intro h
 ·(conv=>whnf);refine .go ?_;refine sJ h ?_ ?_<;>intro h
  ·cases h;exact⟨rfl,rfl⟩
  cases h;exact⟨rfl,rfl⟩
 (conv=>whnf);refine .go ?_;refine sJ h ?_ ?_<;>intro h
 ·cases h;exact⟨rfl,rfl⟩
 (conv=>whnf);refine .go ?_;refine sJ h ?_ ?_<;>intro h
 ·cases h;exact⟨rfl,rfl⟩
 (conv=>whnf);refine .go ?_;refine sJ h ?_ ?_<;>intro h
 ·cases h;exact⟨rfl,rfl⟩
 cases h;exact⟨rfl,rfl⟩
theorem Gy {a0:List Int}{r:Int}(h:E8 a0=some r):yC wl 182 [AV.d (D.l 1 D.i a0)] [] (.d (D.i r)) []:=by
 refine oK Tryz.f182 ⟨rfl,?_⟩;unfold E8 at h;refine⟨a0.length,X10 _,?_⟩;revert h;refine AD (fun _=>⟨X::X::X::yi 0::dd 14 ([]),nn 18 ([])⟩) ?_ ?_
 ·intro k1 h;revert h;refine Ag 6 1 D.i rfl (fun i2 _=>⟨X::X::X::yi 0::X::X::y6 a0::yi (a0.length:Int)::yi (i2:Int)::dd 9 ([]),nn 18 ([])⟩) ?_ ?_ ?_
  ·exact wk
  ·rintro _ K3 h;(conv=>whnf);refine .go ?_;(conv=>whnf);refine BJ CX ?_;exact AB wk h
  rintro next4 i2 x5 _ K3 hii2 hxi2 hwi2 h hK6;(conv=>whnf);refine .go ?_;(conv=>whnf);refine BD (CN hii2) ?_;(conv=>whnf);refine .go ?_;refine⟨BE (f:=D.i) hii2,D.i x5,hxi2,rfl,?_⟩;(conv=>whnf);refine .go ?_;refine sJ h ?_ ?_<;>intro h
  ·cases h;exact⟨rfl,rfl⟩
  refine⟨_,hwi2,?_⟩;exact hK6 _ _ wk h
 rintro _ h;cases h;exact⟨rfl,rfl⟩
theorem J6 {a0:JAB}{a1:JAB}{r:Int}(h:Dy a0 a1=some r):yC wl 164 [AV.d (JAB.toD a0),AV.d (JAB.toD a1)] [] (.d (D.i r)) []:=by
 refine oK Tryz.f164 ⟨rfl,?_⟩;unfold Dy at h;(conv=>whnf);refine .inl (dO ?_);obtain⟨v1,g2,h⟩:=AA h;refine⟨_,_,Az g2,.inl rfl,?_⟩;obtain⟨v3,g4,h⟩:=AA h;refine⟨_,_,Az g4,.inl rfl,?_⟩;refine⟨rfl,?_⟩;obtain⟨v5,g6,h⟩:=AA h;refine⟨_,_,Gy g6,.inl rfl,?_⟩;(conv=>whnf);refine cO ?_;cases h;exact⟨rfl,rfl⟩
theorem Bo {a0:List JAB}{r:Bool}(h:Ad a0=some r):yC wl 162 [AV.d (D.l 2 JAB.toD a0),AV.fn 163 [],AV.fn 164 []] [] (.d (D.b r)) []:=by
 refine oK Tryz.f162 ⟨rfl,?_⟩;unfold Ad at h;refine⟨a0.length,X10 _,?_⟩;revert h;refine AD (fun _=>⟨y1 a0::dd 38 ([]),nn 39 ([])⟩) ?_ ?_
 ·intro k1 h;revert h;refine Ag 9 2 JAB.toD rfl (fun i2 _=>⟨y1 a0::AV.fn 163 []::AV.fn 164 []::dd 6 (y1 a0::yi (a0.length:Int)::yi (i2:Int)::dd 27 ([])),nn 39 ([])⟩) ?_ ?_ ?_
  ·exact wk
  ·rintro _ K3 h;(conv=>whnf);refine .go ?_;(conv=>whnf);refine BJ CX ?_;exact AB wk h
  rintro next4 i2 x5 _ K3 hii2 hxi2 hwi2 h hK6;(conv=>whnf);refine .go ?_;(conv=>whnf);refine BD (CN hii2) ?_;(conv=>whnf);refine .go ?_;refine⟨BE (f:=JAB.toD) hii2,JAB.toD x5,hxi2,rfl,?_⟩;revert h;refine AD (fun v7=>⟨y1 a0::AV.fn 163 []::AV.fn 164 []::dd 6 (y1 a0::yi (a0.length:Int)::yi (i2:Int)::dd 22 (yb v7::dd 4 ([]))),nn 39 ([])⟩) ?_ ?_
  ·intro k8 h;(conv=>whnf);refine .inl (dO ?_);obtain⟨v9,g10,h⟩:=AA h;refine⟨_,_,MX g10,.inl rfl,?_⟩;refine sJ h ?_ ?_<;>intro h
   ·(conv=>whnf);refine cO ?_;exact AB wk h
   refine sJ h ?_ ?_<;>intro h
   ·refine⟨_,rfl,?_⟩;obtain⟨v11,g12,h⟩:=AA h;refine⟨Af (f:=JAB.toD) g12,JAB.toD v11,Ai (f:=JAB.toD) g12,rfl,?_⟩;obtain⟨v13,g14,h⟩:=AA h;refine⟨_,_,J6 g14,.inl rfl,?_⟩;(conv=>whnf);refine cO ?_;exact AB wk h
   (conv=>whnf);refine cO ?_;exact AB wk h
  rintro v7 h;(conv=>whnf);refine .go ?_;refine sJ h ?_ ?_<;>intro h
  ·cases h;exact⟨rfl,rfl⟩
  refine⟨_,hwi2,?_⟩;exact hK6 _ _ wk h
 rintro _ h;refine⟨a0.length,X10 _,?_⟩;cases h;exact⟨rfl,rfl⟩
theorem Fv {a0:List JAB}{r:Bool}(h:C7 a0=some r):yC wl 140 [AV.d (D.l 2 JAB.toD a0)] [] (.d (D.b r)) []:=by
 refine oK Tryz.f140 ⟨rfl,?_⟩;unfold C7 at h;obtain⟨v1,g2,h⟩:=AA h;refine⟨_,_,some [],Bo g2,?_⟩;cases h;exact⟨rfl,rfl⟩
theorem JW {a0:JAF}{r:Bool}(h:DF a0=some r):yC wl 166 [AV.d (JAF.toD a0)] [] (.d (D.b r)) []:=by
 refine oK Tryz.f166 ⟨rfl,?_⟩;unfold DF at h;refine⟨rfl,?_⟩;obtain⟨v1,g2,h⟩:=AA h;refine⟨_,_,none,HW g2,?_⟩;cases h;exact⟨rfl,rfl⟩
theorem IF {a0:JAF}{a1:JAF}{r:Int}(h:CG a0 a1=some r):yC wl 167 [AV.d (JAF.toD a0),AV.d (JAF.toD a1)] [] (.d (D.i r)) []:=by
 refine oK Tryz.f167 ⟨rfl,?_⟩;unfold CG at h;(conv=>whnf);refine .inl (dO ?_);obtain⟨v1,g2,h⟩:=AA h;refine⟨_,_,Az g2,.inl rfl,?_⟩;obtain⟨v3,g4,h⟩:=AA h;refine⟨_,_,Az g4,.inl rfl,?_⟩;obtain⟨v5,g6,h⟩:=AA h;refine⟨_,_,Az g6,.inl rfl,?_⟩;refine⟨rfl,?_⟩;obtain⟨v7,g8,h⟩:=AA h;refine⟨_,_,Gy g8,.inl rfl,?_⟩;(conv=>whnf);refine cO ?_;cases h;exact⟨rfl,rfl⟩
theorem BX {a0:List JAF}{r:Bool}(h:AZ a0=some r):yC wl 165 [AV.d (D.l 3 JAF.toD a0),AV.fn 166 [],AV.fn 167 []] [] (.d (D.b r)) []:=by
 refine oK Tryz.f165 ⟨rfl,?_⟩;unfold AZ at h;refine⟨a0.length,X10 _,?_⟩;revert h;refine AD (fun _=>⟨y2 a0::dd 38 ([]),nn 39 ([])⟩) ?_ ?_
 ·intro k1 h;revert h;refine Ag 9 3 JAF.toD rfl (fun i2 _=>⟨y2 a0::AV.fn 166 []::AV.fn 167 []::dd 6 (y2 a0::yi (a0.length:Int)::yi (i2:Int)::dd 27 ([])),nn 39 ([])⟩) ?_ ?_ ?_
  ·exact wk
  ·rintro _ K3 h;(conv=>whnf);refine .go ?_;(conv=>whnf);refine BJ CX ?_;exact AB wk h
  rintro next4 i2 x5 _ K3 hii2 hxi2 hwi2 h hK6;(conv=>whnf);refine .go ?_;(conv=>whnf);refine BD (CN hii2) ?_;(conv=>whnf);refine .go ?_;refine⟨BE (f:=JAF.toD) hii2,JAF.toD x5,hxi2,rfl,?_⟩;revert h;refine AD (fun v7=>⟨y2 a0::AV.fn 166 []::AV.fn 167 []::dd 6 (y2 a0::yi (a0.length:Int)::yi (i2:Int)::dd 22 (yb v7::dd 4 ([]))),nn 39 ([])⟩) ?_ ?_
  ·intro k8 h;(conv=>whnf);refine .inl (dO ?_);obtain⟨v9,g10,h⟩:=AA h;refine⟨_,_,JW g10,.inl rfl,?_⟩;refine sJ h ?_ ?_<;>intro h
   ·(conv=>whnf);refine cO ?_;exact AB wk h
   refine sJ h ?_ ?_<;>intro h
   ·refine⟨_,rfl,?_⟩;obtain⟨v11,g12,h⟩:=AA h;refine⟨Af (f:=JAF.toD) g12,JAF.toD v11,Ai (f:=JAF.toD) g12,rfl,?_⟩;obtain⟨v13,g14,h⟩:=AA h;refine⟨_,_,IF g14,.inl rfl,?_⟩;(conv=>whnf);refine cO ?_;exact AB wk h
   (conv=>whnf);refine cO ?_;exact AB wk h
  rintro v7 h;(conv=>whnf);refine .go ?_;refine sJ h ?_ ?_<;>intro h
  ·cases h;exact⟨rfl,rfl⟩
  refine⟨_,hwi2,?_⟩;exact hK6 _ _ wk h
 rintro _ h;refine⟨a0.length,X10 _,?_⟩;cases h;exact⟨rfl,rfl⟩
theorem ED {a0:List JAF}{r:Bool}(h:Bd a0=some r):yC wl 141 [AV.d (D.l 3 JAF.toD a0)] [] (.d (D.b r)) []:=by
 refine oK Tryz.f141 ⟨rfl,?_⟩;unfold Bd at h;obtain⟨v1,g2,h⟩:=AA h;refine⟨_,_,some [],BX g2,?_⟩;cases h;exact⟨rfl,rfl⟩
theorem FB {a0:Int}{r:Bool}(h:BV a0=some r):yC wl 116 [AV.d (D.i a0)] [] (.d (D.b r)) []:=by
 refine oK Tryz.f116 ⟨rfl,?_⟩;unfold BV at h;revert h;refine AD (fun v1=>⟨X::X::yb v1::dd 12 ([]),nn 15 ([])⟩) ?_ ?_
 ·intro k2 h;obtain⟨v3,g4,h⟩:=AA h;refine⟨_,BW (ek:=D.i) (ev:=D.i) (l:=Bl) (k:=a0) BM,D.i v3,Dv (z:=0) rfl g4,_,rfl,?_⟩;refine sJ h (fun h=>?_) fun h=>AB wk h;exact sJ h (fun h=>AB wk h) fun h=>AB wk h
 rintro v1 h;cases h;exact⟨rfl,rfl⟩
theorem HQ {a0:List JAA}{r:Bool}(h:DW a0=some r):yC wl 142 [AV.d (D.l 3 JAA.toD a0)] [] (.d (D.b r)) []:=by
 refine oK Tryz.f142 ⟨rfl,?_⟩;unfold DW at h;refine⟨a0.length,X10 _,?_⟩;revert h;refine AD (fun _=>⟨y4 a0::dd 51 ([]),nn 52 ([])⟩) ?_ ?_
 ·intro k1 h;revert h;refine Ag 5 3 JAA.toD rfl (fun i2 _=>⟨y4 a0::dd 4 (y4 a0::yi (a0.length:Int)::yi (i2:Int)::dd 44 ([])),nn 52 ([])⟩) ?_ ?_ ?_
  ·exact wk
  ·rintro _ K3 h;(conv=>whnf);refine .go ?_;(conv=>whnf);refine BJ CX ?_;exact AB wk h
  rintro next4 i2 x5 _ K3 hii2 hxi2 hwi2 h hK6;(conv=>whnf);refine .go ?_;(conv=>whnf);refine BD (CN hii2) ?_;(conv=>whnf);refine .go ?_;refine⟨BE (f:=JAA.toD) hii2,JAA.toD x5,hxi2,rfl,?_⟩;revert h;refine AD (fun v7=>⟨y4 a0::dd 4 (y4 a0::yi (a0.length:Int)::yi (i2:Int)::dd 39 (yb v7::dd 4 ([]))),nn 52 ([])⟩) ?_ ?_
  ·intro k8 h;(conv=>whnf);refine .inl (dO ?_);obtain⟨v9,g10,h⟩:=AA h;refine⟨_,_,FB g10,.inl rfl,?_⟩;refine sJ h ?_ ?_<;>intro h
   ·(conv=>whnf);refine cO ?_;exact AB wk h
   obtain⟨v11,g12,h⟩:=AA h;refine⟨_,_,Bj g12,.inl rfl,?_⟩;refine sJ h ?_ ?_<;>intro h
   ·(conv=>whnf);refine cO ?_;exact AB wk h
   refine sJ h ?_ ?_<;>intro h
   ·(conv=>whnf);refine cO ?_;exact AB wk h
   refine⟨x5.Data.length,X10 _,?_⟩;refine sJ h ?_ ?_<;>intro h
   ·(conv=>whnf);refine cO ?_;exact AB wk h
   refine sJ h ?_ ?_<;>intro h
   ·refine⟨_,rfl,?_⟩;obtain⟨v13,g14,h⟩:=AA h;refine⟨Af (f:=JAA.toD) g14,JAA.toD v13,Ai (f:=JAA.toD) g14,rfl,?_⟩;(conv=>whnf);refine cO ?_;exact AB wk h
   (conv=>whnf);refine cO ?_;exact AB wk h
  rintro v7 h;(conv=>whnf);refine .go ?_;refine sJ h ?_ ?_<;>intro h
  ·cases h;exact⟨rfl,rfl⟩
  refine⟨_,hwi2,?_⟩;exact hK6 _ _ wk h
 rintro _ h;refine⟨a0.length,X10 _,?_⟩;cases h;exact⟨rfl,rfl⟩
theorem IC {a0:JAE}{r:Bool}(h:DD a0=some r):yC wl 105 [AV.d (JAE.toD a0)] [] (.d (D.b r)) []:=by
 refine oK Tryz.f105 ⟨rfl,?_⟩;unfold DD at h;revert h;refine AD (fun v1=>⟨X::X::yb v1::dd 48 ([]),nn 51 ([])⟩) ?_ ?_
 ·intro k2 h;obtain⟨v3,g4,h⟩:=AA h;refine⟨_,_,some [],Bj g4,?_⟩;refine sJ h (fun h=>?_) fun h=>AB wk h;obtain⟨v5,g6,h⟩:=AA h;refine⟨_,_,some [],Ji g6,?_⟩;refine sJ h (fun h=>?_) fun h=>AB wk h;obtain⟨v7,g8,h⟩:=AA h;refine⟨_,_,some [],Gz g8,?_⟩;refine sJ h (fun h=>?_) fun h=>AB wk h;obtain⟨v9,g10,h⟩:=AA h;refine⟨_,_,some [],Bj g10,?_⟩;refine sJ h (fun h=>?_) fun h=>AB wk h;obtain⟨v11,g12,h⟩:=AA h;refine⟨_,_,some [],Bj g12,?_⟩;refine sJ h (fun h=>?_) fun h=>AB wk h;refine sJ h ?_ ?_<;>intro h
  ·obtain⟨v13,g14,h⟩:=AA h;refine⟨_,_,some [],Fv g14,?_⟩;refine sJ h (fun h=>?_) fun h=>AB wk h;obtain⟨v15,g16,h⟩:=AA h;refine⟨_,_,some [],ED g16,?_⟩;refine sJ h (fun h=>?_) fun h=>AB wk h;obtain⟨v17,g18,h⟩:=AA h;refine⟨_,_,some [],HQ g18,?_⟩;exact AB wk h
  obtain⟨v19,g20,h⟩:=AA h;refine⟨_,_,some [],Gl g20,?_⟩;refine sJ h (fun h=>?_) fun h=>AB wk h;obtain⟨v21,g22,h⟩:=AA h;refine⟨_,_,some [],Fv g22,?_⟩;refine sJ h (fun h=>?_) fun h=>AB wk h;obtain⟨v23,g24,h⟩:=AA h;refine⟨_,_,some [],ED g24,?_⟩;refine sJ h (fun h=>?_) fun h=>AB wk h;obtain⟨v25,g26,h⟩:=AA h;refine⟨_,_,some [],HQ g26,?_⟩;exact AB wk h
 rintro v1 h;cases h;exact⟨rfl,rfl⟩
theorem FS {a0:List UInt8}{r:(List UInt8)}(h:A5 a0=some r):yC wl 119 [AV.d (D.l 1 D.u8 a0)] [] (.d (D.l 1 D.u8 r)) []:=by
 refine oK Tryz.f119 ⟨rfl,?_⟩;unfold A5 at h;refine⟨?_,fun hz=>?_⟩
 ·(conv=>whnf);refine .go ?_;obtain⟨v1,g2,h⟩:=AA h;refine⟨rfl,AT (f:=D.u8) (g:=D.u8) g2,_,AU (f:=D.u8) g2,?_⟩;(conv=>whnf);refine .inl ?_;(conv=>whnf);refine .inl ?_;refine⟨rfl,?_⟩;cases h;exact⟨rfl,rfl⟩
 obtain rfl:a0=[]:=(by simpa using hz);replace h:=aM h;(conv=>whnf);refine .go ?_;(conv=>whnf);refine .inl ?_;cases h;exact⟨rfl,rfl⟩
end Go.AX.Q19
end
