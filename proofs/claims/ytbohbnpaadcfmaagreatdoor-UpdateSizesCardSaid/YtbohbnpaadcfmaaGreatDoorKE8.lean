/-
  Texts of one proof, packed: L19Q L19R L19S L19V Q19P1 Q19P2 Q19P3 Q19P4 Q19P5 Q19P6.
-/
import Derived.Test.YtbohbnpaadcfmaaGreatDoorKE5
import Derived.Test.YtbohbnpaadcfmaaGreatDoorKE7
import Derived.KernelRfl
set_option linter.all false
open List renaming length_map→X10,length_append→X11,length_cons→X12,length_nil→X13,mem_singleton→X14,getElem?_eq_getElem→X15,getElem?_eq_some_iff→X16,length_drop→X17,length_take→X18,mem_cons_of_mem→X19,length_replicate→X20,length_set→X21,length_singleton→X22,mem_append→X23
open Option.some renaming injEq→X24,inj→X25
open Prod.mk renaming injEq→X26
open Bool renaming and_eq_true→X27,eq_iff_iff→X28
open Nat renaming le_of_ble_eq_true→X29,eq_of_beq_eq_true→X30,mul_le_mul_right→X31,add_mul→X32
section
namespace Go.AX.Q19
open Go Go.AX
set_option maxRecDepth 8000
theorem Qy (p:JAE):GR p=some (HO p):=by
 have hg:=(Hu p).2
 have no:¬ CH p->some false=some (HO p):=fun q=>by
  have:HO p=false:=by
   rw[Bool.eq_false_iff]
   exact fun e=>q (hg.1 e)
  rw[this]
 unfold GR
 rw[AH,EX,AC,Ja]
 simp only[AC,cond_true]
 by_cases ho:p.Addr.ok=true
 case neg=>
  rw[if_neg ho]
  exact no fun q=>ho q.1
 rw[if_pos ho]
 by_cases h0:0<=p.Len
 case neg=>
  rw[if_neg (by simpa using h0)]
  exact no fun q=>h0 q.2.1
 rw[if_pos (by simpa using h0)]
 by_cases h1:p.Len<=p.Addr.w
 case neg=>
  rw[if_neg (by simpa using h1)]
  exact no fun q=>h1 q.2.2.1
 rw[if_pos (by simpa using h1)]
 obtain⟨k,hk⟩ :∃k:Nat,p.Len=k:=⟨p.Len.toNat,by omega⟩
 have hf:=JR p.Addr (n:=k) (by omega)
 rw[<- hk] at hf
 rw[hf,AC]
 congr 1
 rw[X28,hg,Addr.eqd_iff]
 have e:p.Len.toNat=k:=by omega
 exact⟨fun h=>⟨ho,h0,h1,by rw[e];exact h⟩,fun h=>by have:=h.2.2.2;rw[e] at this;exact this⟩
theorem Lq {acc:List UInt8} {l:List JAE} (ha:acc.length<=1000000) (hl:l.length<=100000) (hg :∀p ∈ l,CH p) (six:Bool):EQ acc l six=some (acc++Az six l):=by
 unfold EQ
 rw[AH]
 refine (UR (fun (t:List JAE) _ (s:List UInt8)=>s.length + 17 * t.length<=10000000/\∀p ∈ t,CH p) (fun t _ s=>some (s++Az six t)) ?_ ?_ l 0 acc ⟨by omega,hg⟩).trans rfl
 ·intro i s _
  show some s=some (s++[])
  rw[List.append_nil]
 rintro next p t i s ⟨h1,h2⟩ hn
 simp only[X12] at h1
 have hp:=h2 p (by simp)
 have hcl:=N5 hp
 have ht :∀q ∈ t,CH q:=fun q hq=>h2 q (X19 _ hq)
 obtain⟨k1,k2,k3,_⟩:=hp
 have e2:=(JC k1).2
 obtain⟨w1,w2⟩:=w_L p.Addr
 rw[AH,F3]
 by_cases h6:(p.Addr.V6==six)=true
 ·obtain⟨k,hk⟩ :∃k:Nat,p.Len=k:=⟨p.Len.toNat,by omega⟩
  have e3:AN (Int.tdiv (AN (p.Len + 7)) 8)=(((p.Len.toNat + 7) / 8:Nat):Int):=by
   rw[hk,Int.toNat_natCast,AO (x:=(k:Int) + 7) (by omega),Int.tdiv_eq_ediv_of_nonneg (by omega),AO (by omega)]
   omega
  have e4:(p.Len.toNat + 7) / 8<=p.Addr.L:=by omega
  rw[if_pos h6,if_pos h6,AP (by decide) (by simp only[X22];omega),AC,KR k1,AC,e3,QQ (by omega),AC,
   AP (by decide) (by simp only[X11,X22,X18];omega),AC]
  dsimp only
  rw[hn _ ⟨by
   simp only[X11,X22,X18]
   omega,ht⟩]
  unfold MI
  simp only[List.append_assoc,List.singleton_append,List.cons_append,List.nil_append]
 rw[if_neg h6,if_neg h6]
 dsimp only
 rw[hn _ ⟨by omega,ht⟩,List.nil_append]
theorem Jr {l:List JAE} (hl:l.length<=100000) (hg :∀p ∈ l,CH p) (six:Bool):EA l six=some (Az six l):=Lq (acc:=[]) (by simp) hl hg six
theorem UH (n:Nat):E3 (n:Int)=some (two n):=by
 unfold E3
 rw[AP (by decide) (by simp),AC]
 rfl
theorem Yh {b:List UInt8} (hb:b.length<=1000000) (n:Nat):Ho b (n:Int)=some (b++two n):=by
 unfold Ho
 rw[AP (by decide) (by simp only[X12,X13];omega),AC]
 rfl
theorem Zx (a b:JAA):FV a b=some (FQ (HF a) (HF b)):=RA a b
theorem Vx {u:JAG} (g:GoodU u):(ES u).length<=18/\∀x ∈ ES u,x.Data.length<=20000:=by
 have cw6:=CU (six:=true) g.gw
 have ca6:=CU (six:=true) g.ga
 have hw:=g.w;have hn:=g.n
 have h0:(lst0 u).length<=16/\∀x ∈ lst0 u,x.Data.length<=768:=by
  unfold lst0
  split
  ·exact (g.a ‹_›).2
  simp
 have hL:(byB u.JAD.Next).length<=16\/u.Announce.length=0:=by
  rcases Nat.eq_zero_or_pos u.Announce.length with h | h
  ·exact .inr h
  have:=(JC (g.a h).1.n).2
  have:=(w_L u.JAD.Next).2
  exact .inl (by omega)
 have h1:(Jf u).length<=17/\∀x ∈ Jf u,x.Data.length<=20000:=by
  unfold Jf
  split
  ·refine⟨by rw[Gz];omega,fun x hx=>?_⟩
   rcases FW.1 hx with hx | rfl
   ·have:=h0.2 x hx;omega
   have hl:(byB u.JAD.Next).length<=16:=hL.resolve_right (by omega)
   simp only[X11,X12,X13]
   omega
  exact⟨by omega,fun x hx=>by have:=h0.2 x hx;omega⟩
 unfold ES
 split
 ·refine⟨by rw[Gz];omega,fun x hx=>?_⟩
  rcases FW.1 hx with hx | rfl
  ·exact h1.2 x hx
  simp only[X11,X12,X13]
  omega
 exact⟨by omega,h1.2⟩
theorem YI {u:JAG} (h:WrU u) (he:u.Announce=[]->u.JAD=eA):G3 u=some (ES u):=by
 have g:=h.g
 have hw:=g.w;have hn:=g.n
 have cw6:=CU (six:=true) g.gw
 have ca6:=CU (six:=true) g.ga
 have e00:u.Announce=[]↔¬ 0<u.Announce.length:=by rw[List.length_pos_iff];exact Decidable.not_not.symm
 have v:VA u.JAD:=by
  by_cases hp:0<u.Announce.length
  ·exact (g.a hp).1
  rw[he (e00.2 hp)];exact dV
 have e0:wrS u.JAD=lst0 u:=by
  unfold lst0
  by_cases hp:0<u.Announce.length
  ·rw[if_pos hp]
  rw[if_neg hp,he (e00.2 hp),cI]
 have l0:(lst0 u).length<=16:=e0 ▸ Lu v
 have c0:0<(Az true u.Announce).length↔0<u.Announce.length/\u.JAD.Next.V6=true:=by
  rw[Xh]
  constructor
  ·intro q
   obtain⟨p,hp⟩:=List.exists_mem_of_ne_nil _ q
   rw[List.mem_filter] at hp
   refine⟨List.length_pos_of_mem hp.1,?_⟩
   rw[<- h.s p hp.1]
   simpa using hp.2
  rintro⟨q1,q2⟩
  obtain⟨p,hp⟩:=List.exists_mem_of_ne_nil _ (List.length_pos_iff.1 q1)
  refine List.ne_nil_of_mem (a:=p) (List.mem_filter.2 ⟨hp,?_⟩)
  rw[h.s p hp,q2];rfl
 have hL:=(JC v.n).2
 have hL2:=(w_L u.JAD.Next).2
 unfold G3
 show WrJ u.JAD _=_
 rw[WR v]
 dsimp only
 rw[e0]
 have e1 :∀{ρ:Type} (K:Bool->Option ρ),AI (τ:=Bool) (fun k79=>
  if (decide ((u.Announce.length:Int) > 0)) then
   k79 (cond true u.JAD.Next.V6 false)
  else
   k79 false) K=K (decide (0<(Az true u.Announce).length)):=by
  intro ρ K
  rw[AH]
  by_cases hp:0<u.Announce.length
  ·rw[if_pos (by simp only[decide_eq_true_eq];omega)]
   congr 1
   rw[X28,decide_eq_true_eq,c0]
   exact⟨fun q=>⟨hp,q⟩,fun q=>q.2⟩
  rw[if_neg (by simp only[decide_eq_true_eq];omega)]
  congr 1
  rw[X28,decide_eq_true_eq,c0]
  exact⟨(fun q=>nomatch q),fun q=>absurd q.1 hp⟩
 rw[e1]
 have e2 :∀{ρ:Type} (K:List JAA->Option ρ),AI (τ:=(List JAA)) (fun k81=>
  if decide (0<(Az true u.Announce).length) then
   Option.bind (BG u.JAD.Next) fun v82=>
   Option.bind (apnd (α:=UInt8) 1 ([(0:UInt8),(2:UInt8),(1:UInt8),(16:UInt8)]:List UInt8) v82) fun v83=>
   Option.bind (apnd (α:=UInt8) 1 v83 ([(0:UInt8)]:List UInt8)) fun v84=>
   Option.bind (EQ v84 u.Announce true) fun v85=>
   Option.bind (apnd (α:=JAA) 40 (lst0 u) ([(⟨128,14,v85⟩:JAA)]:List JAA)) fun v86=>
   k81 v86
  else
   k81 (lst0 u)) K=K (lst0 u++if 0<(Az true u.Announce).length then [x14 u] else []):=by
  intro ρ K
  rw[AH]
  by_cases hp:0<(Az true u.Announce).length
  ·rw[if_pos (by simpa using hp),if_pos hp,KR v.n,AC,AP (by decide) (by simp only[X12,X13];omega),AC,
    AP (by decide) (by simp only[X11,X12,X13];omega),AC,
    Lq (by simp only[X11,X12,X13];omega) (by omega) g.ga,AC,AP (by decide) (by simp only[X12,X13];omega),AC]
   rfl
  rw[if_neg (by simpa using hp),if_neg hp,List.append_nil]
 rw[e2,Jr (by omega) g.gw,AC]
 have e3 :∀{ρ:Type} (w:List JAA) (hw:w.length<=17) (K:List JAA->Option ρ),AI (τ:=(List JAA)) (fun k89=>
  if (decide (((Az true u.Withdraw).length:Int) > 0)) then
   Option.bind (apnd (α:=UInt8) 1 ([(0:UInt8),(2:UInt8),(1:UInt8)]:List UInt8) (Az true u.Withdraw)) fun v90=>
   Option.bind (apnd (α:=JAA) 40 w ([(⟨128,15,v90⟩:JAA)]:List JAA)) fun v91=>
   k89 v91
  else
   k89 w) K=K (w++if 0<(Az true u.Withdraw).length then [x15 u] else []):=by
  intro ρ w hw K
  rw[AH]
  by_cases hp:0<(Az true u.Withdraw).length
  ·rw[if_pos (by simp only[decide_eq_true_eq];omega),if_pos hp,AP (by decide) (by simp only[X12,X13];omega),AC,AP (by decide) (by simp only[X12,X13];omega),AC]
   rfl
  rw[if_neg (by simp only[decide_eq_true_eq];omega),if_neg hp,List.append_nil]
 have l1:(lst0 u++if 0<(Az true u.Announce).length then [x14 u] else []).length<=17:=by
  rw[X11]
  split<;>simp only[X22,X13]<;>omega
 rw[e3 _ l1,List.append_assoc]
 show Option.bind (EF FV (raw u)) _=_
 have l2:(raw u).length<=1000000:=by
  have q1:(if 0 < (Az true u.Withdraw).length then [x15 u] else []).length<=1:=by split<;>simp
  unfold raw
  rw[<- List.append_assoc,X11]
  omega
 rw[Yb h Zx l2 (Yk h),AC]
def bdP (u:JAG):List UInt8×Bool:=(IH u (DR (ES u)).1,((DR (ES u)).2==0)&&decide ((IH u (DR (ES u)).1).length<=4077))
theorem N8 {u:JAG} (h:WrU u) (he:u.Announce=[]->u.JAD=eA):EI u=some (bdP u):=by
 have g:=h.g
 have hw:=g.w;have hn:=g.n
 have cw4:=CU (six:=false) g.gw
 have ca4:=CU (six:=false) g.ga
 obtain⟨s1,s2⟩:=Vx g
 have hj:=Si (l:=ES u)
 unfold EI bdP
 rw[YI h he,AC,Xr (by omega) (fun x hx=>by have:=s2 x hx;omega),AC]
 dsimp only
 rw[Jr (by omega) g.gw,AC,UH,AC,AP (by decide) (by simp only[two,X12,X13];omega),AC,
  Yh (by simp only[two,X11,X12,X13];omega),AC,
  AP (by decide) (by simp only[two,X11,X12,X13];omega),AC,
  Lq (by simp only[two,X11,X12,X13];omega) (by omega) g.ga,AC,AH]
 show (if ((DR (ES u)).2==0)=true then some (IH u (DR (ES u)).1,cond true (decide (((IH u (DR (ES u)).1).length:Int)<=4077)) false) else some (IH u (DR (ES u)).1,false))=_
 have e:decide (((IH u (DR (ES u)).1).length:Int)<=4077)=decide ((IH u (DR (ES u)).1).length<=4077):=by rw[decide_eq_decide];omega
 rw[e]
 cases ((DR (ES u)).2==0)<;>rfl
theorem bq (a b c d:Nat) (ha:a<=1000000) (hb:b<=1000000) (hc:c<=1000000) (hd:d<=1000000):(AN (AN (AN ((a:Int) + b) + c) + d)==0)=(decide (a=0)&&(decide (b=0)&&(decide (c=0)&&decide (d=0)))):=by
 rw[AO (x:=(a:Int) + b) (by omega),AO (x:=(a:Int) + b + c) (by omega),AO (x:=(a:Int) + b + c + d) (by omega)]
 rw[X28]
 simp only[beq_iff_eq,X27,decide_eq_true_eq]
 omega
theorem Ww {a:JAD} (h:SmT a):GF a=some (isE a):=by
 unfold GF
 rw[W6,AH,AH,bq _ _ _ _ h.p h.c h.l h.o]
 have e :∀{α:Type} (l:List α),decide (l.length=0)=decide (l=[]):=fun l=>by rw[decide_eq_decide];exact List.length_eq_zero_iff
 rw[e,e,e,e]
 show (if (a.Origin==(-1))=true then _ else _)=_
 unfold zAd
 cases (a.Origin==(-1))<;>cases (a.MED==(-1))<;>cases (a.Pref==(-1))<;>cases (a.OTC==(-1))<;>cases (Addr.eqd a.Next ⟨false,0,0⟩)<;>simp
theorem Ry (u:JAG) :∀(l:List JAE) (i:Nat),Ak (σ:=JAG) (fun v2=>some ((-1:Int),v2)) (fun next3 (x4:JAE) i5 v2=>Option.bind (EW x4 v2) fun (v6,v7)=>if v6 then some ((i5:Int),v7) else next3 v7) l i u=some (match l.findIdx? (fun p=>!(p.Addr.V6==u.JAD.Next.V6)) with | some j=>((i + j:Nat):Int)|none=>-1,u)
 | [],_=>rfl
 | x::t,i=>by
  show Option.bind (EW x u) (fun (v6,v7)=>if v6 then some ((i:Int),v7) else Ak (σ:=JAG) (fun v2=>some ((-1:Int),v2)) _ t (i + 1) v7)=_
  rw[show EW x u=some (!(x.Addr.V6==u.JAD.Next.V6),u) from rfl,AC,List.findIdx?_cons]
  dsimp only
  by_cases hq:(!(x.Addr.V6==u.JAD.Next.V6))=true
  ·rw[if_pos hq,if_pos hq];simp
  rw[if_neg hq,if_neg hq,Ry u t]
  cases t.findIdx? _ with
  | none=>rfl
  | some j=>show some (((i + 1 + j:Nat):Int),u)=some (((i + (j + 1):Nat):Int),u);rw[show i + 1 + j=i + (j + 1) by omega]
theorem fits_any (u:JAG) (l:List JAE):Ac l u=some (l.any (fun p=>!(p.Addr.V6==u.JAD.Next.V6)),u):=by
 unfold Ac Ao
 rw[AH,Ry,AC]
 dsimp only
 congr 2
 cases hf:l.findIdx? (fun p=>!(p.Addr.V6==u.JAD.Next.V6)) with
 | none=>
  rw[List.findIdx?_eq_none_iff] at hf
  have:l.any (fun p=>!(p.Addr.V6==u.JAD.Next.V6))=false:=by
   rw[List.any_eq_false]
   intro x hx
   rw[hf x hx];simp
  rw[this];rfl
 | some j=>
  obtain⟨h1,h2,_⟩:=List.findIdx?_eq_some_iff_getElem.1 hf
  have:l.any (fun p=>!(p.Addr.V6==u.JAD.Next.V6))=true:=List.any_eq_true.2 ⟨_,List.getElem_mem h1,h2⟩
  rw[this]
  simp
def Sl (u:JAG):Bool:=(!(decide (u.Announce=[])) || isE u.JAD)&&u.Announce.all (Q1 u.JAD)
theorem XR {α:Type} {f:α->Bool} {c:Bool} :∀{l:List α},l≠[]->l.all (fun x=>f x&&c)=(l.all f&&c)
 | [x],_=>by simp
 | x::y::t,_=>by
  rw[List.all_cons,XR (l:=y::t) (by simp),List.all_cons (l:=y::t)]
  cases f x<;>cases c<;>simp
theorem YN {u:JAG} (h:SmT u.JAD):G0 u=some (Sl u):=by
 unfold G0 Sl
 by_cases ha:u.Announce=[]
 ·rw[if_pos (by rw[ha];rfl),Ww h,AC,ha]
  simp
 have hl:0<u.Announce.length:=List.length_pos_iff.2 ha
 rw[if_neg (by rw[beq_iff_eq];omega),AH,QE h,AC,fits_any,AC,decide_eq_false ha]
 have e:u.Announce.all (Q1 u.JAD)=(u.Announce.all (fun p=>p.Addr.V6==u.JAD.Next.V6)&&((u.JAD.Origin != -1)&&(!(Addr.eqd u.JAD.Next zAd)&&Gg u.JAD))):=by
  rw[<- XR ha];rfl
 have e2:u.Announce.any (fun p=>!(p.Addr.V6==u.JAD.Next.V6))=!u.Announce.all (fun p=>p.Addr.V6==u.JAD.Next.V6):=by
  rw[List.not_all_eq_any_not]
 rw[e,e2]
 show (if Gg u.JAD=true then _ else _)=_
 unfold zAd
 cases Gg u.JAD<;>cases (u.JAD.Origin != (-1))<;>cases (Addr.eqd u.JAD.Next ⟨false,0,0⟩)<;>cases u.Announce.all (fun p=>p.Addr.V6==u.JAD.Next.V6)<;>rfl
theorem SZ (l:List JAE):Aa l=some (!l.all HO):=by
 have h:=bV (f:=Ef) (q:=fun p=>!HO p) (l:=l) fun x _=>by unfold Ef;rw[Qy,AC]
 rw[<- List.not_all_eq_any_not] at h
 exact h
theorem bu {u:JAG} (h1:u.Withdraw.length<=256) (h2:u.Announce.length<=256) (h3:(u.Withdraw++u.Announce).all HO=true) (h5:u.Announce.all (Q1 u.JAD)=true):WrU u:=by
 have hgood :∀p ∈ u.Withdraw++u.Announce,CH p:=fun p hp=>(Hu p).2.1 (List.all_eq_true.1 h3 p hp)
 have hfit :∀p ∈ u.Announce,p.Addr.V6=u.JAD.Next.V6/\u.JAD.Origin≠-1/\u.JAD.Next≠zAd/\VA u.JAD:=fun p hp=>by
  have:=List.all_eq_true.1 h5 p hp
  unfold Q1 at this
  simp only[X27,beq_iff_eq,bne_iff_ne,Bool.not_eq_true'] at this
  obtain⟨a1,a2,a3,a4⟩:=this
  exact⟨a1,a2,(fun q=>by rw[q,(Addr.eqd_iff _ _).2 rfl] at a3;cases a3),OJ.1 a4⟩
 refine⟨⟨by omega,by omega,fun p hp=>hgood p (List.mem_append_left _ hp),fun p hp=>hgood p (List.mem_append_right _ hp),fun q=>?_⟩,h1,h2,fun p hp=>(hfit p hp).1,fun q=>?_⟩
 ·obtain⟨p,hp⟩:=List.exists_mem_of_ne_nil _ (List.length_pos_iff.1 q)
  have v:=(hfit p hp).2.2.2
  exact⟨v,Lu v,fun x hx=>UV v hx⟩
 obtain⟨p,hp⟩:=List.exists_mem_of_ne_nil _ q
 exact⟨(hfit p hp).2.1,(hfit p hp).2.2.1⟩
theorem JK (u:JAG):VJ u=(bdP u).2/\((bdP u).2=true->C4 u=((bdP u).1,0)):=by
 unfold VJ C4 bdP
 by_cases hj:(DR (ES u)).2=0
 ·have hne:¬ (DR (ES u)).2≠0:=fun q=>q hj
  rw[if_neg hne]
  have:((DR (ES u)).2==0)=true:=by rw[hj];rfl
  rw[this]
  exact⟨rfl,fun _=>rfl⟩
 rw[if_pos hj]
 have:((DR (ES u)).2==0)=false:=by simpa using hj
 dsimp only
 rw[this]
 exact⟨rfl,fun q=>nomatch q⟩
theorem VT (u:JAG):EE u=(decide (u.Withdraw.length<=256)&&(decide (u.Announce.length<=256)&&((u.Withdraw++u.Announce).all HO&&(Sl u&&(bdP u).2)))):=by
 unfold EE Sl
 rw[(JK u).1]
 simp only[Bool.and_assoc]
theorem HT {u:JAG} (hs:SmT u.JAD):C7 u=some (EE u):=by
 unfold C7
 rw[AH,VT]
 by_cases h1:u.Withdraw.length<=256
 case neg=>
  rw[if_pos (by simp only[decide_eq_true_eq];omega),decide_eq_false h1]
  rfl
 rw[if_neg (by simp only[decide_eq_true_eq];omega),decide_eq_true h1]
 by_cases h2:u.Announce.length<=256
 case neg=>
  rw[if_pos (by rw[cond_false,decide_eq_true_eq];omega),decide_eq_false h2]
  rfl
 rw[if_neg (by rw[cond_false,decide_eq_true_eq];omega),decide_eq_true h2,SZ,AC,SZ,AC,YN hs,AC,List.all_append]
 cases k1:u.Withdraw.all HO
 ·rfl
 cases k2:u.Announce.all HO
 ·rfl
 cases k3:Sl u
 ·rfl
 have k5:u.Announce.all (Q1 u.JAD)=true/\(u.Announce=[]->u.JAD=eA):=by
  unfold Sl at k3
  simp only[X27,Bool.or_eq_true,Bool.not_eq_true',decide_eq_false_iff_not] at k3
  exact⟨k3.2,fun q=>(PT _).1 (k3.1.resolve_left fun w=>w q)⟩
 have hu:=bu h1 h2 (by rw[List.all_append,k1,k2];rfl) k5.1
 show Option.bind (EI u) _=_
 rw[N8 hu k5.2,AC]
 rfl
theorem Uw {u:JAG} (h:EE u=true):WrU u/\(u.Announce=[]->u.JAD=eA)/\(bdP u).2=true:=by
 obtain⟨h1,h2,h3⟩:=SQ h Lu
 exact⟨h1,fun q=>(PT _).1 (h3 q),(JK u).1 ▸ h2⟩
theorem LL {u:JAG} (hs:SmT u.JAD):Dx u=some (encS u):=by
 unfold Dx encS
 rw[HT hs,AC]
 cases hv:EE u with
 | false=>rfl
 | true=>
  obtain⟨h1,h2,h3⟩:=Uw hv
  rw[if_neg (by decide),if_pos rfl,N8 h1 h2,AC,(JK u).2 h3]
def VM (u:JAG):Int:=if EE u=true then 19 + ((C4 u).1.length:Int) else 0
theorem SS {u:JAG} (h:EE u=true):(C4 u).1.length<=4077:=by
 obtain⟨h1,h2,h3⟩:=Uw h
 rw[(JK u).2 h3]
 unfold bdP at h3 ⊢
 simp only[X27,decide_eq_true_eq] at h3
 exact h3.2
theorem Ol {u:JAG} (hs:SmT u.JAD):DF u=some (VM u):=by
 unfold DF VM
 rw[HT hs,AC]
 cases hv:EE u with
 | false=>rfl
 | true=>
  obtain⟨h1,h2,h3⟩:=Uw hv
  have:=SS hv
  rw[(JK u).2 h3] at this ⊢
  rw[if_neg (by decide),if_pos rfl,N8 h1 h2,AC]
  dsimp only at this ⊢
  rw[AO (by omega)]
theorem Wi {u:JAG} (hs:SmT u.JAD) (hw:u.Withdraw.length<=1000) (hn:u.Announce.length<=1000):Hj u=some (VM u):=by
 unfold Hj VM
 rw[MQ hs hw hn Lu,AC]
 unfold encS
 cases hv:EE u with
 | false=>rfl
 | true=>
  obtain⟨h1,h2,h3⟩:=Uw hv
  have:=SS hv
  have e:=(JK u).2 h3
  rw[if_pos rfl,if_pos rfl]
  rw[e] at this ⊢
  dsimp only at this ⊢
  rw[if_neg (by decide),AO (by omega)]
end Go.AX.Q19
end
section
namespace Go.AX.Q19
open Go Go.AX
set_option maxRecDepth 8000
structure UOk (u:JAG):Prop where
 v:EE u=true
 s:SmT u.JAD
 w:u.Withdraw.length<=4
 n:u.Announce.length<=5
theorem TL:SmT eA:=⟨by decide,by decide,by decide,by decide,by decide,fun u hu=>by cases hu⟩
theorem UOk.few {l:List JAE} (h :∀p ∈ l,CH p) (hl:l.length<=4):UOk ⟨l,eA,[]⟩:=⟨ZI h (by omega),TL,hl,Nat.zero_le _⟩
theorem Qj {α:Type} {P:α->Prop} {l:List α} {x:α} (h :∀y ∈ l,P y) (hx:P x) :∀y ∈ l++[x],P y:=fun y hy=>by
 rcases X23.1 hy with hy | hy
 ·exact h y hy
 rw[X14] at hy
 rw[hy];exact hx
theorem MK {d:JAI} (hd:Dk d):Ok (EB d) fun r=>UOk r.1/\Dk r.2:=by
 unfold EB
 rw[AH]
 refine .bind (AM hd (by omega)) ?_
 rintro⟨v,d⟩ ⟨v1,v2,hd⟩
 dsimp only at v1 v2 hd ⊢
 refine .join (fun p:JAI×List JAE=>(p.2.length<=4/\∀q ∈ p.2,CH q)/\Dk p.1) (fun k hk=>?_) ?_
 ·refine .whileI (fun s:Int×JAI×List JAE=>(0<=s.1/\s.1 + s.2.2.length<=4/\∀q ∈ s.2.2,CH q)/\Dk s.2.1) (fun s=>s.1.toNat) ⟨⟨v1,by simp only[X13];omega,fun q hq=>by cases hq⟩,hd⟩ (BV (by simp only;omega)) ?_
  rintro next ⟨c,d,p⟩ ⟨⟨h1,h2,h3⟩,hd⟩ hnx
  dsimp only at h1 h2 h3 hd ⊢
  refine .ite (fun h=>?_) fun h=>hk (d,p) ⟨⟨by dsimp only;omega,h3⟩,hd⟩
  simp only[decide_eq_true_eq] at h
  refine .bind (Ec hd) ?_
  rintro⟨x,d⟩ ⟨hx,hd⟩
  dsimp only at hx hd ⊢
  refine .bind (Ok.apnd (by decide) (by simp only[X22];omega)) fun r hr=>?_
  rw[AO (by omega),hr]
  exact hnx _ ⟨⟨by dsimp only;omega,by simp only[X11,X22];omega,Qj h3 hx⟩,hd⟩ (by dsimp only;omega)
 rintro⟨d,W⟩ ⟨⟨w1,w2⟩,hd⟩
 dsimp only at w1 w2 hd ⊢
 refine .bind (AM hd (by omega)) ?_
 rintro⟨c,d⟩ ⟨c1,c2,hd⟩
 dsimp only at c1 c2 hd ⊢
 refine .ite (fun _=>.ret ⟨.few w2 w1,hd⟩) fun _=>?_
 refine .bind (AM hd (by omega)) ?_
 rintro⟨six,d⟩ ⟨-,-,hd⟩
 dsimp only at hd ⊢
 refine .bind (AM hd (by omega)) ?_
 rintro⟨v,d⟩ ⟨v1,v2,hd⟩
 dsimp only at v1 v2 hd ⊢
 refine .join (fun p:JAI×List JAE=>(p.2.length<=5/\∀q ∈ p.2,CH q)/\Dk p.1) (fun k hk=>?_) ?_
 ·refine .whileI (fun s:Int×JAI×List JAE=>(0<=s.1/\s.1 + s.2.2.length<=5/\∀q ∈ s.2.2,CH q)/\Dk s.2.1) (fun s=>s.1.toNat) ⟨⟨v1,by simp only[X13];omega,fun q hq=>by cases hq⟩,hd⟩ (BV (by simp only;omega)) ?_
  rintro next ⟨c,d,p⟩ ⟨⟨h1,h2,h3⟩,hd⟩ hnx
  dsimp only at h1 h2 h3 hd ⊢
  refine .ite (fun h=>?_) fun h=>hk (d,p) ⟨⟨by dsimp only;omega,h3⟩,hd⟩
  simp only[decide_eq_true_eq] at h
  refine .bind (Ec hd) ?_
  rintro⟨x,d⟩ ⟨hx,hd⟩
  dsimp only at hx hd ⊢
  refine .join (fun q:List JAE=>q.length<=p.length + 1/\∀y ∈ q,CH y) (fun k27 hk27=>.ite (fun _=>.bind (Ok.apnd (by decide) (by simp only[X22];omega)) fun r hr=>hk27 _ ?_) fun _=>hk27 _ ⟨by omega,h3⟩) fun q hq=>?_
  ·rw[hr]
   exact⟨by simp only[X11,X22];omega,Qj h3 hx⟩
  rw[AO (by omega)]
  exact hnx _ ⟨⟨by dsimp only;omega,by dsimp only;omega,hq.2⟩,hd⟩ (by dsimp only;omega)
 rintro⟨d,A⟩ ⟨⟨a1,a2⟩,hd⟩
 dsimp only at a1 a2 hd ⊢
 refine .ite (fun h=>?_) fun _=>?_
 ·have:A=[]:=List.eq_nil_of_length_eq_zero (by simp only[beq_iff_eq] at h;omega)
  subst this
  exact .ret ⟨.few w2 w1,hd⟩
 refine .bind (Ip hd) ?_
 rintro⟨a,d⟩ ⟨⟨b1,b2,b3,b4,b5,b6,b7⟩,hd⟩
 dsimp only at b1 b2 b3 b4 b5 b6 b7 hd ⊢
 refine .bind (P:=fun _=>True) ⟨_,rfl,trivial⟩ fun f _=>?_
 refine .join (fun _=>True) (fun k hk=>.ite (fun _=>.bind (P:=fun _=>True) ⟨_,rfl,trivial⟩ fun f _=>hk _ trivial) fun _=>hk _ trivial) ?_
 rintro⟨x,y,z⟩ -
 dsimp only
 have hs :∀o n,SmT { a with Origin:=o,Next:=n }:=fun o n=>⟨by dsimp only;omega,by dsimp only;omega,by dsimp only;omega,by dsimp only;omega,by dsimp only;omega,fun u hu=>by have:=b7 u hu;omega⟩
 rw[Jm (hs _ _) (by dsimp only;omega) (by dsimp only;omega) Lu,AC]
 refine .ite (fun _=>?_) fun h=>.ret ⟨⟨?_,hs _ _,w1,a1⟩,hd⟩
 ·rw[AH]
  exact .ret ⟨.few (fun q hq=>by cases hq) (Nat.zero_le _),hd⟩
 simpa using h
def p10:JAE:=⟨⟨false,(0:UInt64),(167772160:UInt64)⟩,8⟩
theorem cA:CH p10:=by
 unfold CH
 refine⟨by kernel_rfl,by decide,by decide,by kernel_rfl⟩
theorem dc:encS ⟨[p10],eA,[]⟩=([0,2,8,10,0,0],0):=by
 unfold encS
 rw[if_pos (ZI (fun p hp=>by rw[X14] at hp;rw[hp];exact cA) (by decide))]
 kernel_rfl
theorem dS:cG [0,0,0,0]=(true,false):=by kernel_rfl
theorem awake:F4=some true:=by
 unfold F4
 rw[show EH=some eA from rfl,AC]
 show Option.bind (Dx ⟨[p10],eA,[]⟩) _=_
 rw[LL TL,AC,dc]
 dsimp only
 rw[Xj (by decide),AC,dS]
 kernel_rfl
structure SmUp (u:JAG):Prop where
 s:SmT u.JAD
 w:u.Withdraw.length<=1000
 n:u.Announce.length<=1000
abbrev T12:=Int×(List JAC)×Bool×UInt64×UInt64×Int×Int×Int×(List JAB)×(List JAF)×(List JAA)×(List JAE)
abbrev T13:=(List JAE)×T12
def bB (w:List JAE) (t:T12):JAG:=⟨w,⟨t.1,t.2.1,⟨t.2.2.1,t.2.2.2.1,t.2.2.2.2.1⟩,t.2.2.2.2.2.1,t.2.2.2.2.2.2.1,t.2.2.2.2.2.2.2.1,t.2.2.2.2.2.2.2.2.1,t.2.2.2.2.2.2.2.2.2.1,t.2.2.2.2.2.2.2.2.2.2.1⟩,t.2.2.2.2.2.2.2.2.2.2.2⟩
theorem UOk.sm {u:JAG} (h:UOk u):SmUp u:=⟨h.s,by have:=h.w;omega,by have:=h.n;omega⟩
theorem updateEncodes (l:List Int) (x y:Int) (hl:l.length<=maxLen):CB l x y=some true:=by
 have hd:Dk ⟨l,0⟩:=⟨Int.le_refl _,Nat.le_trans hl (by decide)⟩
 have main:Ok (CB l x y) fun r=>r=true:=by
  unfold CB
  rw[Z7,AC]
  refine .bind (MK hd) ?_
  rintro⟨u,d⟩ ⟨hu,hd⟩
  dsimp only at hu hd ⊢
  have hs:=hu.sm
  refine .bind (D6 (by omega)) fun m hm=>?_
  refine .join SmUp (fun k5 hk5=>.join SmUp (fun k6 hk6=>?_) fun v hv=>hk5 _ hv) fun v hv=>?_
  ·refine .ite (fun _=>?_) fun _=>?_
   ·refine .bind (Ip hd) ?_
    rintro⟨a,d⟩ ⟨⟨b1,b2,b3,b4,b5,b6,b7⟩,hd⟩
    dsimp only at b1 b2 b3 b4 b5 b6 b7 hd ⊢
    exact hk6 _ ⟨⟨by dsimp only;omega,by dsimp only;omega,by dsimp only;omega,by dsimp only;omega,by dsimp only;omega,fun u hu=>by have:=b7 u hu;omega⟩,hs.w,hs.n⟩
   refine .join (fun t:T13=>SmUp (bB t.1 t.2)) (fun k9 hk9=>?_) fun t ht=>hk6 _ ht
   refine .ite (fun _=>?_) fun _=>?_
   ·have:=hu.n
    refine .bind (Ok.apnd (by decide) (by simp only[X13];omega)) fun _ _=>.bind (Ec hd) ?_
    rintro⟨p,d⟩ ⟨hp,hd⟩
    dsimp only
    refine .bind (Ok.apnd (by decide) (by simp only[X22];omega)) fun r hr=>hk9 _ ⟨hs.s,hs.w,?_⟩
    rw[hr]
    show (u.Announce++[p]).length<=1000
    rw[X11,X22]
    omega
   refine .join (fun t:T13=>SmUp (bB t.1 t.2)) (fun k13 hk13=>?_) fun t ht=>hk9 _ ht
   refine .ite (fun _=>?_) fun _=>?_
   ·refine .bind (D6 (by omega)) fun n hn=>?_
    rw[AO (x:=255 + n) (by omega)]
    refine .join (fun w:List JAE=>w.length<=1000) (fun k hk=>?_) fun w hw=>hk13 _ ⟨hs.s,hw,hs.n⟩
    refine .whileI (fun s:Int×List JAE=>0<=s.1/\(s.2.length:Int)<=s.1/\s.1<=300) (fun s=>(300 - s.1).toNat) ⟨by dsimp only;omega,by simp,by dsimp only;omega⟩ (BV (by dsimp only;omega)) ?_
    rintro next ⟨i,w⟩ ⟨h1,h2,h3⟩ hnx
    dsimp only at h1 h2 h3 ⊢
    refine .ite (fun h=>?_) fun _=>hk _ (by omega)
    simp only[decide_eq_true_eq] at h
    refine .bind (D6 (by omega)) fun q hq=>.bind (Ok.apnd (by decide) (by simp only[X22];omega)) fun r hr=>?_
    rw[AO (x:=i + 1) (by omega),hr]
    exact hnx _ ⟨by dsimp only;omega,by simp only[X11,X22];omega,by dsimp only;omega⟩ (by dsimp only;omega)
   refine .join (fun t:T13=>SmUp (bB t.1 t.2)) (fun k22 hk22=>?_) fun t ht=>hk13 _ ht
   refine .ite (fun _=>?_) fun _=>?_
   ·have:=hu.w
    refine .bind (Ok.apnd (by decide) (by simp only[X13];omega)) fun _ _=>.bind (D6 (by omega)) fun q hq=>.bind (Ok.apnd (by decide) (by simp only[X22];omega)) fun r hr=>hk22 _ ⟨hs.s,?_,hs.n⟩
    rw[hr]
    show (u.Withdraw++[_]).length<=1000
    rw[X11,X22]
    omega
   refine .join (fun t:T12=>SmUp (bB u.Withdraw t)) (fun k25 hk25=>?_) fun t ht=>hk22 _ ht
   refine .ite (fun _=>hk25 _ ⟨⟨hs.s.p,hs.s.t,hs.s.c,hs.s.l,hs.s.o,hs.s.d⟩,hs.w,hs.n⟩) fun _=>?_
   rw[AH]
   refine .bind (D6 (by omega)) fun n hn=>?_
   rw[AO (x:=100 + n) (by omega)]
   refine .join (fun w:List JAE=>w.length<=1000) (fun k hk=>?_) fun w hw=>hk25 _ ⟨⟨Nat.zero_le _,Nat.zero_le _,Nat.zero_le _,Nat.zero_le _,Nat.zero_le _,fun u hu=>by cases hu⟩,hs.w,hw⟩
   refine .whileI (fun s:Int×List JAE=>0<=s.1/\(s.2.length:Int)<=s.1/\s.1<=300) (fun s=>(300 - s.1).toNat) ⟨by dsimp only;omega,by simp,by dsimp only;omega⟩ (BV (by dsimp only;omega)) ?_
   rintro next ⟨i,w⟩ ⟨h1,h2,h3⟩ hnx
   dsimp only at h1 h2 h3 ⊢
   refine .ite (fun h=>?_) fun _=>hk _ (by omega)
   simp only[decide_eq_true_eq] at h
   refine .bind (Ok.apnd (by decide) (by simp only[X22];omega)) fun r hr=>?_
   rw[AO (x:=i + 1) (by omega),hr]
   exact hnx _ ⟨by dsimp only;omega,by simp only[X11,X22];omega,by dsimp only;omega⟩ (by dsimp only;omega)
  refine .join (fun _=>True) (fun k hk=>.for_ (fun _=>hk _ trivial) fun next z i _ _ hz hn=>?_) fun _ _=>?_
  ·have sz:SmUp z:=by
    simp only[List.mem_cons,List.not_mem_nil,or_false] at hz
    rcases hz with rfl | rfl
    ·exact hs
    exact hv
   rw[LL sz.s,AC,MQ sz.s sz.w sz.n Lu,AC]
   rw[AH,HT sz.s,AC,Jm sz.s sz.w sz.n Lu,AC,beq_self_eq_true,if_neg (by decide),Ol sz.s,AC,Wi sz.s sz.w sz.n,AC,bne_self_eq_false,if_neg (by decide),beq_self_eq_true,if_neg (by decide),bne_self_eq_false]
   exact hn _
  rw[awake,AC]
  exact .ret rfl
 obtain⟨r,h1,h2⟩:=main
 rw[h1,h2]
theorem Vp (l:List JAE) (p:JAE):MY (l++[p])=MY l + IM p:=by
 induction l with
 | nil=>show IM p + 0=0 + IM p;omega
 | cons x t ih=>show IM x + MY (t++[p])=IM x + MY t + IM p;omega
theorem Pq {l:List JAE} (h :∀p ∈ l,CH p/\p.Addr.V6=false) (hl:l.length<=100):DF ⟨l,eA,[]⟩=some (23 + (MY l:Int)):=by
 obtain⟨h1,h2,h3⟩:=VI h hl
 rw[Ol TL]
 unfold VM
 rw[if_pos h1,h2]
 congr 1
 omega
theorem updateSizes (l:List Int) (hl:l.length<=maxLen):Ce l=some true:=by
 have hd:Dk ⟨l,0⟩:=⟨Int.le_refl _,Nat.le_trans hl (by decide)⟩
 have main:Ok (Ce l) fun r=>r=true:=by
  unfold Ce
  rw[Z7,AC,AH]
  show Ok (Option.bind (DF ⟨[],eA,[]⟩) _) _
  rw[Pq (l:=[]) (fun p hp=>by cases hp) (by decide),AC,if_neg (by decide)]
  refine .bind (AM hd (by omega)) ?_
  rintro⟨v,d⟩ ⟨v1,v2,hd⟩
  dsimp only at v1 v2 hd ⊢
  refine .join (fun w:List JAE=>w.length<=40/\∀p ∈ w,CH p/\p.Addr.V6=false) (fun k6 hk6=>?_) fun w hw=>?_
  ·refine .whileI (fun s:Int×Int×JAI×List JAE=>(s.1=23 + (MY s.2.2.2:Int)/\0<=s.2.1/\s.2.1 + s.2.2.2.length<=19/\∀p ∈ s.2.2.2,CH p/\p.Addr.V6=false)/\Dk s.2.2.1) (fun s=>s.2.1.toNat) ⟨⟨rfl,v1,by simp only[X13];omega,fun p hp=>by cases hp⟩,hd⟩ (BV (by simp only;omega)) ?_
   rintro next ⟨c,k,d,w⟩ ⟨⟨h1,h2,h3,h4⟩,hd⟩ hnx
   dsimp only at h1 h2 h3 h4 hd ⊢
   refine .ite (fun h=>?_) fun _=>hk6 _ ⟨by omega,h4⟩
   simp only[decide_eq_true_eq] at h
   refine .join (fun q:Int×JAI×List JAE=>(q.1=23 + (MY q.2.2:Int)/\q.2.2.length<=w.length + 1/\∀p ∈ q.2.2,CH p/\p.Addr.V6=false)/\Dk q.2.1) (fun k12 hk12=>?_) ?_
   ·refine .bind (Ec hd) ?_
    rintro⟨p,d⟩ ⟨hp,hd⟩
    dsimp only at hp hd ⊢
    refine .ite (fun _=>hk12 _ ⟨⟨h1,by dsimp only;omega,h4⟩,hd⟩) fun h6=>?_
    have h5:=Qj (x:=p) h4 ⟨hp,by simpa using h6⟩
    refine .bind (Ok.apnd (by decide) (by simp only[X22];omega)) fun r hr=>?_
    rw[hr]
    have hlen:(w++[p]).length<=100:=by rw[X11,X22];omega
    have hsz:=Pq h5 hlen
    rw[Vp] at hsz
    show Ok (Option.bind (DF ⟨w++[p],eA,[]⟩) _) _
    rw[hsz,AC]
    have hq:=TX h4
    obtain⟨_,g2,g3,_⟩:=hp
    obtain⟨w1,w2⟩:=w_L p.Addr
    have e:AN (c + AN (1 + AN (Int.tdiv (AN (p.Len + 7)) 8)))=23 + ((MY w + IM p:Nat):Int):=by
     obtain⟨n,hn⟩ :∃n:Nat,p.Len=n:=⟨p.Len.toNat,by omega⟩
     unfold IM
     rw[hn,Int.toNat_natCast,AO (x:=(n:Int) + 7) (by omega),Int.tdiv_eq_ediv_of_nonneg (by omega),AO (x:=((n:Int) + 7) / 8) (by omega),AO (x:=1 + ((n:Int) + 7) / 8) (by omega),AO (by omega)]
     omega
    rw[e,bne_self_eq_false,if_neg (by decide)]
    exact hk12 _ ⟨⟨by rw[Vp],by rw[X11,X22];exact Nat.le_refl _,h5⟩,hd⟩
   rintro⟨c,d,q⟩ ⟨⟨q1,q2,q3⟩,hd⟩
   dsimp only at q1 q2 q3 hd ⊢
   rw[AO (by omega)]
   exact hnx _ ⟨⟨q1,by dsimp only;omega,by dsimp only;omega,q3⟩,hd⟩ (by dsimp only;omega)
  refine .join (fun b=>b=true) (fun k21 hk21=>?_) fun b hb=>.ret hb
  show Ok (Option.bind (C7 ⟨w,eA,[]⟩) _) _
  rw[HT TL,(VI hw.2 (by omega)).1,AC,if_pos rfl,awake,AC]
  exact hk21 _ rfl
 obtain⟨r,h1,h2⟩:=main
 rw[h1,h2]
end Go.AX.Q19
end
section
namespace Go.AX.Q19
open Go Go.AX
set_option maxRecDepth 8000
theorem UOk.enc {u:JAG} (h:UOk u) :∃a,encS u=(IH u (DR (ES u)).1,0)/\(DR (ES u)).2=0/\a=WrU u/\WrU u/\(u.Announce=[]->u.JAD=eA):=by
 obtain⟨h1,h2,h3⟩:=Uw h.v
 have e:=(JK u).2 h3
 unfold encS
 rw[if_pos h.v,e]
 unfold bdP at h3 ⊢
 simp only[X27,beq_iff_eq] at h3
 exact⟨_,rfl,h3.1,rfl,h1,h2⟩
theorem XB {n:Nat} (h:n<65536) :∃a b:UInt8,two n=[a,b]/\a.toNat * 256 + b.toNat=n:=by
 have e1:Int.fdiv (n:Int) (2 ^ (min (Int.toNat 8) 64))=((n / 256:Nat):Int):=dL n
 refine⟨_,_,rfl,?_⟩
 rw[e1,Du,Du,UInt8.toNat_ofNat',UInt8.toNat_ofNat']
 omega
end Go.AX.Q19
end
section
namespace Go.AX.Q19
open Go Go.AX
abbrev HL (l:List Int):Prop:=l.length<=maxLen/\l.length * 8<=reachBytes/\∀a ∈ l,I64 a
theorem Qb (l:List Int) (a b:Int) (h:HL l) (_:I64 a) (_:I64 b):CB l a b=some true:=updateEncodes l a b h.1
theorem TZ (l:List Int) (h:HL l):Ce l=some true:=updateSizes l h.1
end Go.AX.Q19
end
section
namespace Go.AX.Q19
open Go Go.AX Go.Proofs
set_option maxRecDepth 100000
set_option maxHeartbeats 4000000
set_option linter.unusedVariables false
theorem O0 {wl:Prop} {a0:List Int} {r:JAI} (h:KF a0=some r):CallsOK (Wl wl) Tryz.prog 12 [AV.d (D.l 1 D.i a0)] [] (.ref 0 0) [.box (JAI.av r)]:=by
 refine oK Tryz.f12 ⟨rfl,?_⟩;unfold KF at h;cases h;exact⟨rfl,rfl⟩
theorem J7 {wl:Prop}  {r:JAD} (h:EH=some r):CallsOK (Wl wl) Tryz.prog 17 [] [] (.d (JAD.toD r)) []:=by
 refine oK Tryz.f17 ⟨rfl,?_⟩;unfold EH at h;cases h;exact⟨rfl,rfl⟩
theorem F5 {wl:Prop} {a0:Int} {a1:Int} {r:Int} (h:FS a0 a1=some r):CallsOK (Wl wl) Tryz.prog 14 [AV.d (D.i a0),AV.d (D.i a1)] [] (.d (D.i r)) []:=by
 refine oK Tryz.f14 ⟨rfl,?_⟩;unfold FS at h;obtain⟨_,g1,h⟩:=AA h;refine⟨Eb g1,_,rfl,?_⟩;revert h;refine AG (fun v2=>⟨dd 5 (yi v2::dd 9 ([])),nn 15 ([])⟩) ?_ ?_
 ·intro k3 h;refine sJ h (fun h=>?_) fun h=>AB wk h;refine⟨_,rfl,?_⟩;exact AB wk h
 rintro v2 h;cases h;exact⟨rfl,rfl⟩
theorem AK {wl:Prop} {a0:JAI} {a1:Int} {r:Int×JAI} (h:AL a0 a1=some r):CallsOK (Wl wl) Tryz.prog 25 [.ref 0 0,AV.d (D.i a1)] [.box (JAI.av a0)] (.d (D.i r.1)) [.box (JAI.av r.2)]:=by
 refine oK Tryz.f25 ⟨rfl,?_⟩;unfold AL at h;(conv=>whnf);refine .inl (dO ?_);refine⟨a0.L.length,X10 _,?_⟩;(conv=>whnf);refine cO ?_;(conv=>whnf);refine .go ?_;refine sJ h ?_ ?_<;>intro h
 ·cases h;exact⟨rfl,rfl⟩
 refine⟨_,rfl,?_⟩;(conv=>whnf);refine .inl (dO ?_);refine⟨_,rfl,?_⟩;obtain⟨v1,g2,h⟩:=AA h;refine⟨Af (f:=D.i) g2,D.i v1,Ag (f:=D.i) g2,rfl,?_⟩;obtain⟨v3,g4,h⟩:=AA h;refine⟨_,_,F5 g4,.inl rfl,?_⟩;(conv=>whnf);refine cO ?_;cases h;exact⟨rfl,rfl⟩
theorem MA {wl:Prop} {a0:Int} {r:Addr} (h:IY a0=some r):CallsOK (Wl wl) Tryz.prog 42 [AV.d (D.i a0)] [] (.d (Addr.toD r)) []:=by
 refine oK Tryz.f42 ⟨rfl,?_⟩;unfold IY at h;refine⟨_,rfl,?_⟩;refine⟨_,Aq _,?_⟩;refine⟨_,Aq _,?_⟩;cases h;exact⟨rfl,rfl⟩
theorem O9 {wl:Prop} {a0:Int} {r:Addr} (h:Jy a0=some r):CallsOK (Wl wl) Tryz.prog 43 [AV.d (D.i a0)] [] (.d (Addr.toD r)) []:=by
 refine oK Tryz.f43 ⟨rfl,?_⟩;unfold Jy at h;refine⟨_,rfl,?_⟩;refine⟨_,Aq _,?_⟩;cases h;exact⟨rfl,rfl⟩
theorem KN {wl:Prop} {a0:List JAC} {r:Bool} (h:Eo a0=some r):CallsOK (Wl wl) Tryz.prog 75 [AV.d (D.l 2 JAC.toD a0)] [] (.d (D.b r)) []:=by
 refine oK Tryz.f75 ⟨rfl,?_⟩;unfold Eo at h;refine⟨a0.length,X10 _,?_⟩;revert h;refine AG (fun v1=>⟨X::X::X::yi v1::dd 74 ([]),nn 78 ([])⟩) ?_ ?_
 ·intro k2 h;revert h;refine Aj 8 2 JAC.toD rfl (fun i3 v4=>⟨y0 a0::X::X::yi v4::dd 4 (y0 a0::yi (a0.length:Int)::yi (i3:Int)::dd 67 ([])),nn 78 ([])⟩) ?_ ?_ ?_
  ·exact wk
  ·rintro v4 K5 h;(conv=>whnf);refine .go ?_;(conv=>whnf);refine BO C6 ?_;exact AB wk h
  rintro next6 i3 x7 v4 K5 hii3 hxi3 hwi3 h hK8;(conv=>whnf);refine .go ?_;(conv=>whnf);refine BI (Cd hii3) ?_;revert h;refine AG (fun _=>⟨y0 a0::X::X::yi (AN (v4 + (x7.ASNs.length:Int)))::dd 4 (y0 a0::yi (a0.length:Int)::yi (i3:Int)::dd 67 ([])),nn 78 ([])⟩) ?_ ?_
  ·intro k9 h;refine⟨BH (f:=JAC.toD) hii3,JAC.toD x7,hxi3,rfl,?_⟩;revert h;refine AG (fun v10=>⟨y0 a0::X::X::yi v4::X::yr 5 0::X::X::y0 a0::yi (a0.length:Int)::yi (i3:Int)::dd 25 (yb v10::dd 41 ([])),nn 5 (yB (JAC.av x7)::nn 72 ([]))⟩) ?_ ?_
   ·intro k11 h;refine⟨x7.ASNs.length,X10 _,?_⟩;refine sJ h (fun h=>AB wk h) fun h=>?_;refine sJ h (fun h=>?_) fun h=>AB wk h;refine sJ h (fun h=>?_) fun h=>AB wk h;refine⟨_,rfl,?_⟩;obtain⟨v12,g13,h⟩:=AA h;refine⟨Af (f:=JAC.toD) g13,JAC.toD v12,Ag (f:=JAC.toD) g13,rfl,?_⟩;exact AB wk h
   rintro v10 h;(conv=>whnf);refine .go ?_;refine sJ h ?_ ?_<;>intro h
   ·cases h;exact⟨rfl,rfl⟩
   refine⟨x7.ASNs.length,X10 _,?_⟩;revert h;refine AG (fun _=>⟨y0 a0::X::X::yi v4::X::yr 5 0::X::X::y0 a0::yi (a0.length:Int)::yi (i3:Int)::dd 67 ([]),nn 5 (yB (JAC.av x7)::nn 72 ([]))⟩) ?_ ?_
   ·intro k14 h;revert h;refine Aj 38 1 D.i rfl (fun i15 _=>⟨y0 a0::X::X::yi v4::X::yr 5 0::X::X::y0 a0::yi (a0.length:Int)::yi (i3:Int)::dd 27 (AV.d (D.l 1 D.i x7.ASNs)::yi (x7.ASNs.length:Int)::yi (i15:Int)::dd 37 ([])),nn 5 (yB (JAC.av x7)::nn 72 ([]))⟩) ?_ ?_ ?_
    ·exact wk
    ·rintro _ K16 h;(conv=>whnf);refine .go ?_;(conv=>whnf);refine BO C6 ?_;exact AB wk h
    rintro next17 i15 x18 _ K16 hii15 hxi15 hwi15 h hK19;(conv=>whnf);refine .go ?_;(conv=>whnf);refine BI (Cd hii15) ?_;(conv=>whnf);refine .go ?_;refine⟨BH (f:=D.i) hii15,D.i x18,hxi15,rfl,?_⟩;revert h;refine AG (fun v20=>⟨y0 a0::X::X::yi v4::X::yr 5 0::X::X::y0 a0::yi (a0.length:Int)::yi (i3:Int)::dd 27 (AV.d (D.l 1 D.i x7.ASNs)::yi (x7.ASNs.length:Int)::yi (i15:Int)::dd 27 (yb v20::dd 9 ([]))),nn 5 (yB (JAC.av x7)::nn 72 ([]))⟩) ?_ ?_
    ·intro k21 h;refine sJ h (fun h=>AB wk h) fun h=>?_;refine sJ h (fun h=>AB wk h) fun h=>?_;refine sJ h (fun h=>?_) fun h=>AB wk h;refine sJ h (fun h=>?_) fun h=>AB wk h;refine⟨_,rfl,?_⟩;obtain⟨v22,g23,h⟩:=AA h;refine⟨Af (f:=D.i) g23,D.i v22,Ag (f:=D.i) g23,rfl,?_⟩;exact AB wk h
    rintro v20 h;(conv=>whnf);refine .go ?_;refine sJ h ?_ ?_<;>intro h
    ·cases h;exact⟨rfl,rfl⟩
    refine⟨_,hwi15,?_⟩;exact hK19 _ _ wk h
   rintro _ h;refine⟨x7.ASNs.length,X10 _,?_⟩;refine⟨_,rfl,?_⟩;exact AB wk h
  rintro _ h;refine⟨_,hwi3,?_⟩;exact hK8 _ _ wk h
 rintro v1 h;cases h;exact⟨rfl,rfl⟩
theorem OF {wl:Prop} {a0:JAI} {r:Int×JAI} (h:FT a0=some r):CallsOK (Wl wl) Tryz.prog 88 [.ref 0 0] [.box (JAI.av a0)] (.d (D.i r.1)) [.box (JAI.av r.2)]:=by
 refine oK Tryz.f88 ⟨rfl,?_⟩;unfold FT at h;obtain⟨⟨v1,v2⟩,g3,h⟩:=AA h;refine⟨_,_,some [],AK g3,?_⟩;refine⟨_,rfl,?_⟩;obtain⟨⟨v4,v5⟩,g6,h⟩:=AA h;refine⟨_,_,some [],AK g6,?_⟩;refine⟨_,rfl,?_⟩;obtain⟨⟨v7,v8⟩,g9,h⟩:=AA h;refine⟨_,_,some [],AK g9,?_⟩;obtain⟨v10,g11,h⟩:=AA h;refine⟨rfl,Af (f:=D.i) g11,?_⟩;refine⟨rfl,D.i v10,(Ag (f:=D.i) g11),?_⟩;cases h;exact⟨rfl,rfl⟩
theorem Me {wl:Prop} {a0:JAI} {r:(List JAC)×JAI} (h:En a0=some r):CallsOK (Wl wl) Tryz.prog 44 [.ref 0 0] [.box (JAI.av a0)] (.d (D.l 2 JAC.toD r.1)) [.box (JAI.av r.2)]:=by
 refine oK Tryz.f44 ⟨rfl,?_⟩;unfold En at h;obtain⟨⟨v1,v2⟩,g3,h⟩:=AA h;refine⟨_,_,some [],AK g3,?_⟩;revert h;refine AG (fun (v4,v5)=>⟨X::X::X::yO 4 JAC.toD v5::dd 106 ([]),yB (JAI.av v4)::N::N::N::yR 132 2 JAC.toD v5::nn 106 ([])⟩) ?_ ?_
 ·intro k6 h;revert h;refine Am (fun (v7,v8,v9)=>⟨yr 0 0::X::X::yO 4 JAC.toD v9::yi v7::dd 105 ([]),yB (JAI.av v8)::N::N::N::yR 132 2 JAC.toD v9::nn 106 ([])⟩) ?_ ?_
  ·exact wk
  rintro next10 ⟨v7,v8,v9⟩ K11 h hK12;(conv=>whnf);refine .go ?_;refine sJ h (fun h=>?_) fun h=>AB wk h;revert h;refine AG (fun (v13,v14)=>⟨yr 0 0::X::X::yO 109 JAC.toD v14::yi v7::dd 105 ([]),yB (JAI.av v13)::nn 108 (yR 132 2 JAC.toD v14::N::[])⟩) ?_ ?_
  ·intro k15 h;revert h;refine AG (fun (v16,v17)=>⟨yr 0 0::X::X::yO 4 JAC.toD v9::yi v7::yb v16::dd 104 ([]),yB (JAI.av v17)::N::N::N::yR 132 2 JAC.toD v9::nn 106 ([])⟩) ?_ ?_
   ·intro k18 h;refine⟨v9.length,by first | exact X10 _ | rfl | (simp only[X10];omega),?_⟩;refine sJ h ?_ ?_<;>intro h
    ·refine⟨v9.length,by first | exact X10 _ | rfl | (simp only[X10];omega),?_⟩;refine⟨_,rfl,?_⟩;obtain⟨v19,g20,h⟩:=AA h;refine⟨rfl,Af (f:=JAC.toD) g20,?_⟩;refine⟨rfl,?_⟩;refine⟨rfl,JAC.toD v19,(Ag (f:=JAC.toD) g20),?_⟩;refine sJ h (fun h=>AB wk h) fun h=>?_;obtain⟨⟨v21,v22⟩,g23,h⟩:=AA h;refine⟨_,_,some [],AK g23,?_⟩;exact AB wk h
    obtain⟨⟨v24,v25⟩,g26,h⟩:=AA h;refine⟨_,_,some [],AK g26,?_⟩;exact AB wk h
   rintro⟨v16,v17⟩ h;obtain⟨⟨v27,v28⟩,g29,h⟩:=AA h;refine⟨_,_,some [],AK g29,?_⟩;refine⟨_,rfl,?_⟩;revert h;refine AG (fun (v30,v31)=>⟨yr 0 0::X::X::yO 4 JAC.toD v9::yi v7::X::yr 7 0::dd 103 ([]),yB (JAI.av v30)::N::N::N::yR 132 2 JAC.toD v9::N::N::yB [yb v16,yO 52 D.i v31]::nn 44 (yR 3 1 D.i v31::nn 58 ([]))⟩) ?_ ?_
   ·intro k32 h;revert h;refine Am (fun (v33,v34,v35)=>⟨yr 0 0::X::X::yO 4 JAC.toD v9::yi v7::yb v16::yr 7 0::yi v33::dd 102 ([]),yB (JAI.av v34)::N::N::N::yR 132 2 JAC.toD v9::N::N::yB [yb v16,yO 52 D.i v35]::nn 44 (yR 3 1 D.i v35::nn 58 ([]))⟩) ?_ ?_
    ·exact wk
    rintro next36 ⟨v33,v34,v35⟩ K37 h hK38;(conv=>whnf);refine .go ?_;refine sJ h (fun h=>?_) fun h=>AB wk h;revert h;refine AG (fun (v39,v40)=>⟨yr 0 0::X::X::yO 4 JAC.toD v9::yi v7::yb v16::yr 7 0::yi v33::dd 102 ([]),yB (JAI.av v39)::N::N::N::yR 132 2 JAC.toD v9::N::N::yB [yb v16,yO 52 D.i v40]::nn 44 (yR 3 1 D.i v40::nn 58 ([]))⟩) ?_ ?_
    ·intro k41 h;obtain⟨⟨v42,v43⟩,g44,h⟩:=AA h;refine⟨_,_,some [],OF g44,?_⟩;(conv=>whnf);refine .go ?_;refine sJ h ?_ ?_<;>intro h
     ·refine⟨rfl,?_⟩;obtain⟨v45,g46,h⟩:=AA h;refine⟨rfl,AZ (f:=D.i) (g:=D.i) g46,_,Ab (f:=D.i) g46,?_⟩;exact AB wk h
     revert h;refine AG (fun v47=>⟨yr 0 0::X::X::yO 4 JAC.toD v9::yi v7::yb v16::yr 7 0::yi v33::yi v42::yi v47::dd 100 ([]),yB (JAI.av v43)::N::N::N::yR 132 2 JAC.toD v9::N::N::yB [yb v16,yO 52 D.i v35]::nn 44 (yR 3 1 D.i v35::nn 58 ([]))⟩) ?_ ?_
     ·intro k48 h;revert h;refine Am (fun v49=>⟨yr 0 0::X::X::yO 4 JAC.toD v9::yi v7::yb v16::yr 7 0::yi v33::yi v42::yi v49::dd 100 ([]),yB (JAI.av v43)::N::N::N::yR 132 2 JAC.toD v9::N::N::yB [yb v16,yO 52 D.i v35]::nn 44 (yR 3 1 D.i v35::nn 58 ([]))⟩) ?_ ?_
      ·exact wk
      rintro next50 v49 K51 h hK52;revert h;refine AG (fun v53=>⟨yr 0 0::X::X::yO 4 JAC.toD v9::yi v7::yb v16::yr 7 0::yi v33::yi v42::yi v49::dd 56 (yb v53::dd 43 ([])),yB (JAI.av v43)::N::N::N::yR 132 2 JAC.toD v9::N::N::yB [yb v16,yO 52 D.i v35]::nn 44 (yR 3 1 D.i v35::nn 58 ([]))⟩) ?_ ?_
      ·intro k54 h;refine⟨v35.length,by first | exact X10 _ | rfl | (simp only[X10];omega),?_⟩;refine sJ h (fun h=>?_) fun h=>AB wk h;obtain⟨v55,g56,h⟩:=AA h;refine⟨rfl,Af (f:=D.i) g56,?_⟩;refine⟨rfl,D.i v55,(Ag (f:=D.i) g56),?_⟩;exact AB wk h
      rintro v53 h;(conv=>whnf);refine .go ?_;refine sJ h (fun h=>?_) fun h=>AB wk h;(conv=>whnf);refine .go ?_;refine⟨_,rfl,?_⟩;exact hK52 _ _ wk h
     rintro v47 h;revert h;refine AG (fun v57=>⟨yr 0 0::X::X::yO 4 JAC.toD v9::yi v7::yb v16::yr 7 0::yi v33::yi v42::yi v47::dd 72 (yb v57::dd 27 ([])),yB (JAI.av v43)::N::N::N::yR 132 2 JAC.toD v9::N::N::yB [yb v16,yO 52 D.i v35]::nn 44 (yR 3 1 D.i v35::nn 58 ([]))⟩) ?_ ?_
     ·intro k58 h;refine⟨v35.length,by first | exact X10 _ | rfl | (simp only[X10];omega),?_⟩;refine sJ h (fun h=>AB wk h) fun h=>?_;obtain⟨v59,g60,h⟩:=AA h;refine⟨rfl,Af (f:=D.i) g60,?_⟩;refine⟨rfl,D.i v59,(Ag (f:=D.i) g60),?_⟩;exact AB wk h
     rintro v57 h;revert h;refine AG (fun v61=>⟨yr 0 0::X::X::yO 4 JAC.toD v9::yi v7::yb v16::yr 7 0::yi v33::dd 102 ([]),yB (JAI.av v43)::N::N::N::yR 132 2 JAC.toD v9::N::N::yB [yb v16,yO 88 D.i v61]::nn 80 (yR 3 1 D.i v61::nn 22 ([]))⟩) ?_ ?_
     ·intro k62 h;refine sJ h ?_ ?_<;>intro h
      ·(conv=>whnf);refine .inl (dO ?_);(conv=>whnf);refine .inr (.inl ?_);obtain⟨_,g63,h⟩:=AA h;have g169c:=Eb g63;refine⟨ZO (f:=D.i) g63,rfl,(Int.toNat 0),(Int.toNat v47 - Int.toNat 0),rfl,rfl,?_⟩;refine⟨(by first | rfl | (simp only[X10,X21];omega)|(simp only[cpy,X10,X21,X11,X18,X17,X20];omega)),List.map D.i (List.take (Int.toNat v47 - Int.toNat 0) (List.drop (Int.toNat 0) v35)),WP,?_⟩;obtain⟨_,g64,h⟩:=AA h;refine⟨Ed (g:=D.i) g64,?_⟩;refine⟨rfl,?_⟩;obtain⟨v65,g66,h⟩:=AA h;refine⟨rfl,AZ (f:=D.i) (g:=D.i) g66,_,Ab (f:=D.i) g66,?_⟩;(conv=>whnf);refine .inr (.inl ?_);obtain⟨_,g67,h⟩:=AA h;have g175c:=Eb g67;refine⟨I5 (f:=D.i) g67,rfl,(Int.toNat v47),(Int.toNat (v35.length:Int) - Int.toNat v47),rfl,(by rw[X10]),?_⟩;refine⟨(by first | rfl | (simp only[X10,X21];omega)|(simp only[cpy,X10,X21,X11,X18,X17,X20];omega)),List.map D.i (List.take (Int.toNat (v35.length:Int) - Int.toNat v47) (List.drop (Int.toNat v47) v35)),WP,?_⟩;obtain⟨v68,g69,h⟩:=AA h;refine⟨rfl,AZ (f:=D.i) (g:=D.i) g69,_,Ab (f:=D.i) g69,?_⟩;(conv=>whnf);refine cO ?_;exact AB wk h
      exact AB (.swap 52 88 rfl rfl rfl wk) h
     rintro v61 h;exact AB (.swap 88 52 rfl rfl rfl wk) h
    rintro⟨v39,v40⟩ h;refine⟨_,rfl,?_⟩;exact hK38 _ _ wk h
   rintro⟨v30,v31⟩ h;(conv=>whnf);refine .inl ?_;refine⟨rfl,?_⟩;refine⟨rfl,?_⟩;obtain⟨v70,g71,h⟩:=AA h;refine⟨rfl,AZ (f:=JAC.toD) (g:=JAC.toD) g71,_,Ab (f:=JAC.toD) g71,?_⟩;refine⟨rfl,?_⟩;obtain⟨v72,g73,h⟩:=AA h;refine⟨_,_,none,KN g73,?_⟩;revert h;refine AG (fun v74=>⟨yr 0 0::X::X::yO 109 JAC.toD v74::yi v7::dd 105 ([]),yB (JAI.av v30)::nn 108 (yR 132 2 JAC.toD v74::N::[])⟩) ?_ ?_
   ·intro k75 h;refine sJ h ?_ ?_<;>intro h
    ·refine⟨v70.length,by first | exact X10 _ | rfl | (simp only[X10];omega),?_⟩;refine⟨_,rfl,?_⟩;(conv=>whnf);refine .inr (.inr ?_);obtain⟨v76,g77,h⟩:=AA h;refine⟨TQ (f:=JAC.toD) g77,rfl,_,EL (f:=JAC.toD) g77,?_⟩;exact AB wk h
    exact AB (.swap 4 109 rfl rfl rfl wk) h
   rintro v74 h;exact AB wk h
  rintro⟨v13,v14⟩ h;refine⟨_,rfl,?_⟩;exact hK12 _ _ (.swap 109 4 rfl rfl rfl wk) h
 rintro⟨v4,v5⟩ h;(conv=>whnf);refine .inl ?_;(conv=>whnf);refine .inl ?_;refine⟨rfl,?_⟩;cases h;exact⟨rfl,rfl⟩
theorem J4 {wl:Prop} {a0:JAB} {r:Bool} (h:EG a0=some r):CallsOK (Wl wl) Tryz.prog 127 [AV.d (JAB.toD a0)] [] (.d (D.b r)) []:=by
 refine oK Tryz.f127 ⟨rfl,?_⟩;unfold EG at h;revert h;refine AG (fun v1=>⟨X::X::yb v1::dd 18 ([]),nn 21 ([])⟩) ?_ ?_
 ·intro k2 h;refine sJ h (fun h=>?_) fun h=>AB wk h;refine sJ h (fun h=>?_) fun h=>AB wk h;exact sJ h (fun h=>AB wk h) fun h=>AB wk h
 rintro v1 h;cases h;exact⟨rfl,rfl⟩
theorem LF {wl:Prop} {a0:JAB} {a1:JAB} {r:Bool} (h:EK a0 a1=some r):CallsOK (Wl wl) Tryz.prog 128 [AV.d (JAB.toD a0),AV.d (JAB.toD a1)] [] (.d (D.b r)) []:=by
 refine oK Tryz.f128 ⟨rfl,?_⟩;unfold EK at h;revert h;refine AG (fun v1=>⟨dd 4 (yb v1::dd 19 ([])),nn 24 ([])⟩) ?_ ?_
 ·intro k2 h;refine sJ h (fun h=>AB wk h) fun h=>?_;exact sJ h (fun h=>AB wk h) fun h=>AB wk h
 rintro v1 h;cases h;exact⟨rfl,rfl⟩
theorem Hy {wl:Prop} {a0:List JAB} {r:Bool} (h:Eh a0=some r):CallsOK (Wl wl) Tryz.prog 77 [AV.d (D.l 2 JAB.toD a0)] [] (.d (D.b r)) []:=by
 refine oK Tryz.f77 ⟨rfl,?_⟩;unfold Eh at h;refine⟨a0.length,X10 _,?_⟩;revert h;refine AG (fun _=>⟨y1 a0::dd 32 ([]),nn 33 ([])⟩) ?_ ?_
 ·intro k1 h;revert h;refine Aj 5 2 JAB.toD rfl (fun i2 _=>⟨y1 a0::dd 4 (y1 a0::yi (a0.length:Int)::yi (i2:Int)::dd 25 ([])),nn 33 ([])⟩) ?_ ?_ ?_
  ·exact wk
  ·rintro _ K3 h;(conv=>whnf);refine .go ?_;(conv=>whnf);refine BO C6 ?_;exact AB wk h
  rintro next4 i2 x5 _ K3 hii2 hxi2 hwi2 h hK6;(conv=>whnf);refine .go ?_;(conv=>whnf);refine BI (Cd hii2) ?_;(conv=>whnf);refine .go ?_;refine⟨BH (f:=JAB.toD) hii2,JAB.toD x5,hxi2,rfl,?_⟩;revert h;refine AG (fun v7=>⟨y1 a0::dd 4 (y1 a0::yi (a0.length:Int)::yi (i2:Int)::dd 20 (yb v7::dd 4 ([]))),nn 33 ([])⟩) ?_ ?_
  ·intro k8 h;(conv=>whnf);refine .inl (dO ?_);obtain⟨v9,g10,h⟩:=AA h;refine⟨_,_,J4 g10,.inl rfl,?_⟩;refine sJ h ?_ ?_<;>intro h
   ·(conv=>whnf);refine cO ?_;exact AB wk h
   refine sJ h ?_ ?_<;>intro h
   ·refine⟨_,rfl,?_⟩;obtain⟨v11,g12,h⟩:=AA h;refine⟨Af (f:=JAB.toD) g12,JAB.toD v11,Ag (f:=JAB.toD) g12,rfl,?_⟩;obtain⟨v13,g14,h⟩:=AA h;refine⟨_,_,LF g14,.inl rfl,?_⟩;(conv=>whnf);refine cO ?_;exact AB wk h
   (conv=>whnf);refine cO ?_;exact AB wk h
  rintro v7 h;(conv=>whnf);refine .go ?_;refine sJ h ?_ ?_<;>intro h
  ·cases h;exact⟨rfl,rfl⟩
  refine⟨_,hwi2,?_⟩;exact hK6 _ _ wk h
 rintro _ h;refine⟨a0.length,X10 _,?_⟩;cases h;exact⟨rfl,rfl⟩
theorem TS {wl:Prop} {a0:List JAB} {a1:JAB} {r:Bool} (h:Gi a0 a1=some r):CallsOK (Wl wl) Tryz.prog 132 [AV.d (D.l 2 JAB.toD a0),AV.d (JAB.toD a1)] [] (.d (D.b r)) []:=by
 refine oK Tryz.f132 ⟨rfl,?_⟩;unfold Gi at h;refine⟨a0.length,X10 _,?_⟩;revert h;refine AG (fun _=>⟨dd 17 ([]),nn 17 ([])⟩) ?_ ?_
 ·intro k1 h;revert h;refine Aj 7 2 JAB.toD rfl (fun i2 _=>⟨X::X::X::yr 3 0::X::X::X::y1 a0::yi (a0.length:Int)::yi (i2:Int)::dd 7 ([]),N::N::N::yB (JAB.av a1)::nn 13 ([])⟩) ?_ ?_ ?_
  ·exact wk
  ·rintro _ K3 h;(conv=>whnf);refine .go ?_;(conv=>whnf);refine BO C6 ?_;exact AB wk h
  rintro next4 i2 x5 _ K3 hii2 hxi2 hwi2 h hK6;(conv=>whnf);refine .go ?_;(conv=>whnf);refine BI (Cd hii2) ?_;(conv=>whnf);refine .go ?_;refine⟨BH (f:=JAB.toD) hii2,JAB.toD x5,hxi2,rfl,?_⟩;(conv=>whnf);refine .go ?_;refine sJ h ?_ ?_<;>intro h
  ·cases h;exact⟨rfl,rfl⟩
  refine⟨_,hwi2,?_⟩;exact hK6 _ _ wk h
 rintro _ h;cases h;exact⟨rfl,rfl⟩
theorem Ta {wl:Prop} {a0:List JAB} {a1:JAB} {r:(List JAB)×Int} (h:Ij a0 a1=some r):CallsOK (Wl wl) Tryz.prog 89 [AV.d (D.l 2 JAB.toD a0),AV.d (JAB.toD a1)] [] (.tup [.d (D.l 2 JAB.toD r.1),.d (D.i r.2)]) []:=by
 refine oK Tryz.f89 ⟨rfl,?_⟩;unfold Ij at h;(conv=>whnf);refine .go ?_;revert h;refine AG (fun v1=>⟨y1 a0::X::X::yr 3 0::X::X::X::yb v1::dd 43 ([]),N::N::N::yB (JAB.av a1)::nn 47 ([])⟩) ?_ ?_
 ·intro k2 h;obtain⟨v3,g4,h⟩:=AA h;refine⟨_,_,some [],Hy g4,?_⟩;refine sJ h (fun h=>AB wk h) fun h=>?_;obtain⟨v5,g6,h⟩:=AA h;refine⟨_,_,some [],J4 g6,?_⟩;exact AB wk h
 rintro v1 h;(conv=>whnf);refine .go ?_;refine sJ h ?_ ?_<;>intro h
 ·(conv=>whnf);refine .inl ?_;refine⟨rfl,?_⟩;cases h;exact⟨rfl,rfl⟩
 obtain⟨v7,g8,h⟩:=AA h;refine⟨_,_,some [],TS g8,?_⟩;(conv=>whnf);refine .go ?_;refine sJ h ?_ ?_<;>intro h
 ·obtain⟨_,g9,h⟩:=AA h;refine⟨Ed (g:=JAB.toD) g9,?_⟩;(conv=>whnf);refine .inl ?_;refine⟨rfl,?_⟩;cases h;exact⟨rfl,rfl⟩
 refine⟨a0.length,X10 _,?_⟩;(conv=>whnf);refine .go ?_;refine sJ h ?_ ?_<;>intro h
 ·(conv=>whnf);refine .inl ?_;refine⟨rfl,?_⟩;cases h;exact⟨rfl,rfl⟩
 revert h;refine AG (fun v10=>⟨y1 a0::X::X::yr 3 0::X::X::yi v10::dd 44 ([]),N::N::N::yB (JAB.av a1)::nn 47 ([])⟩) ?_ ?_
 ·intro k11 h;revert h;refine Am (fun v12=>⟨y1 a0::X::X::yr 3 0::X::X::yi v12::dd 44 ([]),N::N::N::yB (JAB.av a1)::nn 47 ([])⟩) ?_ ?_
  ·exact wk
  rintro next13 v12 K14 h hK15;revert h;refine AG (fun v16=>⟨y1 a0::X::X::yr 3 0::X::X::yi v12::dd 30 (yb v16::dd 13 ([])),N::N::N::yB (JAB.av a1)::nn 47 ([])⟩) ?_ ?_
  ·intro k17 h;(conv=>whnf);refine .inl (dO ?_);refine⟨a0.length,X10 _,?_⟩;refine sJ h ?_ ?_<;>intro h
   ·obtain⟨v18,g19,h⟩:=AA h;refine⟨Af (f:=JAB.toD) g19,JAB.toD v18,Ag (f:=JAB.toD) g19,rfl,?_⟩;obtain⟨v20,g21,h⟩:=AA h;refine⟨_,_,LF g21,.inl rfl,?_⟩;(conv=>whnf);refine cO ?_;exact AB wk h
   (conv=>whnf);refine cO ?_;exact AB wk h
  rintro v16 h;(conv=>whnf);refine .go ?_;refine sJ h (fun h=>?_) fun h=>AB wk h;(conv=>whnf);refine .go ?_;refine⟨_,rfl,?_⟩;exact hK15 _ _ wk h
 rintro v10 h;(conv=>whnf);refine .inl (dO ?_);obtain⟨v22,g23,h⟩:=AA h;refine⟨FP (f:=JAB.toD) g23,_,EL (f:=JAB.toD) g23,?_⟩;obtain⟨_,g24,h⟩:=AA h;refine⟨Ed (g:=JAB.toD) g24,?_⟩;refine⟨rfl,?_⟩;obtain⟨v25,g26,h⟩:=AA h;refine⟨rfl,AZ (f:=JAB.toD) (g:=JAB.toD) g26,_,Ab (f:=JAB.toD) g26,?_⟩;obtain⟨v27,g28,h⟩:=AA h;refine⟨FY (f:=JAB.toD) g28,_,Fa (f:=JAB.toD) g28,?_⟩;obtain⟨v29,g30,h⟩:=AA h;refine⟨rfl,AZ (f:=JAB.toD) (g:=JAB.toD) g30,_,Ab (f:=JAB.toD) g30,?_⟩;(conv=>whnf);refine cO ?_;(conv=>whnf);refine .inl ?_;refine⟨rfl,?_⟩;cases h;exact⟨rfl,rfl⟩
theorem HM {wl:Prop} {a0:JAF} {r:Bool} (h:Bz a0=some r):CallsOK (Wl wl) Tryz.prog 129 [AV.d (JAF.toD a0)] [] (.d (D.b r)) []:=by
 refine oK Tryz.f129 ⟨rfl,?_⟩;unfold Bz at h;revert h;refine AG (fun v1=>⟨X::X::yb v1::dd 28 ([]),nn 31 ([])⟩) ?_ ?_
 ·intro k2 h;refine sJ h (fun h=>?_) fun h=>AB wk h;refine sJ h (fun h=>?_) fun h=>AB wk h;refine sJ h (fun h=>?_) fun h=>AB wk h;refine sJ h (fun h=>?_) fun h=>AB wk h;exact sJ h (fun h=>AB wk h) fun h=>AB wk h
 rintro v1 h;cases h;exact⟨rfl,rfl⟩
end Go.AX.Q19
end
section
namespace Go.AX.Q19
open Go Go.AX Go.Proofs
set_option maxRecDepth 100000
set_option maxHeartbeats 4000000
set_option linter.unusedVariables false
theorem H6 {wl:Prop} {a0:JAF} {a1:JAF} {r:Bool} (h:Bv a0 a1=some r):CallsOK (Wl wl) Tryz.prog 130 [AV.d (JAF.toD a0),AV.d (JAF.toD a1)] [] (.d (D.b r)) []:=by
 refine oK Tryz.f130 ⟨rfl,?_⟩;unfold Bv at h;revert h;refine AG (fun v1=>⟨dd 4 (yb v1::dd 33 ([])),nn 38 ([])⟩) ?_ ?_
 ·intro k2 h;refine sJ h (fun h=>AB wk h) fun h=>?_;refine sJ h (fun h=>?_) fun h=>AB wk h;refine sJ h (fun h=>AB wk h) fun h=>?_;exact sJ h (fun h=>AB wk h) fun h=>AB wk h
 rintro v1 h;cases h;exact⟨rfl,rfl⟩
theorem FR {wl:Prop} {a0:List JAF} {r:Bool} (h:CQ a0=some r):CallsOK (Wl wl) Tryz.prog 78 [AV.d (D.l 3 JAF.toD a0)] [] (.d (D.b r)) []:=by
 refine oK Tryz.f78 ⟨rfl,?_⟩;unfold CQ at h;refine⟨a0.length,X10 _,?_⟩;revert h;refine AG (fun _=>⟨y2 a0::dd 32 ([]),nn 33 ([])⟩) ?_ ?_
 ·intro k1 h;revert h;refine Aj 5 3 JAF.toD rfl (fun i2 _=>⟨y2 a0::dd 4 (y2 a0::yi (a0.length:Int)::yi (i2:Int)::dd 25 ([])),nn 33 ([])⟩) ?_ ?_ ?_
  ·exact wk
  ·rintro _ K3 h;(conv=>whnf);refine .go ?_;(conv=>whnf);refine BO C6 ?_;exact AB wk h
  rintro next4 i2 x5 _ K3 hii2 hxi2 hwi2 h hK6;(conv=>whnf);refine .go ?_;(conv=>whnf);refine BI (Cd hii2) ?_;(conv=>whnf);refine .go ?_;refine⟨BH (f:=JAF.toD) hii2,JAF.toD x5,hxi2,rfl,?_⟩;revert h;refine AG (fun v7=>⟨y2 a0::dd 4 (y2 a0::yi (a0.length:Int)::yi (i2:Int)::dd 20 (yb v7::dd 4 ([]))),nn 33 ([])⟩) ?_ ?_
  ·intro k8 h;(conv=>whnf);refine .inl (dO ?_);obtain⟨v9,g10,h⟩:=AA h;refine⟨_,_,HM g10,.inl rfl,?_⟩;refine sJ h ?_ ?_<;>intro h
   ·(conv=>whnf);refine cO ?_;exact AB wk h
   refine sJ h ?_ ?_<;>intro h
   ·refine⟨_,rfl,?_⟩;obtain⟨v11,g12,h⟩:=AA h;refine⟨Af (f:=JAF.toD) g12,JAF.toD v11,Ag (f:=JAF.toD) g12,rfl,?_⟩;obtain⟨v13,g14,h⟩:=AA h;refine⟨_,_,H6 g14,.inl rfl,?_⟩;(conv=>whnf);refine cO ?_;exact AB wk h
   (conv=>whnf);refine cO ?_;exact AB wk h
  rintro v7 h;(conv=>whnf);refine .go ?_;refine sJ h ?_ ?_<;>intro h
  ·cases h;exact⟨rfl,rfl⟩
  refine⟨_,hwi2,?_⟩;exact hK6 _ _ wk h
 rintro _ h;refine⟨a0.length,X10 _,?_⟩;cases h;exact⟨rfl,rfl⟩
theorem NW {wl:Prop} {a0:List JAF} {a1:JAF} {r:Bool} (h:DT a0 a1=some r):CallsOK (Wl wl) Tryz.prog 133 [AV.d (D.l 3 JAF.toD a0),AV.d (JAF.toD a1)] [] (.d (D.b r)) []:=by
 refine oK Tryz.f133 ⟨rfl,?_⟩;unfold DT at h;refine⟨a0.length,X10 _,?_⟩;revert h;refine AG (fun _=>⟨dd 17 ([]),nn 17 ([])⟩) ?_ ?_
 ·intro k1 h;revert h;refine Aj 7 3 JAF.toD rfl (fun i2 _=>⟨X::X::X::yr 3 0::X::X::X::y2 a0::yi (a0.length:Int)::yi (i2:Int)::dd 7 ([]),N::N::N::yB (JAF.av a1)::nn 13 ([])⟩) ?_ ?_ ?_
  ·exact wk
  ·rintro _ K3 h;(conv=>whnf);refine .go ?_;(conv=>whnf);refine BO C6 ?_;exact AB wk h
  rintro next4 i2 x5 _ K3 hii2 hxi2 hwi2 h hK6;(conv=>whnf);refine .go ?_;(conv=>whnf);refine BI (Cd hii2) ?_;(conv=>whnf);refine .go ?_;refine⟨BH (f:=JAF.toD) hii2,JAF.toD x5,hxi2,rfl,?_⟩;(conv=>whnf);refine .go ?_;refine sJ h ?_ ?_<;>intro h
  ·cases h;exact⟨rfl,rfl⟩
  refine⟨_,hwi2,?_⟩;exact hK6 _ _ wk h
 rintro _ h;cases h;exact⟨rfl,rfl⟩
theorem L2 {wl:Prop} {a0:List JAF} {a1:JAF} {r:(List JAF)×Int} (h:Es a0 a1=some r):CallsOK (Wl wl) Tryz.prog 90 [AV.d (D.l 3 JAF.toD a0),AV.d (JAF.toD a1)] [] (.tup [.d (D.l 3 JAF.toD r.1),.d (D.i r.2)]) []:=by
 refine oK Tryz.f90 ⟨rfl,?_⟩;unfold Es at h;(conv=>whnf);refine .go ?_;revert h;refine AG (fun v1=>⟨y2 a0::X::X::yr 3 0::X::X::X::yb v1::dd 43 ([]),N::N::N::yB (JAF.av a1)::nn 47 ([])⟩) ?_ ?_
 ·intro k2 h;obtain⟨v3,g4,h⟩:=AA h;refine⟨_,_,some [],FR g4,?_⟩;refine sJ h (fun h=>AB wk h) fun h=>?_;obtain⟨v5,g6,h⟩:=AA h;refine⟨_,_,some [],HM g6,?_⟩;exact AB wk h
 rintro v1 h;(conv=>whnf);refine .go ?_;refine sJ h ?_ ?_<;>intro h
 ·(conv=>whnf);refine .inl ?_;refine⟨rfl,?_⟩;cases h;exact⟨rfl,rfl⟩
 obtain⟨v7,g8,h⟩:=AA h;refine⟨_,_,some [],NW g8,?_⟩;(conv=>whnf);refine .go ?_;refine sJ h ?_ ?_<;>intro h
 ·obtain⟨_,g9,h⟩:=AA h;refine⟨Ed (g:=JAF.toD) g9,?_⟩;(conv=>whnf);refine .inl ?_;refine⟨rfl,?_⟩;cases h;exact⟨rfl,rfl⟩
 refine⟨a0.length,X10 _,?_⟩;(conv=>whnf);refine .go ?_;refine sJ h ?_ ?_<;>intro h
 ·(conv=>whnf);refine .inl ?_;refine⟨rfl,?_⟩;cases h;exact⟨rfl,rfl⟩
 revert h;refine AG (fun v10=>⟨y2 a0::X::X::yr 3 0::X::X::yi v10::dd 44 ([]),N::N::N::yB (JAF.av a1)::nn 47 ([])⟩) ?_ ?_
 ·intro k11 h;revert h;refine Am (fun v12=>⟨y2 a0::X::X::yr 3 0::X::X::yi v12::dd 44 ([]),N::N::N::yB (JAF.av a1)::nn 47 ([])⟩) ?_ ?_
  ·exact wk
  rintro next13 v12 K14 h hK15;revert h;refine AG (fun v16=>⟨y2 a0::X::X::yr 3 0::X::X::yi v12::dd 30 (yb v16::dd 13 ([])),N::N::N::yB (JAF.av a1)::nn 47 ([])⟩) ?_ ?_
  ·intro k17 h;(conv=>whnf);refine .inl (dO ?_);refine⟨a0.length,X10 _,?_⟩;refine sJ h ?_ ?_<;>intro h
   ·obtain⟨v18,g19,h⟩:=AA h;refine⟨Af (f:=JAF.toD) g19,JAF.toD v18,Ag (f:=JAF.toD) g19,rfl,?_⟩;obtain⟨v20,g21,h⟩:=AA h;refine⟨_,_,H6 g21,.inl rfl,?_⟩;(conv=>whnf);refine cO ?_;exact AB wk h
   (conv=>whnf);refine cO ?_;exact AB wk h
  rintro v16 h;(conv=>whnf);refine .go ?_;refine sJ h (fun h=>?_) fun h=>AB wk h;(conv=>whnf);refine .go ?_;refine⟨_,rfl,?_⟩;exact hK15 _ _ wk h
 rintro v10 h;(conv=>whnf);refine .inl (dO ?_);obtain⟨v22,g23,h⟩:=AA h;refine⟨FP (f:=JAF.toD) g23,_,EL (f:=JAF.toD) g23,?_⟩;obtain⟨_,g24,h⟩:=AA h;refine⟨Ed (g:=JAF.toD) g24,?_⟩;refine⟨rfl,?_⟩;obtain⟨v25,g26,h⟩:=AA h;refine⟨rfl,AZ (f:=JAF.toD) (g:=JAF.toD) g26,_,Ab (f:=JAF.toD) g26,?_⟩;obtain⟨v27,g28,h⟩:=AA h;refine⟨FY (f:=JAF.toD) g28,_,Fa (f:=JAF.toD) g28,?_⟩;obtain⟨v29,g30,h⟩:=AA h;refine⟨rfl,AZ (f:=JAF.toD) (g:=JAF.toD) g30,_,Ab (f:=JAF.toD) g30,?_⟩;(conv=>whnf);refine cO ?_;(conv=>whnf);refine .inl ?_;refine⟨rfl,?_⟩;cases h;exact⟨rfl,rfl⟩
theorem IW {wl:Prop} {a0:JAI} {r:(List JAB)×(List JAF)×JAI} (h:CN a0=some r):CallsOK (Wl wl) Tryz.prog 45 [.ref 0 0] [.box (JAI.av a0)] (.tup [.d (D.l 2 JAB.toD r.1),.d (D.l 3 JAF.toD r.2.1)]) [.box (JAI.av r.2.2)]:=by
 refine oK Tryz.f45 ⟨rfl,?_⟩;unfold CN at h;obtain⟨⟨v1,v2⟩,g3,h⟩:=AA h;refine⟨_,_,some [],AK g3,?_⟩;revert h;refine AG (fun (v4,v5)=>⟨yr 0 0::X::X::X::y1 v4::AV.own 6 (List.map JAF.toD []).length::dd 50 ([]),yB (JAI.av v5)::nn 5 (some (OB.row 141 3 (List.map JAF.toD []) .no)::nn 50 ([]))⟩) ?_ ?_
 ·intro k6 h;revert h;refine Am (fun (v7,v8,v9)=>⟨yr 0 0::X::X::X::y1 v7::AV.own 6 (List.map JAF.toD []).length::yi v8::dd 49 ([]),yB (JAI.av v9)::nn 5 (some (OB.row 141 3 (List.map JAF.toD []) .no)::nn 50 ([]))⟩) ?_ ?_
  ·exact wk
  rintro next10 ⟨v7,v8,v9⟩ K11 h hK12;(conv=>whnf);refine .go ?_;refine sJ h (fun h=>?_) fun h=>AB wk h;(conv=>whnf);refine .go ?_;(conv=>whnf);refine .inl (dO ?_);obtain⟨⟨v13,v14⟩,g15,h⟩:=AA h;refine⟨_,_,AK g15,.inl rfl,?_⟩;obtain⟨v16,g17,h⟩:=AA h;refine⟨rfl,Af (f:=D.i) g17,?_⟩;refine⟨rfl,D.i v16,(Ag (f:=D.i) g17),?_⟩;obtain⟨⟨v18,v19⟩,g20,h⟩:=AA h;refine⟨_,_,AK g20,.inl rfl,?_⟩;refine⟨_,rfl,?_⟩;obtain⟨⟨v21,v22⟩,g23,h⟩:=AA h;refine⟨_,_,AK g23,.inl rfl,?_⟩;obtain⟨v24,g25,h⟩:=AA h;refine⟨rfl,Af (f:=D.i) g25,?_⟩;refine⟨rfl,D.i v24,(Ag (f:=D.i) g25),?_⟩;obtain⟨⟨v26,v27⟩,g28,h⟩:=AA h;refine⟨_,_,Ta g28,.inl rfl,?_⟩;(conv=>whnf);refine cO ?_;refine⟨_,rfl,?_⟩;exact hK12 _ _ wk h
 rintro⟨v4,v5⟩ h;obtain⟨⟨v29,v30⟩,g31,h⟩:=AA h;refine⟨_,_,some [],AK g31,?_⟩;revert h;refine AG (fun (v32,v33)=>⟨dd 4 (y1 v4::y2 v32::dd 50 ([])),yB (JAI.av v33)::nn 56 ([])⟩) ?_ ?_
 ·intro k34 h;revert h;refine Am (fun (v35,v36,v37)=>⟨yr 0 0::X::X::X::y1 v4::y2 v35::X::yi v36::dd 48 ([]),yB (JAI.av v37)::nn 56 ([])⟩) ?_ ?_
  ·exact wk
  rintro next38 ⟨v35,v36,v37⟩ K39 h hK40;(conv=>whnf);refine .go ?_;refine sJ h (fun h=>?_) fun h=>AB wk h;(conv=>whnf);refine .go ?_;(conv=>whnf);refine .inl (dO ?_);obtain⟨⟨v41,v42⟩,g43,h⟩:=AA h;refine⟨_,_,AK g43,.inl rfl,?_⟩;obtain⟨v44,g45,h⟩:=AA h;refine⟨rfl,Af (f:=D.i) g45,?_⟩;refine⟨rfl,D.i v44,(Ag (f:=D.i) g45),?_⟩;obtain⟨⟨v46,v47⟩,g48,h⟩:=AA h;refine⟨_,_,AK g48,.inl rfl,?_⟩;obtain⟨⟨v49,v50⟩,g51,h⟩:=AA h;refine⟨_,_,AK g51,.inl rfl,?_⟩;obtain⟨⟨v52,v53⟩,g54,h⟩:=AA h;refine⟨_,_,L2 g54,.inl rfl,?_⟩;(conv=>whnf);refine cO ?_;refine⟨_,rfl,?_⟩;exact hK40 _ _ wk h
 rintro⟨v32,v33⟩ h;cases h;exact⟨rfl,rfl⟩
theorem Lp {wl:Prop} {a0:JAI} {a1:Int} {r:(List UInt8)×JAI} (h:ET a0 a1=some r):CallsOK (Wl wl) Tryz.prog 46 [.ref 0 0,AV.d (D.i a1)] [.box (JAI.av a0)] (.d (D.l 1 D.u8 r.1)) [.box (JAI.av r.2)]:=by
 refine oK Tryz.f46 ⟨rfl,?_⟩;unfold ET at h;refine⟨_,rfl,?_⟩;obtain⟨⟨v1,v2⟩,g3,h⟩:=AA h;refine⟨_,_,some [],AK g3,?_⟩;revert h;refine AG (fun (v4,v5)=>⟨dd 5 (yO 6 D.u8 v5::dd 16 ([])),yB (JAI.av v4)::nn 5 (yR 5 1 D.u8 v5::nn 16 ([]))⟩) ?_ ?_
 ·intro k6 h;revert h;refine Am (fun (v7,v8,v9)=>⟨yr 0 0::dd 4 (yO 6 D.u8 v9::yi v7::dd 15 ([])),yB (JAI.av v8)::nn 5 (yR 5 1 D.u8 v9::nn 16 ([]))⟩) ?_ ?_
  ·exact wk
  rintro next10 ⟨v7,v8,v9⟩ K11 h hK12;(conv=>whnf);refine .go ?_;refine sJ h (fun h=>?_) fun h=>AB wk h;(conv=>whnf);refine .go ?_;obtain⟨⟨v13,v14⟩,g15,h⟩:=AA h;refine⟨_,_,some [],AK g15,?_⟩;refine⟨_,Ar _,?_⟩;refine⟨rfl,?_⟩;obtain⟨v16,g17,h⟩:=AA h;refine⟨rfl,AZ (f:=D.u8) (g:=D.u8) g17,_,Ab (f:=D.u8) g17,?_⟩;refine⟨_,rfl,?_⟩;exact hK12 _ _ wk h
 rintro⟨v4,v5⟩ h;(conv=>whnf);refine .inl ?_;(conv=>whnf);refine .inl ?_;refine⟨rfl,?_⟩;cases h;exact⟨rfl,rfl⟩
theorem H5 {wl:Prop} {a0:JAI} {r:JAD×JAI} (h:Df a0=some r):CallsOK (Wl wl) Tryz.prog 15 [.ref 0 0] [.box (JAI.av a0)] (.d (JAD.toD r.1)) [.box (JAI.av r.2)]:=by
 refine okx 2 Tryz.f15 (by kernel_rfl) (by kernel_rfl) ⟨rfl,?_⟩;unfold Df at h;revert h;refine AG (fun _=>⟨yr 0 0::X::yr 3 0::dd 4 (AV.d (D.agg [D.i (-1),D.nil 2,D.b false,D.u64 (0:UInt64),D.u64 (0:UInt64),D.i (-1),D.i (-1),D.i (-1),D.nil 2,D.nil 3,D.nil 3])::dd 62 ([])),yB (JAI.av a0)::N::N::yB JAD.zv::nn 69 ([])⟩) ?_ ?_
 ·intro k1 h;(conv=>whnf);refine inl Tryz.f17 71 (by kernel_rfl) (by kernel_rfl) ⟨rfl,?_⟩;exact AB wk h
 rintro _ h;obtain⟨⟨v2,v3⟩,g4,h⟩:=AA h;refine⟨_,_,some [],AK g4,?_⟩;refine⟨_,rfl,?_⟩;obtain⟨⟨v5,v6⟩,g7,h⟩:=AA h;refine⟨_,_,some [],Me g7,?_⟩;obtain⟨v8,g9,h⟩:=AA h;refine⟨_,_,some [],MA g9,?_⟩;obtain⟨v10,g11,h⟩:=AA h;refine⟨_,_,some [],O9 g11,?_⟩;obtain⟨⟨v12,v13⟩,g14,h⟩:=AA h;refine⟨_,_,some [],AK g14,?_⟩;obtain⟨v15,g16,h⟩:=AA h;refine⟨rfl,Af (f:=Addr.toD) g16,?_⟩;refine⟨rfl,Addr.toD v15,(Ag (f:=Addr.toD) g16),?_⟩;(conv=>whnf);refine .inl (dO ?_);obtain⟨⟨v17,v18⟩,g19,h⟩:=AA h;refine⟨_,_,AK g19,.inl rfl,?_⟩;obtain⟨v20,g21,h⟩:=AA h;refine⟨rfl,Af (f:=D.i) g21,?_⟩;refine⟨rfl,D.i v20,(Ag (f:=D.i) g21),?_⟩;obtain⟨⟨v22,v23⟩,g24,h⟩:=AA h;refine⟨_,_,AK g24,.inl rfl,?_⟩;obtain⟨v25,g26,h⟩:=AA h;refine⟨rfl,Af (f:=D.i) g26,?_⟩;refine⟨rfl,D.i v25,(Ag (f:=D.i) g26),?_⟩;(conv=>whnf);refine cO ?_;obtain⟨⟨v27,v28⟩,g29,h⟩:=AA h;refine⟨_,_,some [],AK g29,?_⟩;obtain⟨v30,g31,h⟩:=AA h;refine⟨rfl,Af (f:=D.i) g31,?_⟩;refine⟨rfl,D.i v30,(Ag (f:=D.i) g31),?_⟩;obtain⟨⟨v32,v33,v34⟩,g35,h⟩:=AA h;refine⟨_,_,some [],IW g35,?_⟩;refine⟨([6,7,16,34,200,255]:List Int).length,by first | exact X10 _ | rfl | (simp only[X10];omega),?_⟩;revert h;refine AG (fun (v36,v37)=>⟨X::X::yr 3 0::yr 4 0::dd 66 ([]),yB (JAI.av v36)::N::N::yB JAD.zv::yB [yi (AN (v2 - 1)),y0 v5,AV.d (D.b v15.V6),AV.d (D.u64 v15.Hi),AV.d (D.u64 v15.Lo),yi v20,yi v25,yi v30,y1 v32,y2 v33,yO 67 JAA.toD v37]::nn 62 (yR 88 3 JAA.toD v37::nn 5 ([]))⟩) ?_ ?_
 ·intro k38 h;revert h;refine MO 51 3 1 .no D.i rfl (fun i39 (v40,v41)=>⟨yr 0 0::X::yr 3 0::yr 4 0::dd 46 (yO 51 D.i ([6,7,16,34,200,255]:List Int)::yi (([6,7,16,34,200,255]:List Int).length:Int)::yi (i39:Int)::dd 17 ([])),yB (JAI.av v40)::N::N::yB JAD.zv::yB [yi (AN (v2 - 1)),y0 v5,AV.d (D.b v15.V6),AV.d (D.u64 v15.Hi),AV.d (D.u64 v15.Lo),yi v20,yi v25,yi v30,y1 v32,y2 v33,yO 67 JAA.toD v41]::nn 46 (yR 3 1 D.i ([6,7,16,34,200,255]:List Int)::nn 15 (yR 88 3 JAA.toD v41::nn 5 ([])))⟩) ?_ ?_ ?_
  ·exact wk
  ·rintro⟨v40,v41⟩ K42 h;(conv=>whnf);refine .go ?_;exact AB wk h
  rintro next43 i39 x44 ⟨v40,v41⟩ K42 hii39 hxi39 hwi39 h hK45;(conv=>whnf);refine .go ?_;(conv=>whnf);refine BI (Cd hii39) ?_;(conv=>whnf);refine .go ?_;refine⟨rfl,BH (f:=D.i) hii39,?_⟩;refine⟨rfl,D.i x44,hxi39,?_⟩;obtain⟨⟨v46,v47⟩,g48,h⟩:=AA h;refine⟨_,_,some [],AK g48,?_⟩;revert h;refine AG (fun (v49,v50)=>⟨yr 0 0::X::yr 3 0::yr 4 0::dd 46 (yO 51 D.i ([6,7,16,34,200,255]:List Int)::yi (([6,7,16,34,200,255]:List Int).length:Int)::yi (i39:Int)::dd 17 ([])),yB (JAI.av v49)::N::N::yB JAD.zv::yB [yi (AN (v2 - 1)),y0 v5,AV.d (D.b v15.V6),AV.d (D.u64 v15.Hi),AV.d (D.u64 v15.Lo),yi v20,yi v25,yi v30,y1 v32,y2 v33,yO 67 JAA.toD v50]::nn 46 (yR 3 1 D.i ([6,7,16,34,200,255]:List Int)::nn 15 (yR 88 3 JAA.toD v50::nn 5 ([])))⟩) ?_ ?_
  ·intro k51 h;refine sJ h (fun h=>?_) fun h=>AB wk h;(conv=>whnf);refine .inl (dO ?_);obtain⟨⟨v52,v53⟩,g54,h⟩:=AA h;refine⟨_,_,Lp g54,.inl rfl,?_⟩;refine⟨rfl,?_⟩;obtain⟨v55,g56,h⟩:=AA h;refine⟨rfl,AZ (f:=JAA.toD) (g:=JAA.toD) g56,_,Ab (f:=JAA.toD) g56,?_⟩;(conv=>whnf);refine cO ?_;exact AB wk h
  rintro⟨v49,v50⟩ h;refine⟨_,hwi39,?_⟩;exact hK45 _ _ wk h
 rintro⟨v36,v37⟩ h;(conv=>whnf);refine .inl ?_;refine⟨rfl,?_⟩;cases h;exact⟨rfl,rfl⟩
theorem MC {wl:Prop} {a0:JAI} {r:Addr×JAI} (h:E2 a0=some r):CallsOK (Wl wl) Tryz.prog 47 [.ref 0 0] [.box (JAI.av a0)] (.d (Addr.toD r.1)) [.box (JAI.av r.2)]:=by
 refine oK Tryz.f47 ⟨rfl,?_⟩;unfold E2 at h;obtain⟨⟨v1,v2⟩,g3,h⟩:=AA h;refine⟨_,_,some [],AK g3,?_⟩;(conv=>whnf);refine .go ?_;(conv=>whnf);refine .go ?_;refine sJ h ?_ ?_<;>intro h
 ·obtain⟨⟨v4,v5⟩,g6,h⟩:=AA h;refine⟨_,_,some [],AK g6,?_⟩;refine⟨by decide,_,rfl,?_⟩;refine⟨_,rfl,?_⟩;obtain⟨⟨v7,v8⟩,g9,h⟩:=AA h;refine⟨_,_,some [],AK g9,?_⟩;refine⟨_,rfl,?_⟩;refine⟨_,Aq _,?_⟩;cases h;exact⟨rfl,rfl⟩
 (conv=>whnf);refine .go ?_;refine sJ h ?_ ?_<;>intro h
 ·obtain⟨⟨v10,v11⟩,g12,h⟩:=AA h;refine⟨_,_,some [],AK g12,?_⟩;refine⟨_,Aq _,?_⟩;refine⟨_,Aq _,?_⟩;obtain⟨⟨v13,v14⟩,g15,h⟩:=AA h;refine⟨_,_,some [],AK g15,?_⟩;refine⟨_,Aq _,?_⟩;cases h;exact⟨rfl,rfl⟩
 (conv=>whnf);refine .go ?_;refine sJ h ?_ ?_<;>intro h
 ·obtain⟨⟨v16,v17⟩,g18,h⟩:=AA h;refine⟨_,_,some [],AK g18,?_⟩;obtain⟨v19,g20,h⟩:=AA h;refine⟨rfl,Af (f:=D.u64) g20,?_⟩;refine⟨rfl,D.u64 v19,(Ag (f:=D.u64) g20),?_⟩;cases h;exact⟨rfl,rfl⟩
 (conv=>whnf);refine .go ?_;refine sJ h ?_ ?_<;>intro h
 ·(conv=>whnf);refine .inl (dO ?_);obtain⟨⟨v21,v22⟩,g23,h⟩:=AA h;refine⟨_,_,AK g23,.inl rfl,?_⟩;obtain⟨v24,g25,h⟩:=AA h;refine⟨rfl,Af (f:=D.u64) g25,?_⟩;refine⟨rfl,D.u64 v24,(Ag (f:=D.u64) g25),?_⟩;obtain⟨⟨v26,v27⟩,g28,h⟩:=AA h;refine⟨_,_,AK g28,.inl rfl,?_⟩;obtain⟨v29,g30,h⟩:=AA h;refine⟨rfl,Af (f:=D.u64) g30,?_⟩;refine⟨rfl,D.u64 v29,(Ag (f:=D.u64) g30),?_⟩;(conv=>whnf);refine cO ?_;cases h;exact⟨rfl,rfl⟩
 (conv=>whnf);refine .go ?_;refine sJ h ?_ ?_<;>intro h
 ·obtain⟨⟨v31,v32⟩,g33,h⟩:=AA h;refine⟨_,_,some [],AK g33,?_⟩;refine⟨_,Aq _,?_⟩;obtain⟨⟨v34,v35⟩,g36,h⟩:=AA h;refine⟨_,_,some [],AK g36,?_⟩;refine⟨_,rfl,?_⟩;refine⟨_,Aq _,?_⟩;refine⟨Int.natCast_nonneg _,_,Aq _,?_⟩;obtain⟨⟨v37,v38⟩,g39,h⟩:=AA h;refine⟨_,_,some [],AK g39,?_⟩;refine⟨_,Aq _,?_⟩;obtain⟨⟨v40,v41⟩,g42,h⟩:=AA h;refine⟨_,_,some [],AK g42,?_⟩;refine⟨_,rfl,?_⟩;refine⟨_,Aq _,?_⟩;refine⟨Int.natCast_nonneg _,_,Aq _,?_⟩;cases h;exact⟨rfl,rfl⟩
 obtain⟨⟨v43,v44⟩,g45,h⟩:=AA h;refine⟨_,_,some [],AK g45,?_⟩;refine⟨_,Aq _,?_⟩;cases h;exact⟨rfl,rfl⟩
theorem Hk {wl:Prop} {a0:Addr} {r:Bool} (h:Dj a0=some r):CallsOK (Wl wl) Tryz.prog 76 [AV.d (Addr.toD a0)] [] (.d (D.b r)) []:=by
 refine oK Tryz.f76 ⟨rfl,?_⟩;unfold Dj at h;revert h;refine AG (fun v1=>⟨X::X::yb v1::dd 12 ([]),nn 15 ([])⟩) ?_ ?_
 ·intro k2 h;refine sJ h (fun h=>AB wk h) fun h=>?_;exact sJ h (fun h=>AB wk h) fun h=>AB wk h
 rintro v1 h;cases h;exact⟨rfl,rfl⟩
theorem Q6 {wl:Prop} {a0:Addr} {r:Int} (h:Dp a0=some r):CallsOK (Wl wl) Tryz.prog 91 [AV.d (Addr.toD a0)] [] (.d (D.i r)) []:=by
 refine oK Tryz.f91 ⟨rfl,?_⟩;unfold Dp at h;(conv=>whnf);refine .go ?_;refine sJ h ?_ ?_<;>intro h
 ·cases h;exact⟨rfl,rfl⟩
 cases h;exact⟨rfl,rfl⟩
theorem GN {wl:Prop} {a0:Addr} {r:(List UInt8)} (h:Bd a0=some r):CallsOK (Wl wl) Tryz.prog 92 [AV.d (Addr.toD a0)] [] (AV.own 0 (List.map D.u8 r).length) [.row 5 1 (List.map D.u8 r) .no]:=by
 refine oK Tryz.f92 ⟨rfl,?_⟩;unfold Bd at h;obtain⟨v1,g2,h⟩:=AA h;refine⟨_,_,some [],Hk g2,?_⟩;(conv=>whnf);refine .go ?_;refine sJ h ?_ ?_<;>intro h
 ·(conv=>whnf);refine .inr ⟨X29 rfl,5,?_⟩;cases h;exact⟨rfl,rfl⟩
 revert h;refine AG (fun v3=>⟨X::yr 1 0::X::yi v3::dd 31 ([]),N::yB (Addr.av a0)::nn 33 ([])⟩) ?_ ?_
 ·intro k4 h;exact sJ h (fun h=>AB wk h) fun h=>AB wk h
 rintro v3 h;refine⟨_,rfl,?_⟩;revert h;refine AG (fun v5=>⟨dd 4 (yO 4 D.u8 v5::dd 30 ([])),nn 4 (yR 5 1 D.u8 v5::nn 30 ([]))⟩) ?_ ?_
 ·intro k6 h;revert h;refine Am (fun (v7,v8)=>⟨X::yr 1 0::X::X::yO 4 D.u8 v8::yi v7::dd 29 ([]),N::yB (Addr.av a0)::N::N::yR 5 1 D.u8 v8::nn 30 ([])⟩) ?_ ?_
  ·exact wk
  rintro next9 ⟨v7,v8⟩ K10 h hK11;(conv=>whnf);refine .go ?_;refine sJ h (fun h=>?_) fun h=>AB wk h;(conv=>whnf);refine .go ?_;revert h;refine AG (fun v12=>⟨X::yr 1 0::X::X::yO 4 D.u8 v8::yi v7::yu v12::dd 28 ([]),N::yB (Addr.av a0)::N::N::yR 5 1 D.u8 v8::nn 30 ([])⟩) ?_ ?_
  ·intro k13 h;exact sJ h (fun h=>AB wk h) fun h=>AB wk h
  rintro v12 h;refine⟨by decide,_,rfl,?_⟩;refine⟨_,Aq _,?_⟩;refine⟨_,Aq _,?_⟩;refine⟨Int.natCast_nonneg _,_,NG v12 _,?_⟩;refine⟨_,Ar _,?_⟩;refine⟨rfl,?_⟩;obtain⟨v14,g15,h⟩:=AA h;refine⟨rfl,AZ (f:=D.u8) (g:=D.u8) g15,_,Ab (f:=D.u8) g15,?_⟩;refine⟨_,rfl,?_⟩;exact hK11 _ _ wk h
 rintro v5 h;(conv=>whnf);refine .inl ?_;(conv=>whnf);refine .inr ?_;cases h;exact⟨rfl,rfl⟩
theorem LZ {wl:Prop} {a0:List UInt8} {r:Addr×Int} (h:CE a0=some r):CallsOK (Wl wl) Tryz.prog 93 [AV.d (D.l 1 D.u8 a0)] [] (.tup [.d (Addr.toD r.1),.d (D.i r.2)]) []:=by
 refine oK Tryz.f93 ⟨rfl,?_⟩;unfold CE at h;revert h;refine AG (fun v1=>⟨y3 a0::X::yr 2 0::dd 11 (yb v1::dd 28 ([])),N::N::yB Addr.zv::nn 40 ([])⟩) ?_ ?_
 ·intro k2 h;refine⟨a0.length,X10 _,?_⟩;refine sJ h (fun h=>?_) fun h=>AB wk h;refine⟨a0.length,X10 _,?_⟩;exact AB wk h
 rintro v1 h;(conv=>whnf);refine .go ?_;refine sJ h ?_ ?_<;>intro h
 ·cases h;exact⟨rfl,rfl⟩
 refine⟨a0.length,X10 _,?_⟩;refine⟨a0.length,X10 _,?_⟩;revert h;refine AG (fun v3=>⟨X::X::yr 2 0::X::yr 4 0::dd 38 ([]),N::N::yB Addr.zv::N::yB (Addr.av v3)::nn 38 ([])⟩) ?_ ?_
 ·intro k4 h;revert h;refine Aj 20 1 D.u8 rfl (fun i5 v6=>⟨X::X::yr 2 0::X::yr 4 0::dd 15 (y3 a0::yi (a0.length:Int)::yi (i5:Int)::dd 20 ([])),N::N::yB Addr.zv::N::yB (Addr.av v6)::nn 38 ([])⟩) ?_ ?_ ?_
  ·exact wk
  ·rintro v6 K7 h;(conv=>whnf);refine .go ?_;(conv=>whnf);refine BO C6 ?_;exact AB wk h
  rintro next8 i5 x9 v6 K7 hii5 hxi5 hwi5 h hK10;(conv=>whnf);refine .go ?_;(conv=>whnf);refine BI (Cd hii5) ?_;(conv=>whnf);refine .go ?_;refine⟨BH (f:=D.u8) hii5,D.u8 x9,hxi5,rfl,?_⟩;refine⟨by decide,_,Aq _,?_⟩;refine⟨by decide,_,NG v6.Lo _,?_⟩;refine⟨_,Aq _,?_⟩;refine⟨by decide,_,Aq _,?_⟩;refine⟨_,Aq _,?_⟩;refine⟨_,Aq _,?_⟩;refine⟨_,hwi5,?_⟩;exact hK10 _ _ wk h
 rintro v3 h;cases h;exact⟨rfl,rfl⟩
theorem LJ {wl:Prop} {a0:Addr} {a1:Int} {r:JAE×Int} (h:Dv a0 a1=some r):CallsOK (Wl wl) Tryz.prog 48 [AV.d (Addr.toD a0),AV.d (D.i a1)] [] (.tup [.d (JAE.toD r.1),.d (D.i r.2)]) []:=by
 refine oK Tryz.f48 ⟨rfl,?_⟩;unfold Dv at h;(conv=>whnf);refine .go ?_;obtain⟨v1,g2,h⟩:=AA h;refine⟨_,_,some [],Hk g2,?_⟩;(conv=>whnf);refine .go ?_;refine sJ h ?_ ?_<;>intro h
 ·cases h;exact⟨rfl,rfl⟩
 revert h;refine AG (fun v3=>⟨X::yi a1::yr 2 0::X::yr 4 0::dd 10 (yb v3::dd 38 ([])),N::N::yB (Addr.av a0)::N::yB JAE.zv::nn 49 ([])⟩) ?_ ?_
 ·intro k4 h;refine sJ h (fun h=>AB wk h) fun h=>?_;obtain⟨v5,g6,h⟩:=AA h;refine⟨_,_,some [],Q6 g6,?_⟩;exact AB wk h
 rintro v3 h;(conv=>whnf);refine .go ?_;refine sJ h ?_ ?_<;>intro h
 ·cases h;exact⟨rfl,rfl⟩
 obtain⟨v7,g8,h⟩:=AA h;refine⟨_,_,some [26],GN g8,?_⟩;revert h;refine AG (fun v9=>⟨X::yi a1::X::X::yr 4 0::X::yO 26 D.u8 v9::dd 47 ([]),nn 4 (yB JAE.zv::nn 21 (yR 5 1 D.u8 v9::nn 27 ([])))⟩) ?_ ?_
 ·intro k10 h;revert h;refine Am (fun (v11,v12)=>⟨X::yi a1::X::X::yr 4 0::X::yO 26 D.u8 v12::yi v11::dd 46 ([]),nn 4 (yB JAE.zv::nn 21 (yR 5 1 D.u8 v12::nn 27 ([])))⟩) ?_ ?_
  ·exact wk
  rintro next13 ⟨v11,v12⟩ K14 h hK15;refine⟨v12.length,by first | exact X10 _ | rfl | (simp only[X10];omega),?_⟩;refine⟨_,rfl,?_⟩;(conv=>whnf);refine .go ?_;refine sJ h (fun h=>?_) fun h=>AB wk h;(conv=>whnf);refine .go ?_;refine⟨by decide,_,rfl,?_⟩;obtain⟨v16,g17,h⟩:=AA h;refine⟨rfl,Af (f:=D.u8) g17,?_⟩;refine⟨rfl,D.u8 v16,(Ag (f:=D.u8) g17),?_⟩;refine⟨by decide,_,rfl,?_⟩;refine⟨_,Aq _,?_⟩;refine⟨Int.natCast_nonneg _,_,cg (128:UInt8) _,?_⟩;refine⟨_,Ar _,?_⟩;obtain⟨v18,g19,h⟩:=AA h;refine⟨rfl,Af (f:=D.u8) g19,?_⟩;obtain⟨v20,g21,h⟩:=AA h;have g21l:=Ig g21;refine⟨rfl,rfl,D.u8 v18,(Ag (f:=D.u8) g19),?_⟩;refine⟨_,Nn (f:=D.u8) g21,?_⟩;refine⟨_,rfl,?_⟩;exact hK15 _ _ wk h
 rintro v9 h;refine⟨rfl,?_⟩;obtain⟨⟨v22,v23⟩,g24,h⟩:=AA h;refine⟨_,_,none,LZ g24,?_⟩;cases h;exact⟨rfl,rfl⟩
end Go.AX.Q19
end
section
namespace Go.AX.Q19
open Go Go.AX Go.Proofs
set_option maxRecDepth 100000
set_option maxHeartbeats 4000000
set_option linter.unusedVariables false
theorem D3 {wl:Prop} {a0:JAI} {r:JAE×JAI} (h:By a0=some r):CallsOK (Wl wl) Tryz.prog 16 [.ref 0 0] [.box (JAI.av a0)] (.d (JAE.toD r.1)) [.box (JAI.av r.2)]:=by
 refine oK Tryz.f16 ⟨rfl,?_⟩;unfold By at h;obtain⟨⟨v1,v2⟩,g3,h⟩:=AA h;refine⟨_,_,some [],MC g3,?_⟩;revert h;refine AG (fun v4=>⟨yr 0 0::X::yr 3 0::yr 4 0::yi v4::dd 34 ([]),yB (JAI.av v2)::N::N::yB JAE.zv::yB (Addr.av v1)::nn 35 ([])⟩) ?_ ?_
 ·intro k5 h;exact sJ h (fun h=>AB wk h) fun h=>AB wk h
 rintro v4 h;obtain⟨⟨v6,v7⟩,g8,h⟩:=AA h;refine⟨_,_,some [],AK g8,?_⟩;(conv=>whnf);refine .go ?_;revert h;refine AG (fun (v9,v10)=>⟨X::X::yr 3 0::yr 4 0::yi v9::dd 34 ([]),yB (JAI.av v10)::N::N::yB JAE.zv::yB (Addr.av v1)::nn 35 ([])⟩) ?_ ?_
 ·intro k11 h;refine sJ h ?_ ?_<;>intro h
  ·refine⟨_,rfl,?_⟩;obtain⟨⟨v12,v13⟩,g14,h⟩:=AA h;refine⟨_,_,some [],AK g14,?_⟩;exact AB wk h
  revert h;refine AG (fun (v15,v16)=>⟨X::X::yr 3 0::yr 4 0::yi v15::dd 34 ([]),yB (JAI.av v16)::N::N::yB JAE.zv::yB (Addr.av v1)::nn 35 ([])⟩) ?_ ?_
  ·intro k17 h;refine sJ h ?_ ?_<;>intro h
   ·obtain⟨⟨v18,v19⟩,g20,h⟩:=AA h;refine⟨_,_,some [],AK g20,?_⟩;refine⟨_,rfl,?_⟩;exact AB wk h
   revert h;refine AG (fun (v21,v22)=>⟨X::X::yr 3 0::yr 4 0::yi v21::dd 34 ([]),yB (JAI.av v22)::N::N::yB JAE.zv::yB (Addr.av v1)::nn 35 ([])⟩) ?_ ?_
   ·intro k23 h;refine sJ h (fun h=>?_) fun h=>AB wk h;obtain⟨⟨v24,v25⟩,g26,h⟩:=AA h;refine⟨_,_,some [],AK g26,?_⟩;obtain⟨v27,g28,h⟩:=AA h;refine⟨rfl,Af (f:=D.i) g28,?_⟩;refine⟨rfl,D.i v27,(Ag (f:=D.i) g28),?_⟩;exact AB wk h
   rintro⟨v21,v22⟩ h;exact AB wk h
  rintro⟨v15,v16⟩ h;exact AB wk h
 rintro⟨v9,v10⟩ h;obtain⟨⟨v29,v30⟩,g31,h⟩:=AA h;refine⟨_,_,some [],LJ g31,?_⟩;cases h;exact⟨rfl,rfl⟩
theorem Qk {wl:Prop} {a0:JAE} {r:Bool} (h:Dm a0=some r):CallsOK (Wl wl) Tryz.prog 34 [AV.d (JAE.toD a0)] [] (.d (D.b r)) []:=by
 refine oK Tryz.f34 ⟨rfl,?_⟩;unfold Dm at h;obtain⟨⟨v1,v2⟩,g3,h⟩:=AA h;refine⟨_,_,some [],LJ g3,?_⟩;revert h;refine AG (fun v4=>⟨X::X::yb v4::dd 17 ([]),nn 20 ([])⟩) ?_ ?_
 ·intro k5 h;exact sJ h (fun h=>AB wk h) fun h=>AB wk h
 rintro v4 h;cases h;exact⟨rfl,rfl⟩
theorem KI {wl:Prop} {a0:Int} {r:Int} (h:BX a0=some r):CallsOK (Wl wl) Tryz.prog 107 [AV.d (D.i a0)] [] (.d (D.i r)) []:=by
 refine oK Tryz.f107 ⟨rfl,?_⟩;unfold BX at h;(conv=>whnf);refine .go ?_;revert h;refine AG (fun v1=>⟨X::X::X::yi a0::yb v1::dd 10 ([]),nn 15 ([])⟩) ?_ ?_
 ·intro k2 h;refine sJ h (fun h=>AB wk h) fun h=>?_;revert h;refine AG (fun v3=>⟨X::X::X::yi a0::yb v3::dd 10 ([]),nn 15 ([])⟩) ?_ ?_
  ·intro k4 h;refine sJ h (fun h=>AB wk h) fun h=>?_;revert h;refine AG (fun v5=>⟨X::X::X::yi a0::yb v5::dd 10 ([]),nn 15 ([])⟩) ?_ ?_
   ·intro k6 h;exact sJ h (fun h=>AB wk h) fun h=>AB wk h
   rintro v5 h;exact AB wk h
  rintro v3 h;exact AB wk h
 rintro v1 h;(conv=>whnf);refine .go ?_;refine sJ h ?_ ?_<;>intro h
 ·cases h;exact⟨rfl,rfl⟩
 (conv=>whnf);refine .go ?_;refine sJ h ?_ ?_<;>intro h
 ·cases h;exact⟨rfl,rfl⟩
 revert h;refine AG (fun v7=>⟨dd 11 (yb v7::X::X::X::[]),nn 15 ([])⟩) ?_ ?_
 ·intro k8 h;refine sJ h (fun h=>AB wk h) fun h=>?_;revert h;refine AG (fun v9=>⟨dd 11 (yb v9::X::X::X::[]),nn 15 ([])⟩) ?_ ?_
  ·intro k10 h;exact sJ h (fun h=>AB wk h) fun h=>AB wk h
  rintro v9 h;exact AB wk h
 rintro v7 h;(conv=>whnf);refine .go ?_;refine sJ h ?_ ?_<;>intro h
 ·cases h;exact⟨rfl,rfl⟩
 cases h;exact⟨rfl,rfl⟩
theorem Nq {wl:Prop} {a0:Int} {r:Bool} (h:DD a0=some r):CallsOK (Wl wl) Tryz.prog 74 [AV.d (D.i a0)] [] (.d (D.b r)) []:=by
 refine oK Tryz.f74 ⟨rfl,?_⟩;unfold DD at h;revert h;refine AG (fun v1=>⟨X::X::yb v1::dd 11 ([]),nn 14 ([])⟩) ?_ ?_
 ·intro k2 h;obtain⟨v3,g4,h⟩:=AA h;refine⟨_,_,some [],KI g4,?_⟩;refine sJ h (fun h=>?_) fun h=>AB wk h;exact sJ h (fun h=>AB wk h) fun h=>AB wk h
 rintro v1 h;cases h;exact⟨rfl,rfl⟩
theorem KP {wl:Prop} {a0:JAD} {r:Bool} (h:F2 a0=some r):CallsOK (Wl wl) Tryz.prog 35 [AV.d (JAD.toD a0)] [] (.d (D.b r)) []:=by
 refine oK Tryz.f35 ⟨rfl,?_⟩;unfold F2 at h;refine⟨a0.Other.length,X10 _,?_⟩;revert h;refine AG (fun _=>⟨X::yr 1 0::dd 122 ([]),N::yB (JAD.av a0)::nn 122 ([])⟩) ?_ ?_
 ·intro k1 h;revert h;refine Aj 6 3 JAA.toD rfl (fun i2 _=>⟨X::yr 1 0::dd 4 (AV.d (D.l 3 JAA.toD a0.Other)::yi (a0.Other.length:Int)::yi (i2:Int)::dd 115 ([])),N::yB (JAD.av a0)::nn 122 ([])⟩) ?_ ?_ ?_
  ·exact wk
  ·rintro _ K3 h;(conv=>whnf);refine .go ?_;(conv=>whnf);refine BO C6 ?_;exact AB wk h
  rintro next4 i2 x5 _ K3 hii2 hxi2 hwi2 h hK6;(conv=>whnf);refine .go ?_;(conv=>whnf);refine BI (Cd hii2) ?_;(conv=>whnf);refine .go ?_;refine⟨BH (f:=JAA.toD) hii2,JAA.toD x5,hxi2,rfl,?_⟩;revert h;refine AG (fun v7=>⟨X::yr 1 0::dd 4 (AV.d (D.l 3 JAA.toD a0.Other)::yi (a0.Other.length:Int)::yi (i2:Int)::dd 44 (yb v7::dd 70 ([]))),N::yB (JAD.av a0)::nn 122 ([])⟩) ?_ ?_
  ·intro k8 h;(conv=>whnf);refine .inl (dO ?_);refine sJ h ?_ ?_<;>intro h
   ·(conv=>whnf);refine cO ?_;exact AB wk h
   refine sJ h ?_ ?_<;>intro h
   ·(conv=>whnf);refine cO ?_;exact AB wk h
   obtain⟨v9,g10,h⟩:=AA h;refine⟨_,_,Nq g10,.inl rfl,?_⟩;refine sJ h ?_ ?_<;>intro h
   ·(conv=>whnf);refine cO ?_;exact AB wk h
   refine sJ h ?_ ?_<;>intro h
   ·(conv=>whnf);refine cO ?_;exact AB wk h
   refine⟨x5.Data.length,X10 _,?_⟩;refine sJ h ?_ ?_<;>intro h
   ·(conv=>whnf);refine cO ?_;exact AB wk h
   refine sJ h ?_ ?_<;>intro h
   ·refine⟨_,rfl,?_⟩;obtain⟨v11,g12,h⟩:=AA h;refine⟨Af (f:=JAA.toD) g12,JAA.toD v11,Ag (f:=JAA.toD) g12,rfl,?_⟩;(conv=>whnf);refine cO ?_;exact AB wk h
   (conv=>whnf);refine cO ?_;exact AB wk h
  rintro v7 h;(conv=>whnf);refine .go ?_;refine sJ h ?_ ?_<;>intro h
  ·cases h;exact⟨rfl,rfl⟩
  refine⟨_,hwi2,?_⟩;exact hK6 _ _ wk h
 rintro _ h;revert h;refine AG (fun v13=>⟨X::X::yb v13::dd 121 ([]),nn 124 ([])⟩) ?_ ?_
 ·intro k14 h;refine sJ h (fun h=>?_) fun h=>AB wk h;refine sJ h (fun h=>?_) fun h=>AB wk h;obtain⟨v15,g16,h⟩:=AA h;refine⟨_,_,some [],KN g16,?_⟩;refine sJ h (fun h=>?_) fun h=>AB wk h;obtain⟨v17,g18,h⟩:=AA h;refine⟨_,_,some [],Hk g18,?_⟩;refine sJ h (fun h=>?_) fun h=>AB wk h;refine sJ h (fun h=>?_) fun h=>AB wk h;refine sJ h (fun h=>?_) fun h=>AB wk h;refine sJ h (fun h=>?_) fun h=>AB wk h;refine sJ h (fun h=>?_) fun h=>AB wk h;refine sJ h ?_ ?_<;>intro h
  ·obtain⟨v19,g20,h⟩:=AA h;refine⟨_,_,some [],Hy g20,?_⟩;refine sJ h (fun h=>?_) fun h=>AB wk h;obtain⟨v21,g22,h⟩:=AA h;refine⟨_,_,some [],FR g22,?_⟩;refine sJ h (fun h=>?_) fun h=>AB wk h;refine⟨a0.Other.length,X10 _,?_⟩;exact AB wk h
  refine sJ h (fun h=>?_) fun h=>AB wk h;refine sJ h (fun h=>?_) fun h=>AB wk h;obtain⟨v23,g24,h⟩:=AA h;refine⟨_,_,some [],Hy g24,?_⟩;refine sJ h (fun h=>?_) fun h=>AB wk h;obtain⟨v25,g26,h⟩:=AA h;refine⟨_,_,some [],FR g26,?_⟩;refine sJ h (fun h=>?_) fun h=>AB wk h;refine⟨a0.Other.length,X10 _,?_⟩;exact AB wk h
 rintro v13 h;cases h;exact⟨rfl,rfl⟩
theorem RI {wl:Prop} {a0:List JAC} {a1:List JAC} {r:Bool} (h:EM a0 a1=some r):CallsOK (Wl wl) Tryz.prog 79 [AV.d (D.l 2 JAC.toD a0),AV.d (D.l 2 JAC.toD a1)] [] (.d (D.b r)) []:=by
 refine oK Tryz.f79 ⟨rfl,?_⟩;unfold EM at h;refine⟨a0.length,X10 _,?_⟩;refine⟨a1.length,X10 _,?_⟩;(conv=>whnf);refine .go ?_;refine sJ h ?_ ?_<;>intro h
 ·cases h;exact⟨rfl,rfl⟩
 refine⟨a0.length,X10 _,?_⟩;revert h;refine AG (fun _=>⟨dd 61 ([]),nn 61 ([])⟩) ?_ ?_
 ·intro k1 h;revert h;refine Aj 14 2 JAC.toD rfl (fun i2 _=>⟨X::y0 a1::dd 12 (y0 a0::yi (a0.length:Int)::yi (i2:Int)::dd 44 ([])),nn 61 ([])⟩) ?_ ?_ ?_
  ·exact wk
  ·rintro _ K3 h;(conv=>whnf);refine .go ?_;(conv=>whnf);refine BO C6 ?_;exact AB wk h
  rintro next4 i2 x5 _ K3 hii2 hxi2 hwi2 h hK6;(conv=>whnf);refine .go ?_;(conv=>whnf);refine BI (Cd hii2) ?_;revert h;refine AG (fun _=>⟨X::y0 a1::dd 12 (y0 a0::yi (a0.length:Int)::yi (i2:Int)::dd 44 ([])),nn 61 ([])⟩) ?_ ?_
  ·intro k7 h;refine⟨BH (f:=JAC.toD) hii2,JAC.toD x5,hxi2,rfl,?_⟩;revert h;refine AG (fun v8=>⟨X::y0 a1::X::X::X::yi (i2:Int)::yr 6 0::dd 7 (y0 a0::yi (a0.length:Int)::yi (i2:Int)::dd 23 (yb v8::dd 20 ([]))),nn 6 (yB (JAC.av x5)::nn 54 ([]))⟩) ?_ ?_
   ·intro k9 h;(conv=>whnf);refine .inl (dO ?_);obtain⟨v10,g11,h⟩:=AA h;refine⟨Af (f:=JAC.toD) g11,JAC.toD v10,Ag (f:=JAC.toD) g11,rfl,?_⟩;refine sJ h ?_ ?_<;>intro h
    ·(conv=>whnf);refine cO ?_;exact AB wk h
    refine⟨x5.ASNs.length,X10 _,?_⟩;obtain⟨v12,g13,h⟩:=AA h;refine⟨Af (f:=JAC.toD) g13,JAC.toD v12,Ag (f:=JAC.toD) g13,rfl,?_⟩;refine⟨v12.ASNs.length,X10 _,?_⟩;(conv=>whnf);refine cO ?_;exact AB wk h
   rintro v8 h;(conv=>whnf);refine .go ?_;refine sJ h ?_ ?_<;>intro h
   ·cases h;exact⟨rfl,rfl⟩
   refine⟨x5.ASNs.length,X10 _,?_⟩;revert h;refine AG (fun _=>⟨X::y0 a1::dd 12 (y0 a0::yi (a0.length:Int)::yi (i2:Int)::dd 44 ([])),nn 61 ([])⟩) ?_ ?_
   ·intro k14 h;revert h;refine Aj 42 1 D.i rfl (fun i15 _=>⟨X::y0 a1::X::X::X::yi (i2:Int)::dd 8 (y0 a0::yi (a0.length:Int)::yi (i2:Int)::dd 25 (AV.d (D.l 1 D.i x5.ASNs)::yi (x5.ASNs.length:Int)::yi (i15:Int)::dd 16 ([]))),nn 61 ([])⟩) ?_ ?_ ?_
    ·exact wk
    ·rintro _ K16 h;(conv=>whnf);refine .go ?_;(conv=>whnf);refine BO C6 ?_;exact AB wk h
    rintro next17 i15 x18 _ K16 hii15 hxi15 hwi15 h hK19;(conv=>whnf);refine .go ?_;(conv=>whnf);refine BI (Cd hii15) ?_;(conv=>whnf);refine .go ?_;refine⟨BH (f:=D.i) hii15,D.i x18,hxi15,rfl,?_⟩;obtain⟨v20,g21,h⟩:=AA h;refine⟨Af (f:=JAC.toD) g21,JAC.toD v20,Ag (f:=JAC.toD) g21,rfl,?_⟩;obtain⟨v22,g23,h⟩:=AA h;refine⟨Af (f:=D.i) g23,D.i v22,Ag (f:=D.i) g23,rfl,?_⟩;(conv=>whnf);refine .go ?_;refine sJ h ?_ ?_<;>intro h
    ·cases h;exact⟨rfl,rfl⟩
    refine⟨_,hwi15,?_⟩;exact hK19 _ _ wk h
   rintro _ h;exact AB wk h
  rintro _ h;refine⟨_,hwi2,?_⟩;exact hK6 _ _ wk h
 rintro _ h;cases h;exact⟨rfl,rfl⟩
theorem RY {wl:Prop} {a0:List JAB} {a1:List JAB} {r:Bool} (h:EO a0 a1=some r):CallsOK (Wl wl) Tryz.prog 80 [AV.d (D.l 2 JAB.toD a0),AV.d (D.l 2 JAB.toD a1)] [] (.d (D.b r)) []:=by
 refine oK Tryz.f80 ⟨rfl,?_⟩;unfold EO at h;refine⟨a0.length,X10 _,?_⟩;refine⟨a1.length,X10 _,?_⟩;(conv=>whnf);refine .go ?_;refine sJ h ?_ ?_<;>intro h
 ·cases h;exact⟨rfl,rfl⟩
 refine⟨a0.length,X10 _,?_⟩;revert h;refine AG (fun _=>⟨dd 26 ([]),nn 26 ([])⟩) ?_ ?_
 ·intro k1 h;revert h;refine Aj 12 2 JAB.toD rfl (fun i2 _=>⟨X::y1 a1::dd 10 (y1 a0::yi (a0.length:Int)::yi (i2:Int)::dd 11 ([])),nn 26 ([])⟩) ?_ ?_ ?_
  ·exact wk
  ·rintro _ K3 h;(conv=>whnf);refine .go ?_;(conv=>whnf);refine BO C6 ?_;exact AB wk h
  rintro next4 i2 x5 _ K3 hii2 hxi2 hwi2 h hK6;(conv=>whnf);refine .go ?_;(conv=>whnf);refine BI (Cd hii2) ?_;(conv=>whnf);refine .go ?_;refine⟨BH (f:=JAB.toD) hii2,JAB.toD x5,hxi2,rfl,?_⟩;(conv=>whnf);refine .inl (dO ?_);obtain⟨v7,g8,h⟩:=AA h;refine⟨Af (f:=JAB.toD) g8,JAB.toD v7,Ag (f:=JAB.toD) g8,rfl,?_⟩;(conv=>whnf);refine cO ?_;(conv=>whnf);refine .go ?_;refine sJ h ?_ ?_<;>intro h
  ·cases h;exact⟨rfl,rfl⟩
  refine⟨_,hwi2,?_⟩;exact hK6 _ _ wk h
 rintro _ h;cases h;exact⟨rfl,rfl⟩
theorem Lx {wl:Prop} {a0:List JAF} {a1:List JAF} {r:Bool} (h:Br a0 a1=some r):CallsOK (Wl wl) Tryz.prog 81 [AV.d (D.l 3 JAF.toD a0),AV.d (D.l 3 JAF.toD a1)] [] (.d (D.b r)) []:=by
 refine oK Tryz.f81 ⟨rfl,?_⟩;unfold Br at h;refine⟨a0.length,X10 _,?_⟩;refine⟨a1.length,X10 _,?_⟩;(conv=>whnf);refine .go ?_;refine sJ h ?_ ?_<;>intro h
 ·cases h;exact⟨rfl,rfl⟩
 refine⟨a0.length,X10 _,?_⟩;revert h;refine AG (fun _=>⟨dd 26 ([]),nn 26 ([])⟩) ?_ ?_
 ·intro k1 h;revert h;refine Aj 12 3 JAF.toD rfl (fun i2 _=>⟨X::y2 a1::dd 10 (y2 a0::yi (a0.length:Int)::yi (i2:Int)::dd 11 ([])),nn 26 ([])⟩) ?_ ?_ ?_
  ·exact wk
  ·rintro _ K3 h;(conv=>whnf);refine .go ?_;(conv=>whnf);refine BO C6 ?_;exact AB wk h
  rintro next4 i2 x5 _ K3 hii2 hxi2 hwi2 h hK6;(conv=>whnf);refine .go ?_;(conv=>whnf);refine BI (Cd hii2) ?_;(conv=>whnf);refine .go ?_;refine⟨BH (f:=JAF.toD) hii2,JAF.toD x5,hxi2,rfl,?_⟩;(conv=>whnf);refine .inl (dO ?_);obtain⟨v7,g8,h⟩:=AA h;refine⟨Af (f:=JAF.toD) g8,JAF.toD v7,Ag (f:=JAF.toD) g8,rfl,?_⟩;(conv=>whnf);refine cO ?_;(conv=>whnf);refine .go ?_;refine sJ h ?_ ?_<;>intro h
  ·cases h;exact⟨rfl,rfl⟩
  refine⟨_,hwi2,?_⟩;exact hK6 _ _ wk h
 rintro _ h;cases h;exact⟨rfl,rfl⟩
theorem NI {wl:Prop} {a0:List JAA} {a1:List JAA} {r:Bool} (h:B6 a0 a1=some r):CallsOK (Wl wl) Tryz.prog 82 [AV.d (D.l 3 JAA.toD a0),AV.d (D.l 3 JAA.toD a1)] [] (.d (D.b r)) []:=by
 refine oK Tryz.f82 ⟨rfl,?_⟩;unfold B6 at h;refine⟨a0.length,X10 _,?_⟩;refine⟨a1.length,X10 _,?_⟩;(conv=>whnf);refine .go ?_;refine sJ h ?_ ?_<;>intro h
 ·cases h;exact⟨rfl,rfl⟩
 refine⟨a0.length,X10 _,?_⟩;revert h;refine AG (fun _=>⟨dd 50 ([]),nn 50 ([])⟩) ?_ ?_
 ·intro k1 h;revert h;refine Aj 12 3 JAA.toD rfl (fun i2 _=>⟨X::y4 a1::dd 10 (y4 a0::yi (a0.length:Int)::yi (i2:Int)::dd 35 ([])),nn 50 ([])⟩) ?_ ?_ ?_
  ·exact wk
  ·rintro _ K3 h;(conv=>whnf);refine .go ?_;(conv=>whnf);refine BO C6 ?_;exact AB wk h
  rintro next4 i2 x5 _ K3 hii2 hxi2 hwi2 h hK6;(conv=>whnf);refine .go ?_;(conv=>whnf);refine BI (Cd hii2) ?_;(conv=>whnf);refine .go ?_;refine⟨BH (f:=JAA.toD) hii2,JAA.toD x5,hxi2,rfl,?_⟩;revert h;refine AG (fun v7=>⟨X::y4 a1::dd 10 (y4 a0::yi (a0.length:Int)::yi (i2:Int)::dd 33 (yb v7::X::[])),nn 50 ([])⟩) ?_ ?_
  ·intro k8 h;(conv=>whnf);refine .inl (dO ?_);obtain⟨v9,g10,h⟩:=AA h;refine⟨Af (f:=JAA.toD) g10,JAA.toD v9,Ag (f:=JAA.toD) g10,rfl,?_⟩;refine sJ h ?_ ?_<;>intro h
   ·(conv=>whnf);refine cO ?_;exact AB wk h
   obtain⟨v11,g12,h⟩:=AA h;refine⟨Af (f:=JAA.toD) g12,JAA.toD v11,Ag (f:=JAA.toD) g12,rfl,?_⟩;refine sJ h ?_ ?_<;>intro h
   ·(conv=>whnf);refine cO ?_;exact AB wk h
   refine⟨x5.Data,rfl,?_⟩;obtain⟨v13,g14,h⟩:=AA h;refine⟨Af (f:=JAA.toD) g14,JAA.toD v13,Ag (f:=JAA.toD) g14,rfl,?_⟩;refine⟨v13.Data,rfl,?_⟩;(conv=>whnf);refine cO ?_;exact AB wk h
  rintro v7 h;(conv=>whnf);refine .go ?_;refine sJ h ?_ ?_<;>intro h
  ·cases h;exact⟨rfl,rfl⟩
  refine⟨_,hwi2,?_⟩;exact hK6 _ _ wk h
 rintro _ h;cases h;exact⟨rfl,rfl⟩
theorem RN {wl:Prop} {a0:JAD} {a1:JAD} {r:Bool} (h:DV a0 a1=some r):CallsOK (Wl wl) Tryz.prog 36 [AV.d (JAD.toD a0),AV.d (JAD.toD a1)] [] (.d (D.b r)) []:=by
 refine oK Tryz.f36 ⟨rfl,?_⟩;unfold DV at h;revert h;refine AG (fun v1=>⟨dd 4 (yb v1::dd 61 ([])),nn 66 ([])⟩) ?_ ?_
 ·intro k2 h;refine sJ h (fun h=>?_) fun h=>AB wk h;obtain⟨v3,g4,h⟩:=AA h;refine⟨_,_,some [],RI g4,?_⟩;refine sJ h (fun h=>?_) fun h=>AB wk h;refine sJ h (fun h=>?_) fun h=>AB wk h;refine sJ h (fun h=>?_) fun h=>AB wk h;refine sJ h (fun h=>?_) fun h=>AB wk h;refine sJ h (fun h=>?_) fun h=>AB wk h;obtain⟨v5,g6,h⟩:=AA h;refine⟨_,_,some [],RY g6,?_⟩;refine sJ h (fun h=>?_) fun h=>AB wk h;obtain⟨v7,g8,h⟩:=AA h;refine⟨_,_,some [],Lx g8,?_⟩;refine sJ h (fun h=>?_) fun h=>AB wk h;obtain⟨v9,g10,h⟩:=AA h;refine⟨_,_,some [],NI g10,?_⟩;exact AB wk h
 rintro v1 h;cases h;exact⟨rfl,rfl⟩
theorem CV {wl:Prop} {a0:Int} {a1:Int} {r:(List UInt8)} (h:AS a0 a1=some r):CallsOK (Wl wl) Tryz.prog 106 [AV.d (D.i a0),AV.d (D.i a1)] [] (.d (D.l 1 D.u8 r)) []:=by
 refine oK Tryz.f106 ⟨rfl,?_⟩;unfold AS at h;refine⟨_,rfl,?_⟩;revert h;refine AG (fun v1=>⟨dd 5 (yO 5 D.u8 v1::dd 17 ([])),nn 5 (yR 5 1 D.u8 v1::nn 17 ([]))⟩) ?_ ?_
 ·intro k2 h;revert h;refine Am (fun (v3,v4)=>⟨yi a0::dd 4 (yO 5 D.u8 v4::yi v3::dd 16 ([])),nn 5 (yR 5 1 D.u8 v4::nn 17 ([]))⟩) ?_ ?_
  ·exact wk
  rintro next5 ⟨v3,v4⟩ K6 h hK7;(conv=>whnf);refine .go ?_;refine sJ h (fun h=>?_) fun h=>AB wk h;(conv=>whnf);refine .go ?_;refine⟨_,Aq _,?_⟩;refine⟨_,Aq _,?_⟩;refine⟨Int.natCast_nonneg _,_,rfl,?_⟩;refine⟨_,Ar _,?_⟩;refine⟨rfl,?_⟩;obtain⟨v8,g9,h⟩:=AA h;refine⟨rfl,AZ (f:=D.u8) (g:=D.u8) g9,_,Ab (f:=D.u8) g9,?_⟩;refine⟨_,rfl,?_⟩;exact hK7 _ _ wk h
 rintro v1 h;(conv=>whnf);refine .inl ?_;(conv=>whnf);refine .inl ?_;refine⟨rfl,?_⟩;cases h;exact⟨rfl,rfl⟩
end Go.AX.Q19
end
section
namespace Go.AX.Q19
open Go Go.AX Go.Proofs
set_option maxRecDepth 100000
set_option maxHeartbeats 4000000
set_option linter.unusedVariables false
theorem QZ {wl:Prop} {a0:JAD} {r:(List JAA)×Int} (h:Fz a0=some r):CallsOK (Wl wl) Tryz.prog 55 [AV.d (JAD.toD a0)] [] (.tup [.d (D.l 3 JAA.toD r.1),.d (D.i r.2)]) []:=by
 refine oK Tryz.f55 ⟨rfl,?_⟩;unfold Fz at h;obtain⟨v1,g2,h⟩:=AA h;refine⟨_,_,some [],KP g2,?_⟩;(conv=>whnf);refine .go ?_;refine sJ h ?_ ?_<;>intro h
 ·cases h;exact⟨rfl,rfl⟩
 revert h;refine AG (fun v3=>⟨X::yr 1 0::X::X::AV.own 4 (List.map JAA.toD []).length::AV.mp 24::dd 189 ([]),N::yB (JAD.av a0)::N::N::some (OB.row 88 3 (List.map JAA.toD []) .no)::nn 19 (some (OB.map 3 44 (Bh D.i (D.l 1 D.u8) v3))::nn 170 ([]))⟩) ?_ ?_
 ·intro k4 h;refine sJ h (fun h=>?_) fun h=>AB wk h;refine⟨_,Ar _,?_⟩;(conv=>whnf);refine .inl ?_;refine⟨rfl,?_⟩;refine⟨_,EV (ek:=D.i) (ev:=(D.l 1 D.u8)) (l:=[]) (k:=1) (v:=([(Au a0.Origin)]:List UInt8)) BF,?_⟩;exact AB wk h
 rintro v3 h;revert h;refine AG (fun v5=>⟨X::yr 1 0::X::X::AV.own 4 (List.map JAA.toD []).length::AV.mp 24::dd 35 (yb v5::dd 153 ([])),N::yB (JAD.av a0)::N::N::some (OB.row 88 3 (List.map JAA.toD []) .no)::nn 19 (some (OB.map 3 44 (Bh D.i (D.l 1 D.u8) v3))::nn 170 ([]))⟩) ?_ ?_
 ·intro k6 h;refine sJ h (fun h=>AB wk h) fun h=>?_;refine⟨a0.Path.length,X10 _,?_⟩;exact AB wk h
 rintro v5 h;revert h;refine AG (fun v7=>⟨X::yr 1 0::X::X::AV.own 4 (List.map JAA.toD []).length::AV.mp 24::dd 189 ([]),N::yB (JAD.av a0)::N::N::some (OB.row 88 3 (List.map JAA.toD []) .no)::nn 19 (some (OB.map 3 44 (Bh D.i (D.l 1 D.u8) v7))::nn 170 ([]))⟩) ?_ ?_
 ·intro k8 h;refine sJ h (fun h=>?_) fun h=>AB wk h;refine⟨a0.Path.length,X10 _,?_⟩;revert h;refine AG (fun v9=>⟨X::yr 1 0::X::X::AV.own 4 (List.map JAA.toD []).length::AV.mp 24::yO 42 D.u8 v9::dd 188 ([]),N::yB (JAD.av a0)::N::N::some (OB.row 88 3 (List.map JAA.toD []) .no)::nn 19 (some (OB.map 3 44 (Bh D.i (D.l 1 D.u8) v3))::nn 17 (yR 5 1 D.u8 v9::nn 152 ([])))⟩) ?_ ?_
  ·intro k10 h;revert h;refine Aj 44 2 JAC.toD rfl (fun i11 v12=>⟨X::yr 1 0::X::X::AV.own 4 (List.map JAA.toD []).length::AV.mp 24::yO 42 D.u8 v12::dd 37 (AV.d (D.l 2 JAC.toD a0.Path)::yi (a0.Path.length:Int)::yi (i11:Int)::dd 148 ([])),N::yB (JAD.av a0)::N::N::some (OB.row 88 3 (List.map JAA.toD []) .no)::nn 19 (some (OB.map 3 44 (Bh D.i (D.l 1 D.u8) v3))::nn 17 (yR 5 1 D.u8 v12::nn 152 ([])))⟩) ?_ ?_ ?_
   ·exact wk
   ·rintro v12 K13 h;(conv=>whnf);refine .go ?_;(conv=>whnf);refine BO C6 ?_;exact AB wk h
   rintro next14 i11 x15 v12 K13 hii11 hxi11 hwi11 h hK16;(conv=>whnf);refine .go ?_;(conv=>whnf);refine BI (Cd hii11) ?_;revert h;refine AG (fun v17=>⟨X::yr 1 0::X::X::AV.own 4 (List.map JAA.toD []).length::AV.mp 24::yO 42 D.u8 v17::dd 37 (AV.d (D.l 2 JAC.toD a0.Path)::yi (a0.Path.length:Int)::yi (i11:Int)::dd 148 ([])),N::yB (JAD.av a0)::N::N::some (OB.row 88 3 (List.map JAA.toD []) .no)::nn 19 (some (OB.map 3 44 (Bh D.i (D.l 1 D.u8) v3))::nn 17 (yR 5 1 D.u8 v17::nn 152 ([])))⟩) ?_ ?_
   ·intro k18 h;refine⟨BH (f:=JAC.toD) hii11,JAC.toD x15,hxi11,rfl,?_⟩;revert h;refine AG (fun v19=>⟨X::yr 1 0::X::X::AV.own 4 (List.map JAA.toD []).length::AV.mp 24::yO 42 D.u8 v12::X::yr 8 0::yv v19::dd 34 (AV.d (D.l 2 JAC.toD a0.Path)::yi (a0.Path.length:Int)::yi (i11:Int)::dd 148 ([])),N::yB (JAD.av a0)::N::N::some (OB.row 88 3 (List.map JAA.toD []) .no)::N::N::N::yB (JAC.av x15)::nn 15 (some (OB.map 3 44 (Bh D.i (D.l 1 D.u8) v3))::nn 17 (yR 5 1 D.u8 v12::nn 152 ([])))⟩) ?_ ?_
    ·intro k20 h;exact sJ h (fun h=>AB wk h) fun h=>AB wk h
    rintro v19 h;refine⟨x15.ASNs.length,X10 _,?_⟩;refine⟨_,Ar _,?_⟩;refine⟨rfl,?_⟩;obtain⟨v21,g22,h⟩:=AA h;refine⟨rfl,AZ (f:=D.u8) (g:=D.u8) g22,_,Ab (f:=D.u8) g22,?_⟩;refine⟨x15.ASNs.length,X10 _,?_⟩;revert h;refine AG (fun v23=>⟨X::yr 1 0::X::X::AV.own 4 (List.map JAA.toD []).length::AV.mp 24::yO 42 D.u8 v23::dd 37 (AV.d (D.l 2 JAC.toD a0.Path)::yi (a0.Path.length:Int)::yi (i11:Int)::dd 148 ([])),N::yB (JAD.av a0)::N::N::some (OB.row 88 3 (List.map JAA.toD []) .no)::nn 19 (some (OB.map 3 44 (Bh D.i (D.l 1 D.u8) v3))::nn 17 (yR 5 1 D.u8 v23::nn 152 ([])))⟩) ?_ ?_
    ·intro k24 h;revert h;refine Aj 61 1 D.i rfl (fun i25 v26=>⟨X::yr 1 0::X::X::AV.own 4 (List.map JAA.toD []).length::AV.mp 24::yO 42 D.u8 v26::dd 37 (AV.d (D.l 2 JAC.toD a0.Path)::yi (a0.Path.length:Int)::yi (i11:Int)::dd 14 (AV.d (D.l 1 D.i x15.ASNs)::yi (x15.ASNs.length:Int)::yi (i25:Int)::dd 131 ([]))),N::yB (JAD.av a0)::N::N::some (OB.row 88 3 (List.map JAA.toD []) .no)::nn 19 (some (OB.map 3 44 (Bh D.i (D.l 1 D.u8) v3))::nn 17 (yR 5 1 D.u8 v26::nn 152 ([])))⟩) ?_ ?_ ?_
     ·exact wk
     ·rintro v26 K27 h;(conv=>whnf);refine .go ?_;(conv=>whnf);refine BO C6 ?_;exact AB wk h
     rintro next28 i25 x29 v26 K27 hii25 hxi25 hwi25 h hK30;(conv=>whnf);refine .go ?_;(conv=>whnf);refine BI (Cd hii25) ?_;(conv=>whnf);refine .go ?_;refine⟨BH (f:=D.i) hii25,D.i x29,hxi25,rfl,?_⟩;obtain⟨v31,g32,h⟩:=AA h;refine⟨_,_,some [],CV g32,?_⟩;obtain⟨v33,g34,h⟩:=AA h;refine⟨rfl,AZ (f:=D.u8) (g:=D.u8) g34,_,Ab (f:=D.u8) g34,?_⟩;refine⟨_,hwi25,?_⟩;exact hK30 _ _ wk h
    rintro v23 h;exact AB wk h
   rintro v17 h;refine⟨_,hwi11,?_⟩;exact hK16 _ _ wk h
  rintro v9 h;(conv=>whnf);refine .inl ?_;refine⟨rfl,?_⟩;refine⟨_,EV (ek:=D.i) (ev:=(D.l 1 D.u8)) (l:=v3) (k:=2) (v:=v9) BF,?_⟩;exact AB wk h
 rintro v7 h;revert h;refine AG (fun v35=>⟨X::yr 1 0::X::X::AV.own 4 (List.map JAA.toD []).length::AV.mp 24::dd 78 (yb v35::dd 110 ([])),N::yB (JAD.av a0)::N::N::some (OB.row 88 3 (List.map JAA.toD []) .no)::nn 19 (some (OB.map 3 44 (Bh D.i (D.l 1 D.u8) v7))::nn 170 ([]))⟩) ?_ ?_
 ·intro k36 h;exact sJ h (fun h=>AB wk h) fun h=>AB wk h
 rintro v35 h;revert h;refine AG (fun v37=>⟨X::yr 1 0::X::X::AV.own 4 (List.map JAA.toD []).length::AV.mp 24::dd 189 ([]),N::yB (JAD.av a0)::N::N::some (OB.row 88 3 (List.map JAA.toD []) .no)::nn 19 (some (OB.map 3 44 (Bh D.i (D.l 1 D.u8) v37))::nn 170 ([]))⟩) ?_ ?_
 ·intro k38 h;refine sJ h (fun h=>?_) fun h=>AB wk h;obtain⟨v39,g40,h⟩:=AA h;refine⟨_,_,some [88],GN g40,?_⟩;(conv=>whnf);refine .inl ?_;refine⟨rfl,?_⟩;refine⟨_,EV (ek:=D.i) (ev:=(D.l 1 D.u8)) (l:=v7) (k:=3) (v:=v39) BF,?_⟩;exact AB wk h
 rintro v37 h;revert h;refine AG (fun v41=>⟨X::yr 1 0::X::X::AV.own 4 (List.map JAA.toD []).length::AV.mp 24::dd 189 ([]),N::yB (JAD.av a0)::N::N::some (OB.row 88 3 (List.map JAA.toD []) .no)::nn 19 (some (OB.map 3 44 (Bh D.i (D.l 1 D.u8) v41))::nn 170 ([]))⟩) ?_ ?_
 ·intro k42 h;refine sJ h (fun h=>?_) fun h=>AB wk h;obtain⟨v43,g44,h⟩:=AA h;refine⟨_,_,some [],CV g44,?_⟩;refine⟨_,EV (ek:=D.i) (ev:=(D.l 1 D.u8)) (l:=v37) (k:=4) (v:=v43) BF,?_⟩;exact AB wk h
 rintro v41 h;revert h;refine AG (fun v45=>⟨X::yr 1 0::X::X::AV.own 4 (List.map JAA.toD []).length::AV.mp 24::dd 189 ([]),N::yB (JAD.av a0)::N::N::some (OB.row 88 3 (List.map JAA.toD []) .no)::nn 19 (some (OB.map 3 44 (Bh D.i (D.l 1 D.u8) v45))::nn 170 ([]))⟩) ?_ ?_
 ·intro k46 h;refine sJ h (fun h=>?_) fun h=>AB wk h;obtain⟨v47,g48,h⟩:=AA h;refine⟨_,_,some [],CV g48,?_⟩;refine⟨_,EV (ek:=D.i) (ev:=(D.l 1 D.u8)) (l:=v41) (k:=5) (v:=v47) BF,?_⟩;exact AB wk h
 rintro v45 h;refine⟨a0.Communities.length,X10 _,?_⟩;revert h;refine AG (fun (v49,v50)=>⟨X::yr 1 0::X::X::AV.own 4 (List.map JAA.toD []).length::AV.mp 24::dd 189 ([]),N::yB (JAD.av a0)::N::N::some (OB.row 88 3 (List.map JAA.toD []) .no)::nn 19 (some (OB.amap 3 44 (Bh D.i (D.l 1 D.u8) v49) (.int .i64 8) 112 (List.map D.u8 v50).length)::nn 87 (some (OB.row 5 1 (List.map D.u8 v50) .yes)::nn 82 ([])))⟩) ?_ ?_
 ·intro k51 h;obtain⟨_,g52,h⟩:=AA h;revert h;refine Aj 104 2 JAB.toD rfl (fun i53 (v54,v55)=>⟨X::yr 1 0::X::X::AV.own 4 (List.map JAA.toD []).length::AV.mp 24::dd 98 (AV.d (D.l 2 JAB.toD a0.Communities)::yi (a0.Communities.length:Int)::yi (i53:Int)::dd 88 ([])),N::yB (JAD.av a0)::N::N::some (OB.row 88 3 (List.map JAA.toD []) .no)::nn 19 (some (OB.amap 3 44 (Bh D.i (D.l 1 D.u8) v54) (.int .i64 8) 112 (List.map D.u8 v55).length)::nn 87 (some (OB.row 5 1 (List.map D.u8 v55) .yes)::nn 82 ([])))⟩) ?_ ?_ ?_
  ·exact (.mk rfl (And.intro (.refl _) (And.intro (.refl _) (And.intro (.refl _) (And.intro (.refl _) (And.intro (.refl _) (And.intro (.refl _) True.intro)))))) (And.intro ⟨_,rfl,And.intro ⟨rfl,.refl _⟩ (And.intro ⟨rfl,.refl _⟩ (And.intro ⟨rfl,.refl _⟩ (And.intro ⟨rfl,.refl _⟩ (And.intro ⟨rfl,.refl _⟩ (And.intro ⟨rfl,.refl _⟩ (And.intro ⟨rfl,.refl _⟩ (And.intro ⟨rfl,.refl _⟩ (And.intro ⟨rfl,.refl _⟩ (And.intro ⟨rfl,.refl _⟩ (And.intro ⟨rfl,.refl _⟩ (True.intro)))))))))))⟩ (And.intro (.inl ⟨_,rfl,⟨id,trivial⟩⟩) (And.intro (.inr ⟨.inl rfl,⟨_,Oa BF g52⟩,rfl,rfl,_,_,_,rfl⟩) (And.intro (.inr ⟨rfl,rfl,by decide⟩) (True.intro))))) rfl)
  ·rintro⟨v54,v55⟩ K56 h;(conv=>whnf);refine .go ?_;(conv=>whnf);refine BO C6 ?_;exact AB wk h
  rintro next57 i53 x58 ⟨v54,v55⟩ K56 hii53 hxi53 hwi53 h hK59;(conv=>whnf);refine .go ?_;(conv=>whnf);refine BI (Cd hii53) ?_;(conv=>whnf);refine .go ?_;refine⟨BH (f:=JAB.toD) hii53,JAB.toD x58,hxi53,rfl,?_⟩;(conv=>whnf);refine .inl (dO ?_);(conv=>whnf);refine .inr ⟨rfl,rfl,⟨_,BS (ek:=D.i) (ev:=(D.l 1 D.u8)) (l:=v54) (k:=8) BF⟩,rfl,?_⟩;obtain⟨v60,g61,h⟩:=AA h;refine⟨_,_,CV g61,.inl rfl,?_⟩;obtain⟨v62,g63,h⟩:=AA h;refine⟨rfl,AZ (f:=D.u8) (g:=D.u8) g63,_,Ab (f:=D.u8) g63,?_⟩;obtain⟨v64,g65,h⟩:=AA h;refine⟨_,_,CV g65,.inl rfl,?_⟩;obtain⟨v66,g67,h⟩:=AA h;refine⟨rfl,AZ (f:=D.u8) (g:=D.u8) g67,_,Ab (f:=D.u8) g67,?_⟩;(conv=>whnf);refine .inr ?_;refine⟨rfl,?_⟩;refine⟨_,EV (ek:=D.i) (ev:=(D.l 1 D.u8)) (l:=v54) (k:=8) (v:=v66) BF,?_⟩;(conv=>whnf);refine cO ?_;refine⟨_,hwi53,?_⟩;exact hK59 _ _ wk h
 rintro⟨v49,v50⟩ h;refine⟨a0.JAF.length,X10 _,?_⟩;revert h;refine AG (fun (v68,v69)=>⟨X::yr 1 0::X::X::AV.own 4 (List.map JAA.toD []).length::AV.mp 24::dd 189 ([]),N::yB (JAD.av a0)::N::N::some (OB.row 88 3 (List.map JAA.toD []) .no)::nn 19 (some (OB.amap 3 44 (Bh D.i (D.l 1 D.u8) v68) (.int .i64 32) 131 (List.map D.u8 v69).length)::nn 106 (some (OB.row 5 1 (List.map D.u8 v69) .yes)::nn 63 ([])))⟩) ?_ ?_
 ·intro k70 h;obtain⟨_,g71,h⟩:=AA h;revert h;refine Aj 123 3 JAF.toD rfl (fun i72 (v73,v74)=>⟨X::yr 1 0::X::X::AV.own 4 (List.map JAA.toD []).length::AV.mp 24::dd 117 (AV.d (D.l 3 JAF.toD a0.JAF)::yi (a0.JAF.length:Int)::yi (i72:Int)::dd 69 ([])),N::yB (JAD.av a0)::N::N::some (OB.row 88 3 (List.map JAA.toD []) .no)::nn 19 (some (OB.amap 3 44 (Bh D.i (D.l 1 D.u8) v73) (.int .i64 32) 131 (List.map D.u8 v74).length)::nn 106 (some (OB.row 5 1 (List.map D.u8 v74) .yes)::nn 63 ([])))⟩) ?_ ?_ ?_
  ·exact (.mk rfl (And.intro (.refl _) (And.intro (.refl _) (And.intro (.refl _) (And.intro (.refl _) (And.intro (.refl _) (And.intro (.refl _) True.intro)))))) (And.intro ⟨_,rfl,And.intro ⟨rfl,.refl _⟩ (And.intro ⟨rfl,.refl _⟩ (And.intro ⟨rfl,.refl _⟩ (And.intro ⟨rfl,.refl _⟩ (And.intro ⟨rfl,.refl _⟩ (And.intro ⟨rfl,.refl _⟩ (And.intro ⟨rfl,.refl _⟩ (And.intro ⟨rfl,.refl _⟩ (And.intro ⟨rfl,.refl _⟩ (And.intro ⟨rfl,.refl _⟩ (And.intro ⟨rfl,.refl _⟩ (True.intro)))))))))))⟩ (And.intro (.inl ⟨_,rfl,⟨id,trivial⟩⟩) (And.intro (.inr ⟨.inr ⟨_,_,_,rfl⟩,⟨_,Oa BF g71⟩,rfl,rfl,_,_,_,rfl⟩) (And.intro (.inr ⟨rfl,rfl,by decide⟩) (True.intro))))) rfl)
  ·rintro⟨v73,v74⟩ K75 h;(conv=>whnf);refine .go ?_;(conv=>whnf);refine BO C6 ?_;exact AB wk h
  rintro next76 i72 x77 ⟨v73,v74⟩ K75 hii72 hxi72 hwi72 h hK78;(conv=>whnf);refine .go ?_;(conv=>whnf);refine BI (Cd hii72) ?_;(conv=>whnf);refine .go ?_;refine⟨BH (f:=JAF.toD) hii72,JAF.toD x77,hxi72,rfl,?_⟩;(conv=>whnf);refine .inl (dO ?_);(conv=>whnf);refine .inr ⟨rfl,rfl,⟨_,BS (ek:=D.i) (ev:=(D.l 1 D.u8)) (l:=v73) (k:=32) BF⟩,rfl,?_⟩;obtain⟨v79,g80,h⟩:=AA h;refine⟨_,_,CV g80,.inl rfl,?_⟩;obtain⟨v81,g82,h⟩:=AA h;refine⟨rfl,AZ (f:=D.u8) (g:=D.u8) g82,_,Ab (f:=D.u8) g82,?_⟩;obtain⟨v83,g84,h⟩:=AA h;refine⟨_,_,CV g84,.inl rfl,?_⟩;obtain⟨v85,g86,h⟩:=AA h;refine⟨rfl,AZ (f:=D.u8) (g:=D.u8) g86,_,Ab (f:=D.u8) g86,?_⟩;obtain⟨v87,g88,h⟩:=AA h;refine⟨_,_,CV g88,.inl rfl,?_⟩;obtain⟨v89,g90,h⟩:=AA h;refine⟨rfl,AZ (f:=D.u8) (g:=D.u8) g90,_,Ab (f:=D.u8) g90,?_⟩;(conv=>whnf);refine .inr ?_;refine⟨rfl,?_⟩;refine⟨_,EV (ek:=D.i) (ev:=(D.l 1 D.u8)) (l:=v73) (k:=32) (v:=v89) BF,?_⟩;(conv=>whnf);refine cO ?_;refine⟨_,hwi72,?_⟩;exact hK78 _ _ wk h
 rintro⟨v68,v69⟩ h;revert h;refine AG (fun v91=>⟨X::yr 1 0::X::X::AV.own 4 (List.map JAA.toD []).length::AV.mp 24::dd 189 ([]),N::yB (JAD.av a0)::N::N::some (OB.row 88 3 (List.map JAA.toD []) .no)::nn 19 (some (OB.map 3 44 (Bh D.i (D.l 1 D.u8) v91))::nn 170 ([]))⟩) ?_ ?_
 ·intro k92 h;refine sJ h (fun h=>?_) fun h=>AB wk h;obtain⟨v93,g94,h⟩:=AA h;refine⟨_,_,some [],CV g94,?_⟩;refine⟨_,EV (ek:=D.i) (ev:=(D.l 1 D.u8)) (l:=v68) (k:=35) (v:=v93) BF,?_⟩;exact AB wk h
 rintro v91 h;revert h;refine AG (fun v95=>⟨dd 4 (yO 4 JAA.toD v95::dd 190 ([])),nn 4 (yR 88 3 JAA.toD v95::nn 190 ([]))⟩) ?_ ?_
 ·intro k96 h;revert h;refine Am (fun (v97,v98)=>⟨X::yr 1 0::X::X::yO 4 JAA.toD v98::AV.mp 24::dd 146 (yi v97::dd 42 ([])),N::yB (JAD.av a0)::N::N::yR 88 3 JAA.toD v98::nn 19 (some (OB.map 3 44 (Bh D.i (D.l 1 D.u8) v91))::nn 170 ([]))⟩) ?_ ?_
  ·exact wk
  rintro next99 ⟨v97,v98⟩ K100 h hK101;(conv=>whnf);refine .go ?_;refine sJ h (fun h=>?_) fun h=>AB wk h;revert h;refine AG (fun v102=>⟨X::yr 1 0::X::X::yO 4 JAA.toD v102::AV.mp 24::dd 146 (yi v97::dd 42 ([])),N::yB (JAD.av a0)::N::N::yR 88 3 JAA.toD v102::nn 19 (some (OB.map 3 44 (Bh D.i (D.l 1 D.u8) v91))::nn 170 ([]))⟩) ?_ ?_
  ·intro k103 h;obtain⟨v104,g105,h⟩:=AA h;obtain⟨v106,g107,h⟩:=AA h;refine⟨_,BS (ek:=D.i) (ev:=(D.l 1 D.u8)) (l:=v91) (k:=v97) BF,(D.l 1 D.u8) v104,Dn (z:=[]) rfl g105,v106,aL g107,?_⟩;revert h;refine AG (fun v108=>⟨X::yr 1 0::X::X::yO 4 JAA.toD v108::AV.mp 24::dd 10 (yi v97::dd 135 (yi v97::dd 42 ([]))),N::yB (JAD.av a0)::N::N::yR 88 3 JAA.toD v108::nn 19 (some (OB.map 3 44 (Bh D.i (D.l 1 D.u8) v91))::nn 170 ([]))⟩) ?_ ?_
   ·intro k109 h;refine sJ h (fun h=>?_) fun h=>AB wk h;obtain⟨v110,g111,h⟩:=AA h;refine⟨_,_,some [],KI g111,?_⟩;obtain⟨_,g112,h⟩:=AA h;refine⟨Ed (g:=D.u8) g112,?_⟩;(conv=>whnf);refine .inl ?_;refine⟨rfl,?_⟩;refine⟨rfl,?_⟩;obtain⟨v113,g114,h⟩:=AA h;refine⟨rfl,AZ (f:=JAA.toD) (g:=JAA.toD) g114,_,Ab (f:=JAA.toD) g114,?_⟩;exact AB wk h
   rintro v108 h;refine⟨a0.Other.length,X10 _,?_⟩;revert h;refine AG (fun v115=>⟨X::yr 1 0::X::X::yO 4 JAA.toD v115::AV.mp 24::dd 146 (yi v97::dd 42 ([])),N::yB (JAD.av a0)::N::N::yR 88 3 JAA.toD v115::nn 19 (some (OB.map 3 44 (Bh D.i (D.l 1 D.u8) v91))::nn 170 ([]))⟩) ?_ ?_
   ·intro k116 h;revert h;refine Aj 172 3 JAA.toD rfl (fun i117 v118=>⟨X::yr 1 0::X::X::yO 4 JAA.toD v118::AV.mp 24::dd 10 (yi v97::dd 135 (yi v97::dd 19 (AV.d (D.l 3 JAA.toD a0.Other)::yi (a0.Other.length:Int)::yi (i117:Int)::dd 20 ([])))),N::yB (JAD.av a0)::N::N::yR 88 3 JAA.toD v118::nn 19 (some (OB.map 3 44 (Bh D.i (D.l 1 D.u8) v91))::nn 170 ([]))⟩) ?_ ?_ ?_
    ·exact wk
    ·rintro v118 K119 h;(conv=>whnf);refine .go ?_;(conv=>whnf);refine BO C6 ?_;exact AB wk h
    rintro next120 i117 x121 v118 K119 hii117 hxi117 hwi117 h hK122;(conv=>whnf);refine .go ?_;(conv=>whnf);refine BI (Cd hii117) ?_;(conv=>whnf);refine .go ?_;refine⟨BH (f:=JAA.toD) hii117,JAA.toD x121,hxi117,rfl,?_⟩;revert h;refine AG (fun v123=>⟨X::yr 1 0::X::X::yO 4 JAA.toD v123::AV.mp 24::dd 10 (yi v97::dd 135 (yi v97::dd 19 (AV.d (D.l 3 JAA.toD a0.Other)::yi (a0.Other.length:Int)::yi (i117:Int)::dd 20 ([])))),N::yB (JAD.av a0)::N::N::yR 88 3 JAA.toD v123::nn 19 (some (OB.map 3 44 (Bh D.i (D.l 1 D.u8) v91))::nn 170 ([]))⟩) ?_ ?_
    ·intro k124 h;refine sJ h (fun h=>?_) fun h=>AB wk h;(conv=>whnf);refine .inl (dO ?_);obtain⟨_,g125,h⟩:=AA h;refine⟨Ed (g:=D.u8) g125,?_⟩;(conv=>whnf);refine .inl ?_;refine⟨rfl,?_⟩;refine⟨rfl,?_⟩;obtain⟨v126,g127,h⟩:=AA h;refine⟨rfl,AZ (f:=JAA.toD) (g:=JAA.toD) g127,_,Ab (f:=JAA.toD) g127,?_⟩;(conv=>whnf);refine cO ?_;exact AB wk h
    rintro v123 h;refine⟨_,hwi117,?_⟩;exact hK122 _ _ wk h
   rintro v115 h;exact AB wk h
  rintro v102 h;refine⟨_,rfl,?_⟩;exact hK101 _ _ wk h
 rintro v95 h;(conv=>whnf);refine .inl ?_;refine⟨rfl,?_⟩;cases h;exact⟨rfl,rfl⟩
theorem RH {wl:Prop} {a0:List JAA} {r:(List UInt8)×Int} (h:Hh a0=some r):CallsOK (Wl wl) Tryz.prog 57 [AV.d (D.l 3 JAA.toD a0)] [] (.tup [.d (D.l 1 D.u8 r.1),.d (D.i r.2)]) []:=by
 refine oK Tryz.f57 ⟨rfl,?_⟩;unfold Hh at h;refine⟨a0.length,X10 _,?_⟩;revert h;refine AG (fun _=>⟨y4 a0::dd 88 ([]),nn 89 ([])⟩) ?_ ?_
 ·intro k1 h;revert h;refine Aj 10 3 JAA.toD rfl (fun i2 _=>⟨y4 a0::dd 9 (y4 a0::yi (a0.length:Int)::yi (i2:Int)::dd 76 ([])),nn 89 ([])⟩) ?_ ?_ ?_
  ·exact wk
  ·rintro _ K3 h;(conv=>whnf);refine .go ?_;(conv=>whnf);refine BO C6 ?_;exact AB wk h
  rintro next4 i2 x5 _ K3 hii2 hxi2 hwi2 h hK6;(conv=>whnf);refine .go ?_;(conv=>whnf);refine BI (Cd hii2) ?_;(conv=>whnf);refine .go ?_;refine⟨BH (f:=JAA.toD) hii2,JAA.toD x5,hxi2,rfl,?_⟩;revert h;refine AG (fun v7=>⟨y4 a0::dd 9 (y4 a0::yi (a0.length:Int)::yi (i2:Int)::dd 26 (yb v7::dd 49 ([]))),nn 89 ([])⟩) ?_ ?_
  ·intro k8 h;refine sJ h (fun h=>AB wk h) fun h=>?_;refine sJ h (fun h=>AB wk h) fun h=>?_;refine sJ h (fun h=>AB wk h) fun h=>?_;refine sJ h (fun h=>AB wk h) fun h=>?_;refine⟨x5.Data.length,X10 _,?_⟩;exact AB wk h
  rintro v7 h;(conv=>whnf);refine .go ?_;refine sJ h ?_ ?_<;>intro h
  ·(conv=>whnf);refine .inl ?_;refine⟨rfl,?_⟩;cases h;exact⟨rfl,rfl⟩
  refine⟨_,hwi2,?_⟩;exact hK6 _ _ wk h
 rintro _ h;refine⟨a0.length,X10 _,?_⟩;revert h;refine AG (fun v9=>⟨dd 6 (yO 6 D.u8 v9::dd 82 ([])),nn 6 (yR 5 1 D.u8 v9::nn 82 ([]))⟩) ?_ ?_
 ·intro k10 h;revert h;refine Aj 41 3 JAA.toD rfl (fun i11 v12=>⟨dd 6 (yO 6 D.u8 v12::dd 34 (y4 a0::yi (a0.length:Int)::yi (i11:Int)::dd 45 ([]))),nn 6 (yR 5 1 D.u8 v12::nn 82 ([]))⟩) ?_ ?_ ?_
  ·exact wk
  ·rintro v12 K13 h;(conv=>whnf);refine .go ?_;(conv=>whnf);refine BO C6 ?_;exact AB wk h
  rintro next14 i11 x15 v12 K13 hii11 hxi11 hwi11 h hK16;(conv=>whnf);refine .go ?_;(conv=>whnf);refine BI (Cd hii11) ?_;(conv=>whnf);refine .go ?_;refine⟨BH (f:=JAA.toD) hii11,JAA.toD x15,hxi11,rfl,?_⟩;refine⟨x15.Data.length,X10 _,?_⟩;revert h;refine AG (fun v17=>⟨dd 6 (yO 6 D.u8 v17::X::yr 8 0::dd 32 (y4 a0::yi (a0.length:Int)::yi (i11:Int)::dd 45 ([]))),nn 6 (yR 5 1 D.u8 v17::N::yB (JAA.av x15)::nn 80 ([]))⟩) ?_ ?_
  ·intro k18 h;refine sJ h ?_ ?_<;>intro h
   ·refine⟨_,Ar _,?_⟩;refine⟨_,Ar _,?_⟩;refine⟨_,Ar _,?_⟩;refine⟨_,Ar _,?_⟩;refine⟨by decide,_,rfl,?_⟩;refine⟨_,Ar _,?_⟩;refine⟨_,Ar _,?_⟩;refine⟨rfl,?_⟩;obtain⟨v19,g20,h⟩:=AA h;refine⟨rfl,AZ (f:=D.u8) (g:=D.u8) g20,_,Ab (f:=D.u8) g20,?_⟩;exact AB wk h
   refine⟨_,Ar _,?_⟩;refine⟨_,Ar _,?_⟩;refine⟨_,Ar _,?_⟩;refine⟨_,Ar _,?_⟩;refine⟨rfl,?_⟩;obtain⟨v21,g22,h⟩:=AA h;refine⟨rfl,AZ (f:=D.u8) (g:=D.u8) g22,_,Ab (f:=D.u8) g22,?_⟩;exact AB wk h
  rintro v17 h;obtain⟨v23,g24,h⟩:=AA h;refine⟨rfl,AZ (f:=D.u8) (g:=D.u8) g24,_,Ab (f:=D.u8) g24,?_⟩;refine⟨_,hwi11,?_⟩;exact hK16 _ _ wk h
 rintro v9 h;refine⟨v9.length,by first | exact X10 _ | rfl | (simp only[X10];omega),?_⟩;(conv=>whnf);refine .go ?_;refine sJ h ?_ ?_<;>intro h
 ·(conv=>whnf);refine .inl ?_;refine⟨rfl,?_⟩;cases h;exact⟨rfl,rfl⟩
 (conv=>whnf);refine .inl ?_;refine⟨rfl,?_⟩;cases h;exact⟨rfl,rfl⟩
end Go.AX.Q19
end
section
namespace Go.AX.Q19
open Go Go.AX Go.Proofs
set_option maxRecDepth 100000
set_option maxHeartbeats 4000000
set_option linter.unusedVariables false
theorem GH {wl:Prop} {a0:List JAE} {a1:Bool} {r:(List UInt8)} (h:EJ a0 a1=some r):CallsOK (Wl wl) Tryz.prog 97 [AV.d (D.l 4 JAE.toD a0),AV.d (D.b a1)] [] (.d (D.l 1 D.u8 r)) []:=by
 refine oK Tryz.f97 ⟨rfl,?_⟩;unfold EJ at h;refine⟨a0.length,X10 _,?_⟩;revert h;refine AG (fun v1=>⟨dd 5 (yO 5 D.u8 v1::dd 30 ([])),nn 5 (yR 5 1 D.u8 v1::nn 30 ([]))⟩) ?_ ?_
 ·intro k2 h;revert h;refine Aj 8 4 JAE.toD rfl (fun i3 v4=>⟨X::yb a1::X::X::X::yO 5 D.u8 v4::X::X::y5 a0::yi (a0.length:Int)::yi (i3:Int)::dd 25 ([]),nn 5 (yR 5 1 D.u8 v4::nn 30 ([]))⟩) ?_ ?_ ?_
  ·exact wk
  ·rintro v4 K5 h;(conv=>whnf);refine .go ?_;(conv=>whnf);refine BO C6 ?_;exact AB wk h
  rintro next6 i3 x7 v4 K5 hii3 hxi3 hwi3 h hK8;(conv=>whnf);refine .go ?_;(conv=>whnf);refine BI (Cd hii3) ?_;(conv=>whnf);refine .go ?_;refine⟨BH (f:=JAE.toD) hii3,JAE.toD x7,hxi3,rfl,?_⟩;revert h;refine AG (fun v9=>⟨X::yb a1::X::X::X::yO 5 D.u8 v9::X::X::y5 a0::yi (a0.length:Int)::yi (i3:Int)::dd 25 ([]),nn 5 (yR 5 1 D.u8 v9::nn 30 ([]))⟩) ?_ ?_
  ·intro k10 h;refine sJ h (fun h=>?_) fun h=>AB wk h;(conv=>whnf);refine .inl (dO ?_);refine⟨_,Ar _,?_⟩;refine⟨rfl,?_⟩;obtain⟨v11,g12,h⟩:=AA h;refine⟨rfl,AZ (f:=D.u8) (g:=D.u8) g12,_,Ab (f:=D.u8) g12,?_⟩;obtain⟨v13,g14,h⟩:=AA h;refine⟨_,_,GN g14,.inr rfl,?_⟩;refine⟨_,rfl,?_⟩;refine⟨by decide,_,rfl,?_⟩;(conv=>whnf);refine .inr (.inl ?_);obtain⟨_,g15,h⟩:=AA h;have g21c:=Eb g15;refine⟨ZO (f:=D.u8) g15,rfl,(Int.toNat 0),(Int.toNat (AN (Int.tdiv (AN (x7.Len + 7)) 8)) - Int.toNat 0),rfl,rfl,?_⟩;refine⟨(by first | rfl | (simp only[X10,X21];omega)|(simp only[cpy,X10,X21,X11,X18,X17,X20];omega)),List.map D.u8 (List.take (Int.toNat (AN (Int.tdiv (AN (x7.Len + 7)) 8)) - Int.toNat 0) (List.drop (Int.toNat 0) v13)),WP,?_⟩;obtain⟨v16,g17,h⟩:=AA h;refine⟨rfl,AZ (f:=D.u8) (g:=D.u8) g17,_,Ab (f:=D.u8) g17,?_⟩;(conv=>whnf);refine cO ?_;exact AB wk h
  rintro v9 h;refine⟨_,hwi3,?_⟩;exact hK8 _ _ wk h
 rintro v1 h;(conv=>whnf);refine .inl ?_;(conv=>whnf);refine .inl ?_;refine⟨rfl,?_⟩;cases h;exact⟨rfl,rfl⟩
theorem NM {wl:Prop} {a0:List JAA} {a1:JAA} {r:(List JAA)} (h:F9 a0 a1=some r):CallsOK (Wl wl) Tryz.prog 98 [AV.d (D.l 3 JAA.toD a0),AV.d (JAA.toD a1)] [] (.d (D.l 3 JAA.toD r)) []:=by
 refine oK Tryz.f98 ⟨rfl,?_⟩;unfold F9 at h;revert h;refine AG (fun v1=>⟨y4 a0::X::X::yr 3 0::X::yi v1::dd 27 ([]),N::N::N::yB (JAA.av a1)::nn 29 ([])⟩) ?_ ?_
 ·intro k2 h;revert h;refine Am (fun v3=>⟨y4 a0::X::X::yr 3 0::X::yi v3::dd 27 ([]),N::N::N::yB (JAA.av a1)::nn 29 ([])⟩) ?_ ?_
  ·exact wk
  rintro next4 v3 K5 h hK6;revert h;refine AG (fun v7=>⟨y4 a0::X::X::yr 3 0::X::yi v3::dd 13 (yb v7::dd 13 ([])),N::N::N::yB (JAA.av a1)::nn 29 ([])⟩) ?_ ?_
  ·intro k8 h;(conv=>whnf);refine .inl (dO ?_);refine⟨a0.length,X10 _,?_⟩;refine sJ h ?_ ?_<;>intro h
   ·obtain⟨v9,g10,h⟩:=AA h;refine⟨Af (f:=JAA.toD) g10,JAA.toD v9,Ag (f:=JAA.toD) g10,rfl,?_⟩;(conv=>whnf);refine cO ?_;exact AB wk h
   (conv=>whnf);refine cO ?_;exact AB wk h
  rintro v7 h;(conv=>whnf);refine .go ?_;refine sJ h (fun h=>?_) fun h=>AB wk h;(conv=>whnf);refine .go ?_;refine⟨_,rfl,?_⟩;exact hK6 _ _ wk h
 rintro v1 h;(conv=>whnf);refine .inl (dO ?_);obtain⟨v11,g12,h⟩:=AA h;refine⟨FP (f:=JAA.toD) g12,_,EL (f:=JAA.toD) g12,?_⟩;obtain⟨_,g13,h⟩:=AA h;refine⟨Ed (g:=JAA.toD) g13,?_⟩;refine⟨rfl,?_⟩;obtain⟨v14,g15,h⟩:=AA h;refine⟨rfl,AZ (f:=JAA.toD) (g:=JAA.toD) g15,_,Ab (f:=JAA.toD) g15,?_⟩;obtain⟨v16,g17,h⟩:=AA h;refine⟨FY (f:=JAA.toD) g17,_,Fa (f:=JAA.toD) g17,?_⟩;obtain⟨v18,g19,h⟩:=AA h;refine⟨rfl,AZ (f:=JAA.toD) (g:=JAA.toD) g19,_,Ab (f:=JAA.toD) g19,?_⟩;(conv=>whnf);refine cO ?_;(conv=>whnf);refine .inl ?_;(conv=>whnf);refine .inl ?_;refine⟨rfl,?_⟩;cases h;exact⟨rfl,rfl⟩
theorem KG {wl:Prop} {a0:JAG} {r:(List UInt8)×Int} (h:E6 a0=some r):CallsOK (Wl wl) Tryz.prog 50 [AV.d (JAG.toD a0)] [] (.tup [.d (D.l 1 D.u8 r.1),.d (D.i r.2)]) []:=by
 refine oK Tryz.f50 ⟨rfl,?_⟩;unfold E6 at h;refine⟨a0.Announce.length,X10 _,?_⟩;revert h;refine AG (fun v1=>⟨X::yr 1 0::X::X::y4 v1::dd 91 ([]),N::yB (JAG.av a0)::nn 94 ([])⟩) ?_ ?_
 ·intro k2 h;refine sJ h (fun h=>?_) fun h=>AB wk h;obtain⟨⟨v3,v4⟩,g5,h⟩:=AA h;refine⟨_,_,some [],QZ g5,?_⟩;(conv=>whnf);refine .go ?_;refine sJ h (fun h=>?_) fun h=>AB wk h;cases h;exact⟨rfl,rfl⟩
 rintro v1 h;obtain⟨v6,g7,h⟩:=AA h;refine⟨_,_,some [],GH g7,?_⟩;refine⟨v6.length,X10 _,?_⟩;revert h;refine AG (fun v8=>⟨X::yr 1 0::X::X::y4 v8::dd 91 ([]),N::yB (JAG.av a0)::nn 94 ([])⟩) ?_ ?_
 ·intro k9 h;refine sJ h (fun h=>?_) fun h=>AB wk h;obtain⟨v10,g11,h⟩:=AA h;refine⟨_,_,some [38],GN g11,?_⟩;refine⟨rfl,?_⟩;obtain⟨v12,g13,h⟩:=AA h;refine⟨rfl,AZ (f:=D.u8) (g:=D.u8) g13,_,Ab (f:=D.u8) g13,?_⟩;refine⟨rfl,?_⟩;obtain⟨v14,g15,h⟩:=AA h;refine⟨rfl,AZ (f:=D.u8) (g:=D.u8) g15,_,Ab (f:=D.u8) g15,?_⟩;obtain⟨v16,g17,h⟩:=AA h;refine⟨rfl,AZ (f:=D.u8) (g:=D.u8) g17,_,Ab (f:=D.u8) g17,?_⟩;refine⟨rfl,?_⟩;obtain⟨v18,g19,h⟩:=AA h;refine⟨_,_,some [],NM g19,?_⟩;exact AB wk h
 rintro v8 h;obtain⟨v20,g21,h⟩:=AA h;refine⟨_,_,some [],GH g21,?_⟩;refine⟨v20.length,X10 _,?_⟩;revert h;refine AG (fun v22=>⟨X::yr 1 0::X::X::y4 v22::dd 91 ([]),N::yB (JAG.av a0)::nn 94 ([])⟩) ?_ ?_
 ·intro k23 h;refine sJ h (fun h=>?_) fun h=>AB wk h;obtain⟨v24,g25,h⟩:=AA h;refine⟨rfl,AZ (f:=D.u8) (g:=D.u8) g25,_,Ab (f:=D.u8) g25,?_⟩;refine⟨rfl,?_⟩;obtain⟨v26,g27,h⟩:=AA h;refine⟨_,_,some [],NM g27,?_⟩;exact AB wk h
 rintro v22 h;obtain⟨⟨v28,v29⟩,g30,h⟩:=AA h;refine⟨_,_,some [],RH g30,?_⟩;(conv=>whnf);refine .go ?_;refine sJ h ?_ ?_<;>intro h
 ·(conv=>whnf);refine .inl ?_;refine⟨rfl,?_⟩;cases h;exact⟨rfl,rfl⟩
 obtain⟨v31,g32,h⟩:=AA h;refine⟨_,_,some [],GH g32,?_⟩;refine⟨v31.length,X10 _,?_⟩;refine⟨by decide,_,rfl,?_⟩;refine⟨_,Ar _,?_⟩;refine⟨v31.length,X10 _,?_⟩;refine⟨_,Ar _,?_⟩;obtain⟨v33,g34,h⟩:=AA h;refine⟨rfl,AZ (f:=D.u8) (g:=D.u8) g34,_,Ab (f:=D.u8) g34,?_⟩;refine⟨v28.length,X10 _,?_⟩;refine⟨by decide,_,rfl,?_⟩;refine⟨_,Ar _,?_⟩;refine⟨v28.length,X10 _,?_⟩;refine⟨_,Ar _,?_⟩;refine⟨rfl,?_⟩;obtain⟨v35,g36,h⟩:=AA h;refine⟨rfl,AZ (f:=D.u8) (g:=D.u8) g36,_,Ab (f:=D.u8) g36,?_⟩;obtain⟨v37,g38,h⟩:=AA h;refine⟨rfl,AZ (f:=D.u8) (g:=D.u8) g38,_,Ab (f:=D.u8) g38,?_⟩;obtain⟨v39,g40,h⟩:=AA h;refine⟨_,_,some [],GH g40,?_⟩;obtain⟨v41,g42,h⟩:=AA h;refine⟨rfl,AZ (f:=D.u8) (g:=D.u8) g42,_,Ab (f:=D.u8) g42,?_⟩;(conv=>whnf);refine .inl ?_;refine⟨rfl,?_⟩;cases h;exact⟨rfl,rfl⟩
theorem Hz {wl:Prop} {a0:JAG} {r:Bool} (h:E1 a0=some r):CallsOK (Wl wl) Tryz.prog 21 [AV.d (JAG.toD a0)] [] (.d (D.b r)) []:=by
 refine oK Tryz.f21 ⟨rfl,?_⟩;unfold E1 at h;revert h;refine AG (fun v1=>⟨X::yr 1 0::dd 16 (yb v1::dd 73 ([])),N::yB (JAG.av a0)::nn 90 ([])⟩) ?_ ?_
 ·intro k2 h;refine⟨a0.Withdraw.length,X10 _,?_⟩;refine sJ h (fun h=>AB wk h) fun h=>?_;refine⟨a0.Announce.length,X10 _,?_⟩;exact AB wk h
 rintro v1 h;(conv=>whnf);refine .go ?_;refine sJ h ?_ ?_<;>intro h
 ·cases h;exact⟨rfl,rfl⟩
 (conv=>whnf);refine .inl (dO ?_);obtain⟨_,g3,h⟩:=AA h;refine⟨Ed (g:=JAE.toD) g3,?_⟩;obtain⟨v4,g5,h⟩:=AA h;refine⟨rfl,AZ (f:=JAE.toD) (g:=JAE.toD) g5,_,Ab (f:=JAE.toD) g5,?_⟩;refine⟨v4.length,by first | exact X10 _ | rfl | (simp only[X10];omega),?_⟩;(conv=>whnf);refine cO ?_;revert h;refine AG (fun _=>⟨X::yr 1 0::dd 90 ([]),N::yB (JAG.av a0)::nn 90 ([])⟩) ?_ ?_
 ·intro k6 h;revert h;refine MO 21 41 4 .no JAE.toD rfl (fun i7 _=>⟨X::yr 1 0::dd 22 (yO 21 JAE.toD v4::yi (v4.length:Int)::yi (i7:Int)::dd 65 ([])),N::yB (JAG.av a0)::nn 19 (yR 41 4 JAE.toD v4::nn 70 ([]))⟩) ?_ ?_ ?_
  ·exact wk
  ·rintro _ K8 h;(conv=>whnf);refine .go ?_;(conv=>whnf);refine BO C6 ?_;exact AB wk h
  rintro next9 i7 x10 _ K8 hii7 hxi7 hwi7 h hK11;(conv=>whnf);refine .go ?_;(conv=>whnf);refine BI (Cd hii7) ?_;(conv=>whnf);refine .go ?_;refine⟨rfl,BH (f:=JAE.toD) hii7,?_⟩;refine⟨rfl,JAE.toD x10,hxi7,?_⟩;obtain⟨v12,g13,h⟩:=AA h;refine⟨_,_,some [],Qk g13,?_⟩;(conv=>whnf);refine .go ?_;refine sJ h ?_ ?_<;>intro h
  ·cases h;exact⟨rfl,rfl⟩
  refine⟨_,hwi7,?_⟩;exact hK11 _ _ wk h
 rintro _ h;revert h;refine AG (fun v14=>⟨X::yr 1 0::dd 42 (yb v14::dd 47 ([])),N::yB (JAG.av a0)::nn 90 ([])⟩) ?_ ?_
 ·intro k15 h;(conv=>whnf);refine .inl (dO ?_);refine⟨a0.Announce.length,X10 _,?_⟩;refine sJ h ?_ ?_<;>intro h
  ·obtain⟨v16,g17,h⟩:=AA h;refine⟨_,_,J7 g17,.inl rfl,?_⟩;obtain⟨v18,g19,h⟩:=AA h;refine⟨_,_,RN g19,.inl rfl,?_⟩;(conv=>whnf);refine cO ?_;exact AB wk h
  (conv=>whnf);refine cO ?_;exact AB wk h
 rintro v14 h;(conv=>whnf);refine .go ?_;refine sJ h ?_ ?_<;>intro h
 ·cases h;exact⟨rfl,rfl⟩
 refine⟨a0.Announce.length,X10 _,?_⟩;revert h;refine AG (fun _=>⟨X::yr 1 0::dd 90 ([]),N::yB (JAG.av a0)::nn 90 ([])⟩) ?_ ?_
 ·intro k20 h;revert h;refine Aj 46 4 JAE.toD rfl (fun i21 _=>⟨X::yr 1 0::dd 44 (AV.d (D.l 4 JAE.toD a0.Announce)::yi (a0.Announce.length:Int)::yi (i21:Int)::dd 43 ([])),N::yB (JAG.av a0)::nn 90 ([])⟩) ?_ ?_ ?_
  ·exact wk
  ·rintro _ K22 h;(conv=>whnf);refine .go ?_;(conv=>whnf);refine BO C6 ?_;exact AB wk h
  rintro next23 i21 x24 _ K22 hii21 hxi21 hwi21 h hK25;(conv=>whnf);refine .go ?_;(conv=>whnf);refine BI (Cd hii21) ?_;(conv=>whnf);refine .go ?_;refine⟨BH (f:=JAE.toD) hii21,JAE.toD x24,hxi21,rfl,?_⟩;revert h;refine AG (fun v26=>⟨X::yr 1 0::dd 44 (AV.d (D.l 4 JAE.toD a0.Announce)::yi (a0.Announce.length:Int)::yi (i21:Int)::dd 29 (yb v26::dd 13 ([]))),N::yB (JAG.av a0)::nn 90 ([])⟩) ?_ ?_
  ·intro k27 h;refine sJ h (fun h=>AB wk h) fun h=>?_;refine sJ h (fun h=>AB wk h) fun h=>?_;refine sJ h (fun h=>AB wk h) fun h=>?_;obtain⟨v28,g29,h⟩:=AA h;refine⟨_,_,some [],KP g29,?_⟩;exact AB wk h
  rintro v26 h;(conv=>whnf);refine .go ?_;refine sJ h ?_ ?_<;>intro h
  ·cases h;exact⟨rfl,rfl⟩
  refine⟨_,hwi21,?_⟩;exact hK25 _ _ wk h
 rintro _ h;obtain⟨⟨v30,v31⟩,g32,h⟩:=AA h;refine⟨_,_,some [],KG g32,?_⟩;revert h;refine AG (fun v33=>⟨X::X::yb v33::dd 89 ([]),nn 92 ([])⟩) ?_ ?_
 ·intro k34 h;refine sJ h (fun h=>?_) fun h=>AB wk h;refine⟨v30.length,X10 _,?_⟩;exact AB wk h
 rintro v33 h;cases h;exact⟨rfl,rfl⟩
theorem Ky {wl:Prop} {a0:JAI} {r:JAG×JAI} (h:EB a0=some r):CallsOK (Wl wl) Tryz.prog 13 [.ref 0 0] [.box (JAI.av a0)] (.d (JAG.toD r.1)) [.box (JAI.av r.2)]:=by
 refine okx 2 Tryz.f13 (by kernel_rfl) (by kernel_rfl) ⟨rfl,?_⟩;unfold EB at h;revert h;refine AG (fun _=>⟨yr 0 0::X::yr 3 0::dd 5 (AV.d (D.agg [D.i (-1),D.nil 2,D.b false,D.u64 (0:UInt64),D.u64 (0:UInt64),D.i (-1),D.i (-1),D.i (-1),D.nil 2,D.nil 3,D.nil 3])::dd 67 ([])),yB (JAI.av a0)::N::N::yB JAG.zv::nn 75 ([])⟩) ?_ ?_
 ·intro k1 h;(conv=>whnf);refine inl Tryz.f17 77 (by kernel_rfl) (by kernel_rfl) ⟨rfl,?_⟩;exact AB wk h
 rintro _ h;obtain⟨⟨v2,v3⟩,g4,h⟩:=AA h;refine⟨_,_,some [],AK g4,?_⟩;revert h;refine AG (fun (v5,v6)=>⟨yr 0 0::X::yr 3 0::yr 4 0::dd 72 ([]),yB (JAI.av v5)::N::N::yB JAG.zv::yB [yO 22 JAE.toD v6,yi (-1),AV.d (D.nil 2),yb false,yu (0:UInt64),yu (0:UInt64),yi (-1),yi (-1),yi (-1),AV.d (D.nil 2),AV.d (D.nil 3),AV.d (D.nil 3),AV.d (D.nil 4)]::nn 17 (yR 41 4 JAE.toD v6::nn 56 ([]))⟩) ?_ ?_
 ·intro k7 h;revert h;refine Am (fun (v8,v9,v10)=>⟨yr 0 0::X::yr 3 0::yr 4 0::yi v8::dd 71 ([]),yB (JAI.av v9)::N::N::yB JAG.zv::yB [yO 22 JAE.toD v10,yi (-1),AV.d (D.nil 2),yb false,yu (0:UInt64),yu (0:UInt64),yi (-1),yi (-1),yi (-1),AV.d (D.nil 2),AV.d (D.nil 3),AV.d (D.nil 3),AV.d (D.nil 4)]::nn 17 (yR 41 4 JAE.toD v10::nn 56 ([]))⟩) ?_ ?_
  ·exact wk
  rintro next11 ⟨v8,v9,v10⟩ K12 h hK13;(conv=>whnf);refine .go ?_;refine sJ h (fun h=>?_) fun h=>AB wk h;(conv=>whnf);refine .go ?_;(conv=>whnf);refine .inl (dO ?_);obtain⟨⟨v14,v15⟩,g16,h⟩:=AA h;refine⟨_,_,D3 g16,.inl rfl,?_⟩;refine⟨rfl,?_⟩;obtain⟨v17,g18,h⟩:=AA h;refine⟨rfl,AZ (f:=JAE.toD) (g:=JAE.toD) g18,_,Ab (f:=JAE.toD) g18,?_⟩;(conv=>whnf);refine cO ?_;refine⟨_,rfl,?_⟩;exact hK13 _ _ wk h
 rintro⟨v5,v6⟩ h;obtain⟨⟨v19,v20⟩,g21,h⟩:=AA h;refine⟨_,_,some [],AK g21,?_⟩;(conv=>whnf);refine .go ?_;refine sJ h ?_ ?_<;>intro h
 ·(conv=>whnf);refine .inl ?_;refine⟨rfl,?_⟩;cases h;exact⟨rfl,rfl⟩
 obtain⟨⟨v22,v23⟩,g24,h⟩:=AA h;refine⟨_,_,some [],AK g24,?_⟩;obtain⟨⟨v25,v26⟩,g27,h⟩:=AA h;refine⟨_,_,some [],AK g27,?_⟩;revert h;refine AG (fun (v28,v29)=>⟨yr 0 0::X::yr 3 0::yr 4 0::X::yb (v22==1)::dd 70 ([]),yB (JAI.av v28)::N::N::yB JAG.zv::yB [yO 22 JAE.toD v6,yi (-1),AV.d (D.nil 2),yb false,yu (0:UInt64),yu (0:UInt64),yi (-1),yi (-1),yi (-1),AV.d (D.nil 2),AV.d (D.nil 3),AV.d (D.nil 3),yO 48 JAE.toD v29]::nn 17 (yR 41 4 JAE.toD v6::nn 25 (yR 41 4 JAE.toD v29::nn 30 ([])))⟩) ?_ ?_
 ·intro k30 h;revert h;refine Am (fun (v31,v32,v33)=>⟨yr 0 0::X::yr 3 0::yr 4 0::X::yb (v22==1)::yi v31::dd 69 ([]),yB (JAI.av v32)::N::N::yB JAG.zv::yB [yO 22 JAE.toD v6,yi (-1),AV.d (D.nil 2),yb false,yu (0:UInt64),yu (0:UInt64),yi (-1),yi (-1),yi (-1),AV.d (D.nil 2),AV.d (D.nil 3),AV.d (D.nil 3),yO 48 JAE.toD v33]::nn 17 (yR 41 4 JAE.toD v6::nn 25 (yR 41 4 JAE.toD v33::nn 30 ([])))⟩) ?_ ?_
  ·exact wk
  rintro next34 ⟨v31,v32,v33⟩ K35 h hK36;(conv=>whnf);refine .go ?_;refine sJ h (fun h=>?_) fun h=>AB wk h;(conv=>whnf);refine .go ?_;obtain⟨⟨v37,v38⟩,g39,h⟩:=AA h;refine⟨_,_,some [],D3 g39,?_⟩;revert h;refine AG (fun v40=>⟨yr 0 0::X::yr 3 0::yr 4 0::X::yb (v22==1)::yi v31::dd 69 ([]),yB (JAI.av v38)::N::N::yB JAG.zv::yB [yO 22 JAE.toD v6,yi (-1),AV.d (D.nil 2),yb false,yu (0:UInt64),yu (0:UInt64),yi (-1),yi (-1),yi (-1),AV.d (D.nil 2),AV.d (D.nil 3),AV.d (D.nil 3),yO 48 JAE.toD v40]::nn 17 (yR 41 4 JAE.toD v6::nn 25 (yR 41 4 JAE.toD v40::nn 30 ([])))⟩) ?_ ?_
  ·intro k41 h;refine sJ h (fun h=>?_) fun h=>AB wk h;refine⟨rfl,?_⟩;obtain⟨v42,g43,h⟩:=AA h;refine⟨rfl,AZ (f:=JAE.toD) (g:=JAE.toD) g43,_,Ab (f:=JAE.toD) g43,?_⟩;exact AB wk h
  rintro v40 h;refine⟨_,rfl,?_⟩;exact hK36 _ _ wk h
 rintro⟨v28,v29⟩ h;refine⟨v29.length,by first | exact X10 _ | rfl | (simp only[X10];omega),?_⟩;(conv=>whnf);refine .go ?_;refine sJ h ?_ ?_<;>intro h
 ·(conv=>whnf);refine .inl ?_;refine⟨rfl,?_⟩;refine⟨rfl,?_⟩;cases h;exact⟨rfl,rfl⟩
 obtain⟨⟨v44,v45⟩,g46,h⟩:=AA h;refine⟨_,_,some [],H5 g46,?_⟩;refine⟨_,rfl,?_⟩;obtain⟨v47,g48,h⟩:=AA h;refine⟨_,_,some [],MA g48,?_⟩;revert h;refine AG (fun (v49,v50,v51)=>⟨X::X::yr 3 0::yr 4 0::dd 72 ([]),yB (JAI.av v45)::N::N::yB JAG.zv::yB [yO 22 JAE.toD v6,yi (if v44.Origin > 0 then v44.Origin else 0),AV.d (D.l 2 JAC.toD v44.Path),yb v49,yu v50,yu v51,AV.d (D.i v44.MED),AV.d (D.i v44.Pref),AV.d (D.i v44.OTC),AV.d (D.l 2 JAB.toD v44.Communities),AV.d (D.l 3 JAF.toD v44.JAF),AV.d (D.l 3 JAA.toD v44.Other),yO 48 JAE.toD v29]::nn 17 (yR 41 4 JAE.toD v6::nn 25 (yR 41 4 JAE.toD v29::nn 30 ([])))⟩) ?_ ?_
 ·intro k52 h;refine sJ h (fun h=>?_) fun h=>AB wk h;obtain⟨v53,g54,h⟩:=AA h;refine⟨_,_,some [],O9 g54,?_⟩;exact AB wk h
 rintro⟨v49,v50,v51⟩ h;refine⟨rfl,?_⟩;refine⟨rfl,?_⟩;obtain⟨v55,g56,h⟩:=AA h;refine⟨_,_,none,Hz g56,?_⟩;(conv=>whnf);refine .go ?_;refine sJ h ?_ ?_<;>intro h
 ·revert h;refine AG (fun _=>⟨X::X::yr 3 0::dd 70 (AV.d (D.agg [D.i (-1),D.nil 2,D.b false,D.u64 (0:UInt64),D.u64 (0:UInt64),D.i (-1),D.i (-1),D.i (-1),D.nil 2,D.nil 3,D.nil 3])::X::X::[]),yB (JAI.av v45)::N::N::yB JAG.zv::nn 75 ([])⟩) ?_ ?_
  ·intro k57 h;(conv=>whnf);refine inl Tryz.f17 77 (by kernel_rfl) (by kernel_rfl) ⟨rfl,?_⟩;exact AB wk h
  rintro _ h;cases h;exact⟨rfl,rfl⟩
 (conv=>whnf);refine .inl ?_;refine⟨rfl,?_⟩;refine⟨rfl,?_⟩;cases h;exact⟨rfl,rfl⟩
theorem Rb {wl:Prop} {a0:List UInt8} {a1:Int} {r:(List UInt8)} (h:Ho a0 a1=some r):CallsOK (Wl wl) Tryz.prog 87 [AV.own 0 (List.map D.u8 a0).length,AV.d (D.i a1)] [.row 5 1 (List.map D.u8 a0) .no] (AV.own 0 (List.map D.u8 r).length) [.row 5 1 (List.map D.u8 r) .no]:=by
 refine oK Tryz.f87 ⟨rfl,?_⟩;unfold Ho at h;refine⟨by decide,_,rfl,?_⟩;refine⟨_,Ar _,?_⟩;refine⟨_,Ar _,?_⟩;refine⟨rfl,?_⟩;obtain⟨v1,g2,h⟩:=AA h;refine⟨rfl,AZ (f:=D.u8) (g:=D.u8) g2,_,Ab (f:=D.u8) g2,?_⟩;(conv=>whnf);refine .inl ?_;cases h;exact⟨rfl,rfl⟩
theorem Bg {wl:Prop} {a0:Int} {a1:Int} {a2:Int} {r:Bool} (h:A4 a0 a1 a2=some r):CallsOK (Wl wl) Tryz.prog 118 [AV.d (D.i a0),AV.d (D.i a1),AV.d (D.i a2)] [] (.d (D.b r)) []:=by
 refine oK Tryz.f118 ⟨rfl,?_⟩;unfold A4 at h;revert h;refine AG (fun v1=>⟨dd 6 (yb v1::dd 8 ([])),nn 15 ([])⟩) ?_ ?_
 ·intro k2 h;exact sJ h (fun h=>AB wk h) fun h=>AB wk h
 rintro v1 h;cases h;exact⟨rfl,rfl⟩
theorem NU {wl:Prop} {a0:List JAA} {r:(List UInt8)×Int} (h:Em a0=some r):CallsOK (Wl wl) Tryz.prog 94 [AV.d (D.l 3 JAA.toD a0)] [] (.tup [.d (D.l 1 D.u8 r.1),.d (D.i r.2)]) []:=by
 refine oK Tryz.f94 ⟨rfl,?_⟩;unfold Em at h;refine⟨a0.length,X10 _,?_⟩;revert h;refine AG (fun _=>⟨y4 a0::dd 79 ([]),nn 80 ([])⟩) ?_ ?_
 ·intro k1 h;revert h;refine Aj 11 3 JAA.toD rfl (fun i2 _=>⟨y4 a0::dd 10 (y4 a0::yi (a0.length:Int)::yi (i2:Int)::dd 66 ([])),nn 80 ([])⟩) ?_ ?_ ?_
  ·exact wk
  ·rintro _ K3 h;(conv=>whnf);refine .go ?_;(conv=>whnf);refine BO C6 ?_;exact AB wk h
  rintro next4 i2 x5 _ K3 hii2 hxi2 hwi2 h hK6;(conv=>whnf);refine .go ?_;(conv=>whnf);refine BI (Cd hii2) ?_;(conv=>whnf);refine .go ?_;refine⟨BH (f:=JAA.toD) hii2,JAA.toD x5,hxi2,rfl,?_⟩;revert h;refine AG (fun v7=>⟨y4 a0::dd 10 (y4 a0::yi (a0.length:Int)::yi (i2:Int)::dd 18 (yb v7::dd 47 ([]))),nn 80 ([])⟩) ?_ ?_
  ·intro k8 h;obtain⟨v9,g10,h⟩:=AA h;refine⟨_,_,some [],Bg g10,?_⟩;refine sJ h (fun h=>AB wk h) fun h=>?_;obtain⟨v11,g12,h⟩:=AA h;refine⟨_,_,some [],Bg g12,?_⟩;refine sJ h (fun h=>AB wk h) fun h=>?_;refine⟨x5.Data.length,X10 _,?_⟩;exact AB wk h
  rintro v7 h;(conv=>whnf);refine .go ?_;refine sJ h ?_ ?_<;>intro h
  ·(conv=>whnf);refine .inl ?_;refine⟨rfl,?_⟩;cases h;exact⟨rfl,rfl⟩
  refine⟨_,hwi2,?_⟩;exact hK6 _ _ wk h
 rintro _ h;refine⟨a0.length,X10 _,?_⟩;revert h;refine AG (fun v13=>⟨dd 6 (yO 6 D.u8 v13::dd 73 ([])),nn 6 (yR 5 1 D.u8 v13::nn 73 ([]))⟩) ?_ ?_
 ·intro k14 h;revert h;refine Aj 34 3 JAA.toD rfl (fun i15 v16=>⟨dd 6 (yO 6 D.u8 v16::dd 27 (y4 a0::yi (a0.length:Int)::yi (i15:Int)::dd 43 ([]))),nn 6 (yR 5 1 D.u8 v16::nn 73 ([]))⟩) ?_ ?_ ?_
  ·exact wk
  ·rintro v16 K17 h;(conv=>whnf);refine .go ?_;(conv=>whnf);refine BO C6 ?_;exact AB wk h
  rintro next18 i15 x19 v16 K17 hii15 hxi15 hwi15 h hK20;(conv=>whnf);refine .go ?_;(conv=>whnf);refine BI (Cd hii15) ?_;(conv=>whnf);refine .go ?_;refine⟨BH (f:=JAA.toD) hii15,JAA.toD x19,hxi15,rfl,?_⟩;(conv=>whnf);refine .inl (dO ?_);refine⟨_,Ar _,?_⟩;refine⟨_,Ar _,?_⟩;refine⟨x19.Data.length,X10 _,?_⟩;(conv=>whnf);refine cO ?_;revert h;refine AG (fun v21=>⟨dd 6 (yO 6 D.u8 v21::X::yr 8 0::dd 25 (y4 a0::yi (a0.length:Int)::yi (i15:Int)::dd 43 ([]))),nn 6 (yR 5 1 D.u8 v21::N::yB (JAA.av x19)::nn 71 ([]))⟩) ?_ ?_
  ·intro k22 h;refine sJ h ?_ ?_<;>intro h
   ·refine⟨_,Ar _,?_⟩;refine⟨_,Ar _,?_⟩;refine⟨by decide,_,rfl,?_⟩;refine⟨_,Ar _,?_⟩;refine⟨_,Ar _,?_⟩;refine⟨rfl,?_⟩;obtain⟨v23,g24,h⟩:=AA h;refine⟨rfl,AZ (f:=D.u8) (g:=D.u8) g24,_,Ab (f:=D.u8) g24,?_⟩;exact AB wk h
   refine⟨_,Ar _,?_⟩;refine⟨_,Ar _,?_⟩;refine⟨rfl,?_⟩;obtain⟨v25,g26,h⟩:=AA h;refine⟨rfl,AZ (f:=D.u8) (g:=D.u8) g26,_,Ab (f:=D.u8) g26,?_⟩;exact AB wk h
  rintro v21 h;obtain⟨v27,g28,h⟩:=AA h;refine⟨rfl,AZ (f:=D.u8) (g:=D.u8) g28,_,Ab (f:=D.u8) g28,?_⟩;refine⟨v27.length,by first | exact X10 _ | rfl | (simp only[X10];omega),?_⟩;(conv=>whnf);refine .go ?_;refine sJ h ?_ ?_<;>intro h
  ·(conv=>whnf);refine .inl ?_;refine⟨rfl,?_⟩;cases h;exact⟨rfl,rfl⟩
  refine⟨_,hwi15,?_⟩;exact hK20 _ _ wk h
 rintro v13 h;(conv=>whnf);refine .inl ?_;refine⟨rfl,?_⟩;cases h;exact⟨rfl,rfl⟩
theorem Gv {wl:Prop} {a0:Addr} {r:Bool} (h:E8 a0=some r):CallsOK (Wl wl) Tryz.prog 99 [AV.d (Addr.toD a0)] [] (.d (D.b r)) []:=by
 refine oK Tryz.f99 ⟨rfl,?_⟩;unfold E8 at h;revert h;refine AG (fun v1=>⟨X::X::yb v1::dd 12 ([]),nn 15 ([])⟩) ?_ ?_
 ·intro k2 h;refine sJ h (fun h=>AB wk h) fun h=>?_;exact sJ h (fun h=>AB wk h) fun h=>AB wk h
 rintro v1 h;cases h;exact⟨rfl,rfl⟩
end Go.AX.Q19
end
section
namespace Go.AX.Q19
open Go Go.AX Go.Proofs
set_option maxRecDepth 100000
set_option maxHeartbeats 4000000
set_option linter.unusedVariables false
theorem FU {wl:Prop} {a0:Addr} {r:(List UInt8)} (h:BG a0=some r):CallsOK (Wl wl) Tryz.prog 135 [AV.d (Addr.toD a0)] [] (.d (D.l 1 D.u8 r)) []:=by
 refine oK Tryz.f135 ⟨rfl,?_⟩;unfold BG at h;obtain⟨v1,g2,h⟩:=AA h;refine⟨_,_,some [],Gv g2,?_⟩;(conv=>whnf);refine .go ?_;refine sJ h ?_ ?_<;>intro h
 ·(conv=>whnf);refine .inl ?_;cases h;exact⟨rfl,rfl⟩
 revert h;refine AG (fun v3=>⟨X::yr 1 0::X::yi v3::dd 34 ([]),N::yB (Addr.av a0)::nn 36 ([])⟩) ?_ ?_
 ·intro k4 h;exact sJ h (fun h=>AB wk h) fun h=>AB wk h
 rintro v3 h;obtain⟨_,g5,h⟩:=AA h;refine⟨W1 g5 (X29 rfl),D.u8 (0:UInt8),rfl,(List.map D.u8 (List.replicate (Int.toNat v3) (0:UInt8))),List.map_replicate.symm,?_⟩;refine⟨_,rfl,?_⟩;revert h;refine AG (fun v6=>⟨dd 4 (yO 12 D.u8 v6::dd 33 ([])),nn 12 (yR 5 1 D.u8 v6::nn 25 ([]))⟩) ?_ ?_
 ·intro k7 h;revert h;refine Am (fun (v8,v9,v10)=>⟨X::yr 1 0::X::X::yO 12 D.u8 v10::yi v8::dd 32 ([]),N::yB (Addr.av v9)::nn 10 (yR 5 1 D.u8 v10::nn 25 ([]))⟩) ?_ ?_
  ·exact wk
  rintro next11 ⟨v8,v9,v10⟩ K12 h hK13;(conv=>whnf);refine .go ?_;refine sJ h (fun h=>?_) fun h=>AB wk h;(conv=>whnf);refine .go ?_;refine⟨_,Ar _,?_⟩;obtain⟨v14,g15,h⟩:=AA h;refine⟨rfl,Af (f:=D.u8) g15,?_⟩;obtain⟨v16,g17,h⟩:=AA h;have g17l:=Ig g17;refine⟨rfl,rfl,D.u8 v14,(Ag (f:=D.u8) g15),?_⟩;refine⟨_,Nn (f:=D.u8) g17,?_⟩;refine⟨by decide,_,NG v9.Lo _,?_⟩;refine⟨by decide,_,Aq _,?_⟩;refine⟨_,Aq _,?_⟩;refine⟨by decide,_,NG v9.Hi _,?_⟩;refine⟨_,rfl,?_⟩;exact hK13 _ _ wk h
 rintro v6 h;(conv=>whnf);refine .inl ?_;(conv=>whnf);refine .inl ?_;refine⟨rfl,?_⟩;cases h;exact⟨rfl,rfl⟩
theorem JW {wl:Prop} {a0:List UInt8} {a1:List JAE} {a2:Bool} {r:(List UInt8)} (h:EQ a0 a1 a2=some r):CallsOK (Wl wl) Tryz.prog 96 [AV.own 0 (List.map D.u8 a0).length,AV.d (D.l 4 JAE.toD a1),AV.d (D.b a2)] [.row 5 1 (List.map D.u8 a0) .no] (AV.own 0 (List.map D.u8 r).length) [.row 5 1 (List.map D.u8 r) .no]:=by
 refine oK Tryz.f96 ⟨rfl,?_⟩;unfold EQ at h;refine⟨a1.length,X10 _,?_⟩;revert h;refine AG (fun v1=>⟨yO 0 D.u8 v1::dd 36 ([]),yR 5 1 D.u8 v1::nn 37 ([])⟩) ?_ ?_
 ·intro k2 h;revert h;refine Aj 9 4 JAE.toD rfl (fun i3 v4=>⟨yO 0 D.u8 v4::X::yb a2::dd 6 (y5 a1::yi (a1.length:Int)::yi (i3:Int)::dd 25 ([])),yR 5 1 D.u8 v4::nn 37 ([])⟩) ?_ ?_ ?_
  ·exact wk
  ·rintro v4 K5 h;(conv=>whnf);refine .go ?_;(conv=>whnf);refine BO C6 ?_;exact AB wk h
  rintro next6 i3 x7 v4 K5 hii3 hxi3 hwi3 h hK8;(conv=>whnf);refine .go ?_;(conv=>whnf);refine BI (Cd hii3) ?_;(conv=>whnf);refine .go ?_;refine⟨BH (f:=JAE.toD) hii3,JAE.toD x7,hxi3,rfl,?_⟩;revert h;refine AG (fun v9=>⟨yO 0 D.u8 v9::X::yb a2::dd 6 (y5 a1::yi (a1.length:Int)::yi (i3:Int)::dd 25 ([])),yR 5 1 D.u8 v9::nn 37 ([])⟩) ?_ ?_
  ·intro k10 h;refine sJ h (fun h=>?_) fun h=>AB wk h;(conv=>whnf);refine .inl (dO ?_);refine⟨_,Ar _,?_⟩;refine⟨rfl,?_⟩;obtain⟨v11,g12,h⟩:=AA h;refine⟨rfl,AZ (f:=D.u8) (g:=D.u8) g12,_,Ab (f:=D.u8) g12,?_⟩;obtain⟨v13,g14,h⟩:=AA h;refine⟨_,_,FU g14,.inl rfl,?_⟩;refine⟨_,rfl,?_⟩;refine⟨by decide,_,rfl,?_⟩;obtain⟨v15,g16,h⟩:=AA h;refine⟨FP (f:=D.u8) g16,_,EL (f:=D.u8) g16,?_⟩;obtain⟨v17,g18,h⟩:=AA h;refine⟨rfl,AZ (f:=D.u8) (g:=D.u8) g18,_,Ab (f:=D.u8) g18,?_⟩;(conv=>whnf);refine cO ?_;exact AB wk h
  rintro v9 h;refine⟨_,hwi3,?_⟩;exact hK8 _ _ wk h
 rintro v1 h;(conv=>whnf);refine .inl ?_;cases h;exact⟨rfl,rfl⟩
theorem Gn {wl:Prop} {a0:Int} {r:Bool} (h:Dy a0=some r):CallsOK (Wl wl) Tryz.prog 139 [AV.d (D.i a0)] [] (.d (D.b r)) []:=by
 refine oK Tryz.f139 ⟨rfl,?_⟩;unfold Dy at h;revert h;refine AG (fun v1=>⟨X::X::yb v1::dd 6 ([]),nn 9 ([])⟩) ?_ ?_
 ·intro k2 h;exact sJ h (fun h=>AB wk h) fun h=>AB wk h
 rintro v1 h;cases h;exact⟨rfl,rfl⟩
theorem JS {wl:Prop} {a0:List JAC} {r:Bool} (h:FB a0=some r):CallsOK (Wl wl) Tryz.prog 138 [AV.d (D.l 2 JAC.toD a0)] [] (.d (D.b r)) []:=by
 refine oK Tryz.f138 ⟨rfl,?_⟩;unfold FB at h;refine⟨a0.length,X10 _,?_⟩;revert h;refine AG (fun v1=>⟨X::X::X::yi v1::dd 71 ([]),nn 75 ([])⟩) ?_ ?_
 ·intro k2 h;revert h;refine Aj 8 2 JAC.toD rfl (fun i3 v4=>⟨y0 a0::X::X::yi v4::dd 4 (y0 a0::yi (a0.length:Int)::yi (i3:Int)::dd 64 ([])),nn 75 ([])⟩) ?_ ?_ ?_
  ·exact wk
  ·rintro v4 K5 h;(conv=>whnf);refine .go ?_;(conv=>whnf);refine BO C6 ?_;exact AB wk h
  rintro next6 i3 x7 v4 K5 hii3 hxi3 hwi3 h hK8;(conv=>whnf);refine .go ?_;(conv=>whnf);refine BI (Cd hii3) ?_;revert h;refine AG (fun _=>⟨y0 a0::X::X::yi (AN (v4 + (x7.ASNs.length:Int)))::dd 4 (y0 a0::yi (a0.length:Int)::yi (i3:Int)::dd 64 ([])),nn 75 ([])⟩) ?_ ?_
  ·intro k9 h;refine⟨BH (f:=JAC.toD) hii3,JAC.toD x7,hxi3,rfl,?_⟩;revert h;refine AG (fun v10=>⟨y0 a0::X::X::yi v4::X::yr 5 0::X::X::y0 a0::yi (a0.length:Int)::yi (i3:Int)::dd 25 (yb v10::dd 38 ([])),nn 5 (yB (JAC.av x7)::nn 69 ([]))⟩) ?_ ?_
   ·intro k11 h;refine⟨x7.ASNs.length,X10 _,?_⟩;refine sJ h (fun h=>AB wk h) fun h=>?_;refine sJ h (fun h=>?_) fun h=>AB wk h;refine sJ h (fun h=>?_) fun h=>AB wk h;refine⟨_,rfl,?_⟩;obtain⟨v12,g13,h⟩:=AA h;refine⟨Af (f:=JAC.toD) g13,JAC.toD v12,Ag (f:=JAC.toD) g13,rfl,?_⟩;exact AB wk h
   rintro v10 h;(conv=>whnf);refine .go ?_;refine sJ h ?_ ?_<;>intro h
   ·cases h;exact⟨rfl,rfl⟩
   refine⟨x7.ASNs.length,X10 _,?_⟩;revert h;refine AG (fun _=>⟨y0 a0::X::X::yi v4::X::yr 5 0::X::X::y0 a0::yi (a0.length:Int)::yi (i3:Int)::dd 64 ([]),nn 5 (yB (JAC.av x7)::nn 69 ([]))⟩) ?_ ?_
   ·intro k14 h;revert h;refine Aj 38 1 D.i rfl (fun i15 _=>⟨y0 a0::X::X::yi v4::X::yr 5 0::X::X::y0 a0::yi (a0.length:Int)::yi (i3:Int)::dd 27 (AV.d (D.l 1 D.i x7.ASNs)::yi (x7.ASNs.length:Int)::yi (i15:Int)::dd 34 ([])),nn 5 (yB (JAC.av x7)::nn 69 ([]))⟩) ?_ ?_ ?_
    ·exact wk
    ·rintro _ K16 h;(conv=>whnf);refine .go ?_;(conv=>whnf);refine BO C6 ?_;exact AB wk h
    rintro next17 i15 x18 _ K16 hii15 hxi15 hwi15 h hK19;(conv=>whnf);refine .go ?_;(conv=>whnf);refine BI (Cd hii15) ?_;(conv=>whnf);refine .go ?_;refine⟨BH (f:=D.i) hii15,D.i x18,hxi15,rfl,?_⟩;revert h;refine AG (fun v20=>⟨y0 a0::X::X::yi v4::X::yr 5 0::X::X::y0 a0::yi (a0.length:Int)::yi (i3:Int)::dd 27 (AV.d (D.l 1 D.i x7.ASNs)::yi (x7.ASNs.length:Int)::yi (i15:Int)::dd 24 (yb v20::dd 9 ([]))),nn 5 (yB (JAC.av x7)::nn 69 ([]))⟩) ?_ ?_
    ·intro k21 h;obtain⟨v22,g23,h⟩:=AA h;refine⟨_,_,some [],Gn g23,?_⟩;refine sJ h (fun h=>AB wk h) fun h=>?_;refine sJ h (fun h=>?_) fun h=>AB wk h;refine sJ h (fun h=>?_) fun h=>AB wk h;refine⟨_,rfl,?_⟩;obtain⟨v24,g25,h⟩:=AA h;refine⟨Af (f:=D.i) g25,D.i v24,Ag (f:=D.i) g25,rfl,?_⟩;exact AB wk h
    rintro v20 h;(conv=>whnf);refine .go ?_;refine sJ h ?_ ?_<;>intro h
    ·cases h;exact⟨rfl,rfl⟩
    refine⟨_,hwi15,?_⟩;exact hK19 _ _ wk h
   rintro _ h;refine⟨x7.ASNs.length,X10 _,?_⟩;refine⟨_,rfl,?_⟩;exact AB wk h
  rintro _ h;refine⟨_,hwi3,?_⟩;exact hK8 _ _ wk h
 rintro v1 h;cases h;exact⟨rfl,rfl⟩
theorem Jh {wl:Prop} {a0:List Int} {r:Int} (h:DO a0=some r):CallsOK (Wl wl) Tryz.prog 188 [AV.d (D.l 1 D.i a0)] [] (.d (D.i r)) []:=by
 refine oK Tryz.f188 ⟨rfl,?_⟩;unfold DO at h;refine⟨a0.length,X10 _,?_⟩;(conv=>whnf);refine .go ?_;refine sJ h ?_ ?_<;>intro h
 ·exact nomatch h
 obtain⟨v1,g2,h⟩:=AA h;refine⟨Af (f:=D.i) g2,D.i v1,Ag (f:=D.i) g2,rfl,?_⟩;revert h;refine AG (fun v3=>⟨X::X::X::yi v3::dd 21 ([]),nn 25 ([])⟩) ?_ ?_
 ·intro k4 h;revert h;refine Am (fun (v5,v6)=>⟨y6 a0::X::X::yi v5::yi v6::dd 20 ([]),nn 25 ([])⟩) ?_ ?_
  ·exact wk
  rintro next7 ⟨v5,v6⟩ K8 h hK9;refine⟨a0.length,X10 _,?_⟩;(conv=>whnf);refine .go ?_;refine sJ h (fun h=>?_) fun h=>AB wk h;(conv=>whnf);refine .go ?_;obtain⟨v10,g11,h⟩:=AA h;refine⟨Af (f:=D.i) g11,D.i v10,Ag (f:=D.i) g11,rfl,?_⟩;refine⟨_,rfl,?_⟩;refine⟨_,rfl,?_⟩;exact hK9 _ _ wk h
 rintro v3 h;cases h;exact⟨rfl,rfl⟩
theorem Jk {wl:Prop} {a0:List Int} {r:Int} (h:DW a0=some r):CallsOK (Wl wl) Tryz.prog 189 [AV.d (D.l 1 D.i a0)] [] (.d (D.i r)) []:=by
 refine oK Tryz.f189 ⟨rfl,?_⟩;unfold DW at h;refine⟨a0.length,X10 _,?_⟩;(conv=>whnf);refine .go ?_;refine sJ h ?_ ?_<;>intro h
 ·exact nomatch h
 obtain⟨v1,g2,h⟩:=AA h;refine⟨Af (f:=D.i) g2,D.i v1,Ag (f:=D.i) g2,rfl,?_⟩;revert h;refine AG (fun v3=>⟨X::X::X::yi v3::dd 21 ([]),nn 25 ([])⟩) ?_ ?_
 ·intro k4 h;revert h;refine Am (fun (v5,v6)=>⟨y6 a0::X::X::yi v5::yi v6::dd 20 ([]),nn 25 ([])⟩) ?_ ?_
  ·exact wk
  rintro next7 ⟨v5,v6⟩ K8 h hK9;refine⟨a0.length,X10 _,?_⟩;(conv=>whnf);refine .go ?_;refine sJ h (fun h=>?_) fun h=>AB wk h;(conv=>whnf);refine .go ?_;obtain⟨v10,g11,h⟩:=AA h;refine⟨Af (f:=D.i) g11,D.i v10,Ag (f:=D.i) g11,rfl,?_⟩;refine⟨_,rfl,?_⟩;refine⟨_,rfl,?_⟩;exact hK9 _ _ wk h
 rintro v3 h;cases h;exact⟨rfl,rfl⟩
theorem HJ {wl:Prop} {a0:Int} {a1:List Int} {r:Bool} (h:DG a0 a1=some r):CallsOK (Wl wl) Tryz.prog 181 [AV.d (D.i a0),AV.d (D.l 1 D.i a1)] [] (.d (D.b r)) []:=by
 refine oK Tryz.f181 ⟨rfl,?_⟩;unfold DG at h;revert h;refine AG (fun v1=>⟨dd 4 (yb v1::dd 9 ([])),nn 14 ([])⟩) ?_ ?_
 ·intro k2 h;obtain⟨v3,g4,h⟩:=AA h;refine⟨_,_,some [],Jh g4,?_⟩;refine sJ h (fun h=>?_) fun h=>AB wk h;obtain⟨v5,g6,h⟩:=AA h;refine⟨_,_,some [],Jk g6,?_⟩;exact AB wk h
 rintro v1 h;cases h;exact⟨rfl,rfl⟩
theorem M9 {wl:Prop} {a0:JAB} {r:Bool} (h:Ey a0=some r):CallsOK (Wl wl) Tryz.prog 163 [AV.d (JAB.toD a0)] [] (.d (D.b r)) []:=by
 refine oK Tryz.f163 ⟨rfl,?_⟩;unfold Ey at h;refine⟨rfl,?_⟩;obtain⟨v1,g2,h⟩:=AA h;refine⟨_,_,none,HJ g2,?_⟩;cases h;exact⟨rfl,rfl⟩
theorem Is {wl:Prop} {a0:Int} {r:Bool} (h:cmp_isNaN_int a0=some r):CallsOK (Wl wl) Tryz.prog 151 [AV.d (D.i a0)] [] (.d (D.b r)) []:=by
 refine oK Tryz.f151 ⟨rfl,?_⟩;unfold cmp_isNaN_int at h;cases h;exact⟨rfl,rfl⟩
theorem Av {wl:Prop} {a0:Int} {a1:Int} {r:Int} (h:cmp_Compare_int a0 a1=some r):CallsOK (Wl wl) Tryz.prog 122 [AV.d (D.i a0),AV.d (D.i a1)] [] (.d (D.i r)) []:=by
 refine oK Tryz.f122 ⟨rfl,?_⟩;unfold cmp_Compare_int at h;obtain⟨v1,g2,h⟩:=AA h;refine⟨_,_,some [],Is g2,?_⟩;obtain⟨v3,g4,h⟩:=AA h;refine⟨_,_,some [],Is g4,?_⟩;(conv=>whnf);refine .go ?_;refine sJ h ?_ ?_<;>intro h
 ·(conv=>whnf);refine .go ?_;refine sJ h ?_ ?_<;>intro h
  ·cases h;exact⟨rfl,rfl⟩
  cases h;exact⟨rfl,rfl⟩
 (conv=>whnf);refine .go ?_;refine sJ h ?_ ?_<;>intro h
 ·cases h;exact⟨rfl,rfl⟩
 (conv=>whnf);refine .go ?_;refine sJ h ?_ ?_<;>intro h
 ·cases h;exact⟨rfl,rfl⟩
 (conv=>whnf);refine .go ?_;refine sJ h ?_ ?_<;>intro h
 ·cases h;exact⟨rfl,rfl⟩
 cases h;exact⟨rfl,rfl⟩
theorem Gu {wl:Prop} {a0:List Int} {r:Int} (h:E5 a0=some r):CallsOK (Wl wl) Tryz.prog 182 [AV.d (D.l 1 D.i a0)] [] (.d (D.i r)) []:=by
 refine oK Tryz.f182 ⟨rfl,?_⟩;unfold E5 at h;refine⟨a0.length,X10 _,?_⟩;revert h;refine AG (fun _=>⟨X::X::X::yi 0::dd 14 ([]),nn 18 ([])⟩) ?_ ?_
 ·intro k1 h;revert h;refine Aj 6 1 D.i rfl (fun i2 _=>⟨X::X::X::yi 0::X::X::y6 a0::yi (a0.length:Int)::yi (i2:Int)::dd 9 ([]),nn 18 ([])⟩) ?_ ?_ ?_
  ·exact wk
  ·rintro _ K3 h;(conv=>whnf);refine .go ?_;(conv=>whnf);refine BO C6 ?_;exact AB wk h
  rintro next4 i2 x5 _ K3 hii2 hxi2 hwi2 h hK6;(conv=>whnf);refine .go ?_;(conv=>whnf);refine BI (Cd hii2) ?_;(conv=>whnf);refine .go ?_;refine⟨BH (f:=D.i) hii2,D.i x5,hxi2,rfl,?_⟩;(conv=>whnf);refine .go ?_;refine sJ h ?_ ?_<;>intro h
  ·cases h;exact⟨rfl,rfl⟩
  refine⟨_,hwi2,?_⟩;exact hK6 _ _ wk h
 rintro _ h;cases h;exact⟨rfl,rfl⟩
theorem KX {wl:Prop} {a0:JAB} {a1:JAB} {r:Int} (h:Dl a0 a1=some r):CallsOK (Wl wl) Tryz.prog 164 [AV.d (JAB.toD a0),AV.d (JAB.toD a1)] [] (.d (D.i r)) []:=by
 refine oK Tryz.f164 ⟨rfl,?_⟩;unfold Dl at h;(conv=>whnf);refine .inl (dO ?_);obtain⟨v1,g2,h⟩:=AA h;refine⟨_,_,Av g2,.inl rfl,?_⟩;obtain⟨v3,g4,h⟩:=AA h;refine⟨_,_,Av g4,.inl rfl,?_⟩;refine⟨rfl,?_⟩;obtain⟨v5,g6,h⟩:=AA h;refine⟨_,_,Gu g6,.inl rfl,?_⟩;(conv=>whnf);refine cO ?_;cases h;exact⟨rfl,rfl⟩
theorem Bl {wl:Prop} {a0:List JAB} {r:Bool} (h:Ad a0=some r):CallsOK (Wl wl) Tryz.prog 162 [AV.d (D.l 2 JAB.toD a0),AV.fn 163 [],AV.fn 164 []] [] (.d (D.b r)) []:=by
 refine oK Tryz.f162 ⟨rfl,?_⟩;unfold Ad at h;refine⟨a0.length,X10 _,?_⟩;revert h;refine AG (fun _=>⟨y1 a0::dd 38 ([]),nn 39 ([])⟩) ?_ ?_
 ·intro k1 h;revert h;refine Aj 9 2 JAB.toD rfl (fun i2 _=>⟨y1 a0::AV.fn 163 []::AV.fn 164 []::dd 6 (y1 a0::yi (a0.length:Int)::yi (i2:Int)::dd 27 ([])),nn 39 ([])⟩) ?_ ?_ ?_
  ·exact wk
  ·rintro _ K3 h;(conv=>whnf);refine .go ?_;(conv=>whnf);refine BO C6 ?_;exact AB wk h
  rintro next4 i2 x5 _ K3 hii2 hxi2 hwi2 h hK6;(conv=>whnf);refine .go ?_;(conv=>whnf);refine BI (Cd hii2) ?_;(conv=>whnf);refine .go ?_;refine⟨BH (f:=JAB.toD) hii2,JAB.toD x5,hxi2,rfl,?_⟩;revert h;refine AG (fun v7=>⟨y1 a0::AV.fn 163 []::AV.fn 164 []::dd 6 (y1 a0::yi (a0.length:Int)::yi (i2:Int)::dd 22 (yb v7::dd 4 ([]))),nn 39 ([])⟩) ?_ ?_
  ·intro k8 h;(conv=>whnf);refine .inl (dO ?_);obtain⟨v9,g10,h⟩:=AA h;refine⟨_,_,M9 g10,.inl rfl,?_⟩;refine sJ h ?_ ?_<;>intro h
   ·(conv=>whnf);refine cO ?_;exact AB wk h
   refine sJ h ?_ ?_<;>intro h
   ·refine⟨_,rfl,?_⟩;obtain⟨v11,g12,h⟩:=AA h;refine⟨Af (f:=JAB.toD) g12,JAB.toD v11,Ag (f:=JAB.toD) g12,rfl,?_⟩;obtain⟨v13,g14,h⟩:=AA h;refine⟨_,_,KX g14,.inl rfl,?_⟩;(conv=>whnf);refine cO ?_;exact AB wk h
   (conv=>whnf);refine cO ?_;exact AB wk h
  rintro v7 h;(conv=>whnf);refine .go ?_;refine sJ h ?_ ?_<;>intro h
  ·cases h;exact⟨rfl,rfl⟩
  refine⟨_,hwi2,?_⟩;exact hK6 _ _ wk h
 rintro _ h;refine⟨a0.length,X10 _,?_⟩;cases h;exact⟨rfl,rfl⟩
theorem Fe {wl:Prop} {a0:List JAB} {r:Bool} (h:C3 a0=some r):CallsOK (Wl wl) Tryz.prog 140 [AV.d (D.l 2 JAB.toD a0)] [] (.d (D.b r)) []:=by
 refine oK Tryz.f140 ⟨rfl,?_⟩;unfold C3 at h;obtain⟨v1,g2,h⟩:=AA h;refine⟨_,_,some [],Bl g2,?_⟩;cases h;exact⟨rfl,rfl⟩
theorem JG {wl:Prop} {a0:JAF} {r:Bool} (h:C5 a0=some r):CallsOK (Wl wl) Tryz.prog 166 [AV.d (JAF.toD a0)] [] (.d (D.b r)) []:=by
 refine oK Tryz.f166 ⟨rfl,?_⟩;unfold C5 at h;refine⟨rfl,?_⟩;obtain⟨v1,g2,h⟩:=AA h;refine⟨_,_,none,HJ g2,?_⟩;cases h;exact⟨rfl,rfl⟩
theorem H8 {wl:Prop} {a0:JAF} {a1:JAF} {r:Int} (h:B5 a0 a1=some r):CallsOK (Wl wl) Tryz.prog 167 [AV.d (JAF.toD a0),AV.d (JAF.toD a1)] [] (.d (D.i r)) []:=by
 refine oK Tryz.f167 ⟨rfl,?_⟩;unfold B5 at h;(conv=>whnf);refine .inl (dO ?_);obtain⟨v1,g2,h⟩:=AA h;refine⟨_,_,Av g2,.inl rfl,?_⟩;obtain⟨v3,g4,h⟩:=AA h;refine⟨_,_,Av g4,.inl rfl,?_⟩;obtain⟨v5,g6,h⟩:=AA h;refine⟨_,_,Av g6,.inl rfl,?_⟩;refine⟨rfl,?_⟩;obtain⟨v7,g8,h⟩:=AA h;refine⟨_,_,Gu g8,.inl rfl,?_⟩;(conv=>whnf);refine cO ?_;cases h;exact⟨rfl,rfl⟩
theorem BU {wl:Prop} {a0:List JAF} {r:Bool} (h:AW a0=some r):CallsOK (Wl wl) Tryz.prog 165 [AV.d (D.l 3 JAF.toD a0),AV.fn 166 [],AV.fn 167 []] [] (.d (D.b r)) []:=by
 refine oK Tryz.f165 ⟨rfl,?_⟩;unfold AW at h;refine⟨a0.length,X10 _,?_⟩;revert h;refine AG (fun _=>⟨y2 a0::dd 38 ([]),nn 39 ([])⟩) ?_ ?_
 ·intro k1 h;revert h;refine Aj 9 3 JAF.toD rfl (fun i2 _=>⟨y2 a0::AV.fn 166 []::AV.fn 167 []::dd 6 (y2 a0::yi (a0.length:Int)::yi (i2:Int)::dd 27 ([])),nn 39 ([])⟩) ?_ ?_ ?_
  ·exact wk
  ·rintro _ K3 h;(conv=>whnf);refine .go ?_;(conv=>whnf);refine BO C6 ?_;exact AB wk h
  rintro next4 i2 x5 _ K3 hii2 hxi2 hwi2 h hK6;(conv=>whnf);refine .go ?_;(conv=>whnf);refine BI (Cd hii2) ?_;(conv=>whnf);refine .go ?_;refine⟨BH (f:=JAF.toD) hii2,JAF.toD x5,hxi2,rfl,?_⟩;revert h;refine AG (fun v7=>⟨y2 a0::AV.fn 166 []::AV.fn 167 []::dd 6 (y2 a0::yi (a0.length:Int)::yi (i2:Int)::dd 22 (yb v7::dd 4 ([]))),nn 39 ([])⟩) ?_ ?_
  ·intro k8 h;(conv=>whnf);refine .inl (dO ?_);obtain⟨v9,g10,h⟩:=AA h;refine⟨_,_,JG g10,.inl rfl,?_⟩;refine sJ h ?_ ?_<;>intro h
   ·(conv=>whnf);refine cO ?_;exact AB wk h
   refine sJ h ?_ ?_<;>intro h
   ·refine⟨_,rfl,?_⟩;obtain⟨v11,g12,h⟩:=AA h;refine⟨Af (f:=JAF.toD) g12,JAF.toD v11,Ag (f:=JAF.toD) g12,rfl,?_⟩;obtain⟨v13,g14,h⟩:=AA h;refine⟨_,_,H8 g14,.inl rfl,?_⟩;(conv=>whnf);refine cO ?_;exact AB wk h
   (conv=>whnf);refine cO ?_;exact AB wk h
  rintro v7 h;(conv=>whnf);refine .go ?_;refine sJ h ?_ ?_<;>intro h
  ·cases h;exact⟨rfl,rfl⟩
  refine⟨_,hwi2,?_⟩;exact hK6 _ _ wk h
 rintro _ h;refine⟨a0.length,X10 _,?_⟩;cases h;exact⟨rfl,rfl⟩
theorem D4 {wl:Prop} {a0:List JAF} {r:Bool} (h:Ba a0=some r):CallsOK (Wl wl) Tryz.prog 141 [AV.d (D.l 3 JAF.toD a0)] [] (.d (D.b r)) []:=by
 refine oK Tryz.f141 ⟨rfl,?_⟩;unfold Ba at h;obtain⟨v1,g2,h⟩:=AA h;refine⟨_,_,some [],BU g2,?_⟩;cases h;exact⟨rfl,rfl⟩
theorem E7 {wl:Prop} {a0:Int} {r:Bool} (h:BQ a0=some r):CallsOK (Wl wl) Tryz.prog 116 [AV.d (D.i a0)] [] (.d (D.b r)) []:=by
 refine oK Tryz.f116 ⟨rfl,?_⟩;unfold BQ at h;revert h;refine AG (fun v1=>⟨X::X::yb v1::dd 12 ([]),nn 15 ([])⟩) ?_ ?_
 ·intro k2 h;obtain⟨v3,g4,h⟩:=AA h;refine⟨_,BS (ek:=D.i) (ev:=D.i) (l:=Bj) (k:=a0) BF,D.i v3,Dn (z:=0) rfl g4,_,rfl,?_⟩;refine sJ h (fun h=>?_) fun h=>AB wk h;exact sJ h (fun h=>AB wk h) fun h=>AB wk h
 rintro v1 h;cases h;exact⟨rfl,rfl⟩
theorem HN {wl:Prop} {a0:List JAA} {r:Bool} (h:DI a0=some r):CallsOK (Wl wl) Tryz.prog 142 [AV.d (D.l 3 JAA.toD a0)] [] (.d (D.b r)) []:=by
 refine oK Tryz.f142 ⟨rfl,?_⟩;unfold DI at h;refine⟨a0.length,X10 _,?_⟩;revert h;refine AG (fun _=>⟨y4 a0::dd 51 ([]),nn 52 ([])⟩) ?_ ?_
 ·intro k1 h;revert h;refine Aj 5 3 JAA.toD rfl (fun i2 _=>⟨y4 a0::dd 4 (y4 a0::yi (a0.length:Int)::yi (i2:Int)::dd 44 ([])),nn 52 ([])⟩) ?_ ?_ ?_
  ·exact wk
  ·rintro _ K3 h;(conv=>whnf);refine .go ?_;(conv=>whnf);refine BO C6 ?_;exact AB wk h
  rintro next4 i2 x5 _ K3 hii2 hxi2 hwi2 h hK6;(conv=>whnf);refine .go ?_;(conv=>whnf);refine BI (Cd hii2) ?_;(conv=>whnf);refine .go ?_;refine⟨BH (f:=JAA.toD) hii2,JAA.toD x5,hxi2,rfl,?_⟩;revert h;refine AG (fun v7=>⟨y4 a0::dd 4 (y4 a0::yi (a0.length:Int)::yi (i2:Int)::dd 39 (yb v7::dd 4 ([]))),nn 52 ([])⟩) ?_ ?_
  ·intro k8 h;(conv=>whnf);refine .inl (dO ?_);obtain⟨v9,g10,h⟩:=AA h;refine⟨_,_,E7 g10,.inl rfl,?_⟩;refine sJ h ?_ ?_<;>intro h
   ·(conv=>whnf);refine cO ?_;exact AB wk h
   obtain⟨v11,g12,h⟩:=AA h;refine⟨_,_,Bg g12,.inl rfl,?_⟩;refine sJ h ?_ ?_<;>intro h
   ·(conv=>whnf);refine cO ?_;exact AB wk h
   refine sJ h ?_ ?_<;>intro h
   ·(conv=>whnf);refine cO ?_;exact AB wk h
   refine⟨x5.Data.length,X10 _,?_⟩;refine sJ h ?_ ?_<;>intro h
   ·(conv=>whnf);refine cO ?_;exact AB wk h
   refine sJ h ?_ ?_<;>intro h
   ·refine⟨_,rfl,?_⟩;obtain⟨v13,g14,h⟩:=AA h;refine⟨Af (f:=JAA.toD) g14,JAA.toD v13,Ag (f:=JAA.toD) g14,rfl,?_⟩;(conv=>whnf);refine cO ?_;exact AB wk h
   (conv=>whnf);refine cO ?_;exact AB wk h
  rintro v7 h;(conv=>whnf);refine .go ?_;refine sJ h ?_ ?_<;>intro h
  ·cases h;exact⟨rfl,rfl⟩
  refine⟨_,hwi2,?_⟩;exact hK6 _ _ wk h
 rintro _ h;refine⟨a0.length,X10 _,?_⟩;cases h;exact⟨rfl,rfl⟩
theorem Hn {wl:Prop} {a0:JAD} {r:Bool} (h:C0 a0=some r):CallsOK (Wl wl) Tryz.prog 105 [AV.d (JAD.toD a0)] [] (.d (D.b r)) []:=by
 refine oK Tryz.f105 ⟨rfl,?_⟩;unfold C0 at h;revert h;refine AG (fun v1=>⟨X::X::yb v1::dd 48 ([]),nn 51 ([])⟩) ?_ ?_
 ·intro k2 h;obtain⟨v3,g4,h⟩:=AA h;refine⟨_,_,some [],Bg g4,?_⟩;refine sJ h (fun h=>?_) fun h=>AB wk h;obtain⟨v5,g6,h⟩:=AA h;refine⟨_,_,some [],JS g6,?_⟩;refine sJ h (fun h=>?_) fun h=>AB wk h;obtain⟨v7,g8,h⟩:=AA h;refine⟨_,_,some [],Gv g8,?_⟩;refine sJ h (fun h=>?_) fun h=>AB wk h;obtain⟨v9,g10,h⟩:=AA h;refine⟨_,_,some [],Bg g10,?_⟩;refine sJ h (fun h=>?_) fun h=>AB wk h;obtain⟨v11,g12,h⟩:=AA h;refine⟨_,_,some [],Bg g12,?_⟩;refine sJ h (fun h=>?_) fun h=>AB wk h;refine sJ h ?_ ?_<;>intro h
  ·obtain⟨v13,g14,h⟩:=AA h;refine⟨_,_,some [],Fe g14,?_⟩;refine sJ h (fun h=>?_) fun h=>AB wk h;obtain⟨v15,g16,h⟩:=AA h;refine⟨_,_,some [],D4 g16,?_⟩;refine sJ h (fun h=>?_) fun h=>AB wk h;obtain⟨v17,g18,h⟩:=AA h;refine⟨_,_,some [],HN g18,?_⟩;exact AB wk h
  obtain⟨v19,g20,h⟩:=AA h;refine⟨_,_,some [],Gn g20,?_⟩;refine sJ h (fun h=>?_) fun h=>AB wk h;obtain⟨v21,g22,h⟩:=AA h;refine⟨_,_,some [],Fe g22,?_⟩;refine sJ h (fun h=>?_) fun h=>AB wk h;obtain⟨v23,g24,h⟩:=AA h;refine⟨_,_,some [],D4 g24,?_⟩;refine sJ h (fun h=>?_) fun h=>AB wk h;obtain⟨v25,g26,h⟩:=AA h;refine⟨_,_,some [],HN g26,?_⟩;exact AB wk h
 rintro v1 h;cases h;exact⟨rfl,rfl⟩
theorem FO {wl:Prop} {a0:List UInt8} {r:(List UInt8)} (h:A3 a0=some r):CallsOK (Wl wl) Tryz.prog 119 [AV.d (D.l 1 D.u8 a0)] [] (.d (D.l 1 D.u8 r)) []:=by
 refine oK Tryz.f119 ⟨rfl,?_⟩;unfold A3 at h;refine⟨?_,fun hz=>?_⟩
 ·(conv=>whnf);refine .go ?_;obtain⟨v1,g2,h⟩:=AA h;refine⟨rfl,AZ (f:=D.u8) (g:=D.u8) g2,_,Ab (f:=D.u8) g2,?_⟩;(conv=>whnf);refine .inl ?_;(conv=>whnf);refine .inl ?_;refine⟨rfl,?_⟩;cases h;exact⟨rfl,rfl⟩
 obtain rfl:a0=[]:=(by simpa using hz);replace h:=Ze h;(conv=>whnf);refine .go ?_;(conv=>whnf);refine .inl ?_;cases h;exact⟨rfl,rfl⟩
end Go.AX.Q19
end
