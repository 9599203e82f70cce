/-
  Texts of one proof, packed.
-/
import Derived.Test.YtbohbnpaadcfmaaGreatDoorKB2
import Derived.Test.YtbohbnpaadcfmaaGreatDoorKB4
import Derived.Test.YtbohbnpaadcfmaaGreatDoorKB5
import Derived.Test.YtbohbnpaadcfmaaGreatDoorKB8
import Derived.IntWalk
import Derived.Shelf.SlSortCmp.NoneTotal
import Derived.Shelf.SortM.Plain
import Derived.Shelf.SortM.SortNone
set_option linter.all false
set_option maxRecDepth 100000
set_option maxHeartbeats 4000000
open List renaming length_map→X10,length_append→X11,getElem?_eq_getElem→X15,length_drop→X17,length_take→X18,length_replicate→X20,length_set→X21
open Option.some renaming injEq→X24,inj→X25
open Prod.mk renaming injEq→X26
open Nat renaming le_of_ble_eq_true→X29,mul_le_mul_right→X31,add_mul→X32
section
namespace Go.AX
open Go.Proofs Go.Sort Go.Shelf Go.RowKit
theorem UA {vals:Array Value}{v u:Value}(hs:vals.size=2)(h:vals.getD 0 undef=v)(h':vals.getD 1 undef=u):vals=#[v,u]:=by
 match vals,hs with
 | ⟨[a,b]⟩,_=>
  simp at h h'
  rw[h,h']
theorem HJ {α:Type}[Inhabited α](enc:α->List Value)(k:Nat)(w:World)(blk off n:Nat)(d:Array α)(os:Array Obj)(hb:blk<w.heap.size) :
  (∀b,b<w.heap.size->b≠blk->(sortWorldK enc k w blk off n d os).heap[b]?=w.heap[b]?)/\w.heap.size<=(sortWorldK enc k w blk off n d os).heap.size/\
  (∀vs e fr,w.heap[blk]?=some (.cells vs e fr)->(sortWorldK enc k w blk off n d os).heap[blk]?=some (.cells (putCells id off (flatK enc k d) vs) e fr))/\
  (sortWorldK enc k w blk off n d os).os=w.os/\(sortWorldK enc k w blk off n d os).output=w.output/\(sortWorldK enc k w blk off n d os).tape=w.tape/\w.drawn<=(sortWorldK enc k w blk off n d os).drawn:=by
 have hh:(sortWorldK enc k w blk off n d os).heap=(w.heap.modify blk (onCells (putCells id off (flatK enc k d))))++os:=rfl
 refine⟨fun b h1 h2=>?_,?_,fun vs e fr h=>?_,rfl,rfl,rfl,Nat.le_add_right _ _⟩
 ·rw[hh,Array.getElem?_append_left (by simpa using h1),Array.getElem?_modify,if_neg (Ne.symm h2)]
 ·rw[hh];simp
 rw[hh,Array.getElem?_append_left (by simpa using hb),Array.getElem?_modify,if_pos rfl,h]
 rfl
theorem cd {W w':World}(hp :∀b,b<W.heap.size->w'.heap[b]?=W.heap[b]?)(sz:W.heap.size<=w'.heap.size)(os:w'.os=W.os)(out:w'.output=W.output)(tape:w'.tape=W.tape)(dr:W.drawn<=w'.drawn) :
  ∃q os',w'=grow (W.drewN q) os':=by
 refine⟨w'.drawn-W.drawn,w'.heap.extract W.heap.size w'.heap.size,?_⟩
 obtain⟨h1,t1,d1,o1,u1⟩:=w'
 obtain⟨h2,t2,d2,o2,u2⟩:=W
 simp only at hp sz os out tape dr
 subst os out tape
 have hheap:h1=h2++h1.extract h2.size h1.size:=by
  apply Array.ext_getElem?
  intro i
  by_cases hi:i<h2.size
  ·rw[Array.getElem?_append_left hi];exact hp i hi
  rw[Array.getElem?_append_right (by omega),Array.getElem?_extract]
  by_cases hi2:i<h1.size
  ·rw[if_pos (by omega),show h2.size+(i-h2.size)=i by omega]
  rw[if_neg (by omega),Array.getElem?_eq_none (by omega)]
 have hd:d1=d2+(d1-d2):=by omega
 unfold grow World.drewN
 simp only
 congr 1
theorem QF {wl:WL}{P:Program}{ρ:Ren}{X:Type}{f:X->D}{cmp:X->X->Option Int}{g k e:Nat}(L:SlLaysF0.n6 P ρ)(hf:de P (ρ.f 6))(aE :∀w,(isAgg (ρ.t 24)).run P w=.ok true w)(zE :∀w,(Go.sizeOf (ρ.t 24)).run P w=.ok k w)
  (eg :∀args w,(callFunc g args).run P w=.ok (.enter g args) w) (hagg :∀x,(f x).isAgg=true) (hcmp :∀{a b r},cmp a b=some r->CallsOK wl.low P g [.d (f a),.d (f b)] [] (.i r) [])
  {l r:List X} (h:EP cmp l=some r):CallsOK wl P (ρ.f 6) [.own 0 (List.map f l).length,.fn g []] [.row e k (List.map f l) .no] (.tup []) [.row e k (List.map f r) .no]:=by
 refine⟨hf,fun w S φ gb hg vals hs hr hn m=>?_⟩
 have r0:=(hr 0 (by simp)).1
 have r1:=(hr 1 (by simp)).1
 simp only[List.getElem_cons_zero,List.getElem_cons_succ] at r0 r1
 have hv:=UA hs rfl rfl
 generalize vals.getD 0 undef=v0 at r0 hv
 generalize vals.getD 1 undef=v1 at r1 hv
 cases r1 with | fn _ _ vs1 _ hs1 _ _=>
 obtain rfl:vs1=#[]:=Array.eq_empty_of_size_eq_zero (by simpa using hs1)
 cases r0 with | own _ _ _ kk c a0 hv0 hk0 h1 hb=>
 have hob:ofL [OB.row e k (List.map f l) .no] 0=some (.row e k (List.map f l) .no):=rfl
 obtain⟨_,hown⟩:=h1 _ _ _ _ hob
 have hown:=hown rfl
 have hmem:=m.obj 0 _ hob
 obtain⟨g0,g1,g2,g3⟩:=hmem
 have hol :∀r',ofL [OB.row e k (List.map f r') .no]=upd (ofL [OB.row e k (List.map f l) .no]) 0 (some (.row e k (List.map f r') .no)):=by
  intro r'
  funext q
  match q with
  | 0=>simp[ofL]
  | q+1=>simp[ofL,upd]
 by_cases hl:0<l.length
 rotate_left
 ·
  have hl0:l=[]:=List.eq_nil_of_length_eq_zero (by omega)
  subst hl0
  obtain⟨hp,_⟩:=Lt h
  obtain rfl:r=[]:=hp.eq_nil
  obtain⟨p,cap,hvp⟩ :∃p cap,v0=.slice p 0 cap:=by rw[hv0,hk0];exact⟨_,_,rfl⟩
  rw[hv,hvp]
  refine (AnyF.slices_SortFunc_none L p cap _ w).mono fun e' w' ⟨he,hw⟩=>⟨_,he,S,φ,hw ▸ m,hw ▸ .refl _ _ _ _,.tup [] #[] (fun _=>undef) rfl (fun i hi=>by simp at hi) (fun i hi=>by simp at hi),fun q hq=>by simp[AV.refs,AV.refs.refsL] at hq⟩
 rcases g3 with ⟨_,hnil⟩|⟨b,cap,vs,f0,f1,f2,f3,f4,f5,f6,f7,f8⟩
 ·simp at hnil
  subst hnil
  simp at hl
 obtain⟨hlen,hget⟩:=SI h hl
 have hsw:TW cmp l=true:=by
  unfold EP at h
  split at h
  ·assumption
  simp at h
 obtain⟨hpsz,hpperm,_⟩:=N8 hsw hl
 have hv0':v0=.slice (some ⟨b,cap.2,none⟩) l.length cap.1:=by
  rcases hown with ⟨hφ0,_⟩|⟨b',cap',hφ0,hvv⟩
  ·rw[f1] at hφ0;simp at hφ0
  rw[f1] at hφ0
  simp only[X24,X26] at hφ0
  obtain⟨rfl,rfl⟩:=hφ0
  rw[hvv];simp
 have hbl:=(m.ow 0 b cap (by simp[ofL]) f1).1
 let ix:Nat->Nat:=fun i=>min i (l.length-1)
 have hix :∀i,ix i<l.length:=fun i=>by simp only[ix];omega
 let enc:Nat->List Value:=fun i=>(List.range k).map fun j=>f0 (ix i) j
 have hencl :∀x,(enc x).length=k:=fun x=>by simp[enc]
 have helem :∀i (hi:i<l.length),(f l[i]).cells.length=k:=fun i hi=>by have:=g1 i (by simpa using hi);simpa using this
 have hrep :∀i (hi:i<l.length) j (hj:j<k),∃hj':j<(f l[i]).cells.length,RepD S w ((f l[i]).cells[j]'hj') (f0 i j)/\((f l[i]).cells[j]'hj').isAgg=false:=by
  intro i hi j hj
  have hj':j<(f l[i]).cells.length:=by rw[helem i hi];exact hj
  refine⟨hj',?_,?_⟩
  ·have:=f7 i (by simpa using hi) j (by simpa using hj');simpa using this
  have:=g2 i (by simpa using hi) j (by simpa using hj');simpa using this
 have hone :∀x,∀v∈enc x,v.oneCell'=true:=by
  intro x v hv
  obtain⟨j,hj,rfl⟩:=List.mem_map.1 hv
  obtain⟨hj',h2,h3⟩:=hrep (ix x) (hix x) j (by simpa using hj)
  exact h2.one h3
 have hflat :∀(d:Array Nat) t,t<d.size*k->(flatK enc k d)[t]! = f0 (ix d[t/k]!) (t%k):=by
  intro d t ht
  have hk0:0<k:=g0
  rw[get_flatK _ _ _ _ ht]
  have:=Nat.mod_lt t hk0
  simp[enc,this]
 have hH:HoldsK enc k w b cap.2 (Array.range l.length):=by
  intro t ht
  have ht':t<l.length*k:=by simpa using ht
  have hk0:0<k:=g0
  have hq:t/k<l.length:=Nat.div_lt_of_lt_mul (by rwa [Nat.mul_comm])
  rw[hflat _ t (by simpa using ht')]
  have h1:(Array.range l.length)[t/k]! = t/k:=by simp[hq]
  have h2:ix (t/k)=t/k:=by simp only[ix];omega
  have h3:=f6 (t/k) (t%k) (by simpa using hq) (Nat.mod_lt t hk0)
  have h4:t/k*k+t%k=t:=by rw[Nat.mul_comm];exact Nat.div_add_mod t k
  rw[h4] at h3
  rw[h1,h2]
  refine⟨?_,?_⟩
  ·simp only[World.cell?,f2,id]
   exact h3
  simp[World.frozen?,f2]
 have hkeep :∀(n:Nat) (d:Array Nat) (os:Array Obj),MN S w S (sortWorldK enc k w b cap.2 n d os):=by
  intro n d os b' o hS
  obtain⟨h1,_⟩:=HJ enc k w b cap.2 n d os hbl
  have hne:b'≠b:=fun he=>f8.1 o (by simp) (he ▸ hS)
  exact⟨hS,DI (h1 b' (m.bS b' o hS) hne) o⟩
 have hrepE :∀{W:World},MN S w S W->∀i (hi:i<l.length),RepD S W (f l[i]) (.agg ((List.range k).map fun j=>f0 i j).toArray):=by
  intro W hK i hi
  have ha:=hagg l[i]
  cases hfl:f l[i] with
  | agg cs=>
   have hcs:cs.length=k:=by have:=helem i hi;rw[hfl] at this;exact this
   refine .agg cs _ (fun j=>f0 i j) (by simp[hcs]) (fun j hj=>by simp[hcs ▸ hj]) (fun j hj=>?_) fun j hj=>?_
   ·obtain⟨hj',_,h3⟩:=hrep i hi j (hcs ▸ hj)
    simp only[hfl,D.cells] at h3
    exact h3
   obtain⟨hj',h2,_⟩:=hrep i hi j (hcs ▸ hj)
   simp only[hfl,D.cells] at h2
   exact h2.mono hK
  | val v=>rw[hfl] at ha;simp[D.isAgg] at ha
  | nil sz=>rw[hfl] at ha;simp[D.isAgg] at ha
  | lst sz es=>rw[hfl] at ha;simp[D.isAgg] at ha
 have hfull :∀x,∃(hi:ix x<l.length),enc x=(List.range k).map fun j=>f0 (ix x) j:=fun x=>⟨hix x,rfl⟩
 have hlays:CmpLays P g #[] enc k (cfI cmp l) b cap.2 (Array.range l.length).size w:=by
  intro q os dk hdk x y
  obtain⟨w1,w2,w3,w4,w5,w6,w7⟩:=HJ enc k w b cap.2 q dk os hbl
  have hK:=hkeep q dk os
  generalize hW:sortWorldK enc k w b cap.2 q dk os=W at *
  have hx:=hix x
  have hy:=hix y
  obtain⟨c1,_⟩:=Oq hsw
  obtain⟨rr,hrr⟩:=c1 l[ix x] (List.getElem_mem hx) l[ix y] (List.getElem_mem hy)
  have hcf:cfI cmp l x y=rr:=by
   have e1:ixL l x=some l[ix x]:=X15 hx
   have e2:ixL l y=some l[ix y]:=X15 hy
   unfold cfI
   rw[e1,e2]
   simp[hrr]
  have hn0 :∀r,ofL [] r=none:=fun r=>by simp[ofL]
  have hgW:GlobOK wl.low gb (Il (fun _:Nat=>(none:Option (Nat×Rp))) ([]:List OB).length) S W:=by
   have e :∀b',gb b'->W.heap[b']?=w.heap[b']?:=fun b' hb'=>w1 b' (hg.lt b' hb') fun he=>hg.pb b' hb' ⟨0,cap,by simp,he ▸ f1⟩
   refine⟨wl.ext _ _ _ e hg.gf,fun b' hb'=>Nat.lt_of_lt_of_le (hg.lt b' hb') w2,?_,fun b' o hb' hc=>hg.st b' o hb' ?_⟩
   ·rintro b' hb' ⟨r,c,h1,_⟩
    simp at h1
   rw[<- DI (e b' hb') o]
   exact hc
  refine ((hcmp hrr).2 W S (fun _=>none) gb hgW (#[.agg (enc x).toArray,.agg (enc y).toArray]++#[]) (by simp) (fun i hi=>?_) (fun _ _=>rfl) ⟨fun r o ho=>by rw[hn0] at ho;simp at ho,fun r _ _ _ _ hr=>absurd (hn0 r) hr,fun r o ho=>by rw[hn0] at ho;simp at ho,fun _ _ h=>h,fun _ _ _=>rfl,fun b' o hS=>Nat.lt_of_lt_of_le (m.bS b' o hS) w2,fun _ _ h _ _=>h,fun _ _ _=>rfl,Nat.le_refl _,fun r _ _ hr=>absurd (hn0 r) hr,⟨rfl,rfl,rfl,.inr (Nat.le_refl _)⟩⟩).mono fun e' w' he=>?_
  ·refine⟨?_,?_⟩
   ·match i,hi with
    | 0,_=>exact .d _ _ (hrepE hK (ix x) hx)
    | 1,_=>exact .d _ _ (hrepE hK (ix y) hy)
   match i,hi with
   | 0,_=>exact BE _ _
   | 1,_=>exact BE _ _
  obtain⟨v,rfl,S',φ',mm,_,hvv,_⟩:=he
  refine⟨by rw[hvv.int,hcf],?_⟩
  have hpb :∀b',¬ Il (fun _:Nat=>(none:Option (Nat×Rp))) ([]:List OB).length b':=by rintro b' ⟨r,c,h1,_⟩;simp at h1
  refine cd (fun b' hb'=>mm.fr b' hb' (hpb b')) mm.sz mm.os.1 mm.os.2.1 mm.os.2.2.1 ?_
  rcases mm.os.2.2.2 with h | h
  ·exact h.elim
  exact h
 have hc:=AnyQ.slices_SortFunc_eq L k aE zE enc hencl hone (cfI cmp l) (Xw hsw hl) g #[] b cap.2 cap.1 (Array.range l.length) w eg hlays hH hbl (by
  have:=(Oq hsw).2.2.2.2
  simp;omega)
 rw[hv,hv0']
 have hsz0:(Array.range l.length).size=l.length:=by simp
 rw[hsz0] at hc
 refine hc.mono fun e' w' ⟨he,n,os,hw⟩=>?_
 have hd:pdq (ltOf (cfI cmp l)) (Array.range l.length) 0 l.length (Lib.bitLen l.length) true true=Gf cmp l:=rfl
 rw[hd] at hw
 obtain⟨w1,w2,w3,w4,w5,w6,w7⟩:=HJ enc k w b cap.2 n (Gf cmp l) os hbl
 rw[<- hw] at w1 w2 w3 w4 w5 w6 w7
 have hcur:=w3 _ _ _ f2
 have hr' :∀i (hi:i<r.length),∃(hp:(Gf cmp l)[i]!<l.length),r[i]=l[(Gf cmp l)[i]!]:=by
  intro i hi
  obtain⟨p1,p2⟩:=hget i (by omega)
  rw[X15 hi,X15 p1] at p2
  exact⟨p1,X25 p2⟩
 obtain⟨m2,k2⟩:=m.rowSet (es':=List.map f r) (cur':=putCells id cap.2 (flatK enc k (Gf cmp l)) vs) (w':=w') hob f1 f2 (by simp[hlen])
  (fun i hi=>by
   have hi':i<r.length:=by simpa using hi
   obtain⟨hp,he⟩:=hr' i hi'
   simp only[List.getElem_map,he]
   exact helem _ hp)
  (fun i hi j hj=>by
   have hi':i<r.length:=by simpa using hi
   obtain⟨hp,he⟩:=hr' i hi'
   simp only[List.getElem_map,he] at hj ⊢
   obtain⟨hj',_,h3⟩:=hrep _ hp j (by rw[helem _ hp] at hj;exact hj)
   exact h3)
  hcur (by simp[putCells]) (fun b' h1 h2=>w1 b' h1 h2) w2 ⟨w4,w5,w6,w7⟩ (fun i j=>f0 (Gf cmp l)[i]! j)
  (fun i j hi hj=>by
   have hi':i<r.length:=by simpa using hi
   obtain⟨hp,he⟩:=hr' i hi'
   have hil:i<l.length:=by omega
   have hik:i*k+j<l.length*k:=by
    have:=X31 k (show i+1<=l.length from hil)
    rw[X32,Nat.one_mul] at this
    omega
   have hbig:cap.2+(i*k+j)<vs.size:=by
    have h3:l.length<=cap.1:=by simpa using f3
    have:=X31 k h3
    omega
   have e1:(i*k+j)/k=i:=by rw[Nat.mul_comm,Nat.mul_add_div g0,Nat.div_eq_of_lt hj,Nat.add_zero]
   have e2:(i*k+j)%k=j:=by rw[Nat.mul_comm,Nat.mul_add_mod,Nat.mod_eq_of_lt hj]
   have hfl:=hflat (Gf cmp l) (i*k+j) (by rw[hpsz];exact hik)
   rw[e1,e2] at hfl
   have hixx:ix (Gf cmp l)[i]! = (Gf cmp l)[i]!:=by simp only[ix];omega
   rw[hixx] at hfl
   simp only[putCells,Array.getElem?_mapIdx,Array.getElem?_eq_getElem hbig,Option.map_some]
   rw[if_pos ⟨by omega,by rw[size_flatK,hpsz];omega⟩,show cap.2+(i*k+j)-cap.2=i*k+j by omega,hfl]
   rfl)
  (fun i hi j hj=>by
   have hi':i<r.length:=by simpa using hi
   obtain⟨hp,he⟩:=hr' i hi'
   simp only[List.getElem_map,he] at hj ⊢
   obtain⟨hj',h2,_⟩:=hrep _ hp j (by rw[helem _ hp] at hj;exact hj)
   exact h2)
 rw[<- hol r] at m2 k2
 exact⟨_,he,S,φ,m2,k2,.tup [] #[] (fun _=>undef) rfl (fun i hi=>by simp at hi) (fun i hi=>by simp at hi),fun q hq=>by simp[AV.refs,AV.refs.refsL] at hq⟩
theorem VW {α:Type}[Inhabited α](enc:α->Value)(w:World)(blk off n:Nat)(d:Array α)(os:Array Obj)(hb:blk<w.heap.size) :
  (∀b,b<w.heap.size->b≠blk->(grow (putRow enc (Sort.ahead w n) blk off d) os).heap[b]?=w.heap[b]?)/\w.heap.size<=(grow (putRow enc (Sort.ahead w n) blk off d) os).heap.size/\
  (∀vs e fr,w.heap[blk]?=some (.cells vs e fr)->(grow (putRow enc (Sort.ahead w n) blk off d) os).heap[blk]?=some (.cells (putCells enc off d vs) e fr))/\
  (grow (putRow enc (Sort.ahead w n) blk off d) os).os=w.os/\(grow (putRow enc (Sort.ahead w n) blk off d) os).output=w.output/\(grow (putRow enc (Sort.ahead w n) blk off d) os).tape=w.tape/\w.drawn<=(grow (putRow enc (Sort.ahead w n) blk off d) os).drawn:=by
 have hh:(grow (putRow enc (Sort.ahead w n) blk off d) os).heap=(w.heap.modify blk (onCells (putCells enc off d)))++os:=rfl
 refine⟨fun b h1 h2=>?_,?_,fun vs e fr h=>?_,rfl,rfl,rfl,Nat.le_add_right _ _⟩
 ·rw[hh,Array.getElem?_append_left (by simpa using h1),Array.getElem?_modify,if_neg (Ne.symm h2)]
 ·rw[hh];simp
 rw[hh,Array.getElem?_append_left (by simpa using hb),Array.getElem?_modify,if_pos rfl,h]
 rfl
theorem Zm {wl:WL}{P:Program}{ρ:Ren}{e:Nat}(L:SlLaysM.n5 P ρ)(hf:de P (ρ.f 5)){l r:List Int}(h:Lh l=some r) :
  CallsOK wl P (ρ.f 5) [.own 0 (List.map D.i l).length] [.row e 1 (List.map D.i l) .no] (.tup []) [.row e 1 (List.map D.i r) .no]:=by
 unfold Lh at h
 split at h
 rotate_left
 ·simp at h
 rename_i hsz
 obtain rfl:=X25 h
 refine⟨hf,fun w S φ gb hg vals hs hr hn m=>?_⟩
 have r0:=(hr 0 (by simp)).1
 simp only[List.getElem_cons_zero] at r0
 generalize hv:vals.getD 0 undef=v0 at r0
 have hv:vals=#[v0]:=by
  match vals,hs with
  | ⟨[a]⟩,_=>simp at hv;rw[hv]
 cases r0 with | own _ _ _ kk c a0 hv0 hk0 h1 hb=>
 have hob:ofL [OB.row e 1 (List.map D.i l) .no] 0=some (.row e 1 (List.map D.i l) .no):=rfl
 obtain⟨_,hown⟩:=h1 _ _ _ _ hob
 have hown:=hown rfl
 obtain⟨g0,g1,g2,g3⟩:=m.obj 0 _ hob
 have hol :∀r',ofL [OB.row e 1 (List.map D.i r') .no]=upd (ofL [OB.row e 1 (List.map D.i l) .no]) 0 (some (.row e 1 (List.map D.i r') .no)):=by
  intro r'
  funext q
  match q with
  | 0=>simp[ofL]
  | q+1=>simp[ofL,upd]
 have none :∀(p:Option Addr) (cap:Nat),v0=.slice p 0 cap->l=[]->Calls P (ρ.f 5) vals w fun e' w'=>∃v,e'=.returned v/\∃S' φ',Mem ⟨w,S,Il φ ([OB.row e 1 (List.map D.i l) .no]).length,wl,gb,hg⟩ w' S' φ' (ofL [OB.row e 1 (List.map D.i (l.mergeSort fun x y=>decide (x<=y))) .no])/\
   Kept w S φ (ofL [OB.row e 1 (List.map D.i l) .no]) w' S' φ' (ofL [OB.row e 1 (List.map D.i (l.mergeSort fun x y=>decide (x<=y))) .no])/\RepA S' w' φ' (ofL [OB.row e 1 (List.map D.i (l.mergeSort fun x y=>decide (x<=y))) .no]) (.tup []) v/\Closed (ofL [OB.row e 1 (List.map D.i (l.mergeSort fun x y=>decide (x<=y))) .no]) (.tup []):=by
  intro p cap hp hl
  subst hl
  rw[hv,hp]
  refine (AnyM.slices_Sort_int_none L p cap w).mono fun e' w' ⟨he,hw⟩=>?_
  subst hw
  refine⟨_,he,S,φ,by simpa using m,by simpa using .refl _ _ _ _,.tup [] #[] (fun _=>undef) rfl (fun i hi=>by simp at hi) (fun i hi=>by simp at hi),fun q hq=>by simp[AV.refs,AV.refs.refsL] at hq⟩
 rcases hown with ⟨a1,a2,a3,a4⟩|⟨b,cap,a1,a4⟩
 ·exact none _ _ a4 (List.eq_nil_of_length_eq_zero (by simpa using a2))
 rcases g3 with ⟨f1,_⟩|⟨b',cap',vs,f0,f1,f2,f3,f4,f5,f6,f7,f8⟩
 ·rw[a1] at f1;simp at f1
 rw[a1] at f1
 simp only[X24,X26] at f1
 obtain⟨rfl,rfl⟩:=f1
 have hbl:b<w.heap.size:=(m.ow 0 b cap (by simp[ofL]) a1).1
 have hcell :∀i (hi:i<l.length),f0 i 0=.int .i64 l[i]:=by
  intro i hi
  have:=f7 i (by simpa using hi) 0 (by simp[D.cells])
  simp only[List.getElem_map,D.cells,List.getElem_cons_zero] at this
  revert this
  generalize f0 i 0=u
  intro h
  cases h
  rfl
 have hH:Holds (Value.int .i64) w b cap.2 l.toArray:=by
  intro j hj
  have hj':j<l.length:=by simpa using hj
  have h6:=f6 j 0 (by simpa using hj') (by decide)
  rw[hcell j hj'] at h6
  have hb2:w.cell? ⟨b,cap.2+j,Option.none⟩=some (.int .i64 l[j]):=by
   have:cellAt w b (cap.2+j)=some (.int .i64 l[j]):=by rw[BX f2];simpa using h6
   exact this
  refine⟨by simpa[hj'] using hb2,?_⟩
  simp[World.frozen?,f2]
 rw[hv,a4]
 have hc:=AnyM.slices_Sort_int L b cap.2 cap.1 l w hH hbl hsz
 have hlen:(List.map D.i l).length=l.length:=by simp
 rw[hlen]
 refine hc.mono fun e' w' ⟨he,n,os,hw⟩=>?_
 obtain⟨w1,w2,w3,w4,w5,w6,w7⟩:=VW (Value.int .i64) w b cap.2 n (l.mergeSort fun x y=>decide (x<=y)).toArray os hbl
 rw[<- hw] at w1 w2 w3 w4 w5 w6 w7
 obtain⟨m2,k2⟩:=m.rowSet (es':=List.map D.i (l.mergeSort fun x y=>decide (x<=y))) (w':=w') hob a1 f2 (by simp)
  (fun i hi=>by simp[D.cells]) (fun i hi j hj=>by
   have h0:j=0:=by simp[D.cells] at hj;exact hj
   subst h0
   simp[D.cells,D.isAgg]) (w3 _ _ _ f2) (by simp[putCells]) (fun b' h1 h2=>w1 b' h1 h2) w2 ⟨w4,w5,w6,w7⟩ (fun i _=>.int .i64 ((l.mergeSort fun x y=>decide (x<=y)).getD i 0))
  (fun i j hi hj=>by
   have h0:j=0:=by omega
   subst h0
   have hi':i<l.length:=by simpa using hi
   have hbig:cap.2+i<vs.size:=by
    have h3:l.length<=cap.1:=by simpa using f3
    omega
   simp only[putCells,Nat.mul_one,Nat.add_zero,Array.getElem?_mapIdx,Array.getElem?_eq_getElem hbig,Option.map_some]
   rw[if_pos ⟨by omega,by simp;omega⟩,show cap.2+i-cap.2=i by omega]
   have hi2:i<(l.mergeSort fun x y=>decide (x<=y)).length:=by simpa using hi'
   simp[hi2])
  (fun i hi j hj=>by
   have h0:j=0:=by simp[D.cells] at hj;exact hj
   subst h0
   have hi2:i<(l.mergeSort fun x y=>decide (x<=y)).length:=by simpa using hi
   simp only[List.getElem_map,D.cells,List.getElem_cons_zero,List.getD_eq_getElem?_getD,X15 hi2,Option.getD_some]
   exact .val _ rfl)
 rw[<- hol] at m2 k2
 exact⟨_,he,S,φ,m2,k2,.tup [] #[] (fun _=>undef) rfl (fun i hi=>by simp at hi) (fun i hi=>by simp at hi),fun q hq=>by simp[AV.refs,AV.refs.refsL] at hq⟩
end Go.AX
end
section
namespace Go.Proofs
open Go.Shelf
def Tryz.l120_ren:Go.Shelf.Ren:=⟨fun | 6=>120 | 15=>150 | 14=>149 | 28=>176 | 29=>177 | 20=>168 | 21=>169 | 22=>170 | 23=>171 | 24=>172 | 25=>173 | 26=>174 | 27=>175 | 46=>183 | 47=>184 | 48=>185 | 49=>186 | 50=>187 | 57=>190 | n=>n,fun | 22=>32 | 24=>88 | 25=>164 | 3=>3 | 39=>67 | 0=>0 | 53=>207 | 55=>27 | 4=>4 | 46=>200 | 45=>199 | 50=>204 | 5=>5 | 9=>9 | 66=>215 | 70=>219 | 76=>222 | 77=>223 | n=>n,fun | n=>n⟩
theorem Tryz.l120:Go.Proofs.SlLaysF0.n6 Tryz.prog Tryz.l120_ren:={
 mixed:=by kernel_rfl
 f6:=⟨Tryz.f120.name,by decide,Tryz.func120.trans (congrArg some (by kernel_rfl))⟩
 f14:=⟨Tryz.f149.name,by decide,Tryz.func149.trans (congrArg some (by kernel_rfl))⟩
 f15:=Tryz.func150.trans (congrArg some (by kernel_rfl))
 f20:=⟨Tryz.f168.name,by decide,Tryz.func168.trans (congrArg some (by kernel_rfl))⟩
 f21:=⟨Tryz.f169.name,by decide,Tryz.func169.trans (congrArg some (by kernel_rfl))⟩
 f22:=⟨Tryz.f170.name,by decide,Tryz.func170.trans (congrArg some (by kernel_rfl))⟩
 f23:=⟨Tryz.f171.name,by decide,Tryz.func171.trans (congrArg some (by kernel_rfl))⟩
 f24:=⟨Tryz.f172.name,by decide,Tryz.func172.trans (congrArg some (by kernel_rfl))⟩
 f25:=⟨Tryz.f173.name,by decide,Tryz.func173.trans (congrArg some (by kernel_rfl))⟩
 f26:=⟨Tryz.f174.name,by decide,Tryz.func174.trans (congrArg some (by kernel_rfl))⟩
 f27:=⟨Tryz.f175.name,by decide,Tryz.func175.trans (congrArg some (by kernel_rfl))⟩
 f28:=Tryz.func176.trans (congrArg some (by kernel_rfl))
 f29:=Tryz.func177.trans (congrArg some (by kernel_rfl))
 f46:=⟨Tryz.f183.name,by decide,Tryz.func183.trans (congrArg some (by kernel_rfl))⟩
 f47:=Tryz.func184.trans (congrArg some (by kernel_rfl))
 f48:=Tryz.func185.trans (congrArg some (by kernel_rfl))
 f49:=⟨Tryz.f186.name,by decide,Tryz.func186.trans (congrArg some (by kernel_rfl))⟩
 f50:=⟨Tryz.f187.name,by decide,Tryz.func187.trans (congrArg some (by kernel_rfl))⟩
 f57:=⟨Tryz.f190.name,by decide,Tryz.func190.trans (congrArg some (by kernel_rfl))⟩
 t0:=Tryz.underlying0
 a0:=Tryz.isAgg0
 z0:=Tryz.sizeOf0
 v0:=Tryz.zeroValue0
 t3:=Tryz.underlying3
 a3:=Tryz.isAgg3
 z3:=Tryz.sizeOf3
 v3:=Tryz.zeroValue3
 t4:=Tryz.underlying4
 a4:=Tryz.isAgg4
 z4:=Tryz.sizeOf4
 v4:=Tryz.zeroValue4
 t5:=Tryz.underlying5
 a5:=Tryz.isAgg5
 z5:=Tryz.sizeOf5
 v5:=Tryz.zeroValue5
 t9:=Tryz.underlying9
 a9:=Tryz.isAgg9
 z9:=Tryz.sizeOf9
 v9:=Tryz.zeroValue9
 t22:=Tryz.underlying32
 a22:=Tryz.isAgg32
 z22:=Tryz.sizeOf32
 v22:=Tryz.zeroValue32
 t25:=Tryz.underlying164
 a25:=Tryz.isAgg164
 z25:=Tryz.sizeOf164
 v25:=Tryz.zeroValue164
 t39:=Tryz.underlying67
 a39:=Tryz.isAgg67
 z39:=Tryz.sizeOf67
 v39:=Tryz.zeroValue67
 t45:=Tryz.underlying199
 a45:=Tryz.isAgg199
 z45:=Tryz.sizeOf199
 v45:=Tryz.zeroValue199
 t46:=Tryz.underlying200
 a46:=Tryz.isAgg200
 z46:=Tryz.sizeOf200
 v46:=Tryz.zeroValue200
 t50:=Tryz.underlying204
 a50:=Tryz.isAgg204
 z50:=Tryz.sizeOf204
 v50:=Tryz.zeroValue204
 t53:=Tryz.underlying207
 a53:=Tryz.isAgg207
 z53:=Tryz.sizeOf207
 v53:=Tryz.zeroValue207
 t55:=Tryz.underlying27
 a55:=Tryz.isAgg27
 z55:=Tryz.sizeOf27
 v55:=Tryz.zeroValue27
 t66:=Tryz.underlying215
 a66:=Tryz.isAgg215
 z66:=Tryz.sizeOf215
 v66:=Tryz.zeroValue215
 t70:=Tryz.underlying219
 a70:=Tryz.isAgg219
 z70:=Tryz.sizeOf219
 v70:=Tryz.zeroValue219
 t76:=Tryz.underlying222
 a76:=Tryz.isAgg222
 z76:=Tryz.sizeOf222
 v76:=Tryz.zeroValue222
 t77:=Tryz.underlying223
 a77:=Tryz.isAgg223
 z77:=Tryz.sizeOf223
 v77:=Tryz.zeroValue223 }
def Tryz.l218_ren:Go.Shelf.Ren:=⟨fun | 5=>218 | 8=>150 | 7=>224 | 19=>176 | 20=>177 | 10=>229 | 11=>230 | 12=>231 | 13=>232 | 14=>233 | 15=>234 | 16=>235 | 17=>236 | 18=>237 | 30=>240 | 31=>184 | 32=>185 | 33=>241 | 34=>242 | 35=>151 | 40=>259 | n=>n,fun | 23=>22 | 25=>3 | 3=>3 | 32=>67 | 22=>22 | 0=>0 | 44=>207 | 46=>27 | 4=>4 | 36=>200 | 35=>199 | 41=>204 | 5=>5 | 9=>9 | 53=>215 | 57=>219 | 63=>222 | 64=>223 | n=>n,fun | n=>n⟩
theorem Tryz.l218:Go.Proofs.SlLaysM.n5 Tryz.prog Tryz.l218_ren:={
 mixed:=by kernel_rfl
 f5:=⟨Tryz.f218.name,by decide,Tryz.func218.trans (congrArg some (by kernel_rfl))⟩
 f7:=⟨Tryz.f224.name,by decide,Tryz.func224.trans (congrArg some (by kernel_rfl))⟩
 f8:=Tryz.func150.trans (congrArg some (by kernel_rfl))
 f10:=⟨Tryz.f229.name,by decide,Tryz.func229.trans (congrArg some (by kernel_rfl))⟩
 f11:=⟨Tryz.f230.name,by decide,Tryz.func230.trans (congrArg some (by kernel_rfl))⟩
 f12:=⟨Tryz.f231.name,by decide,Tryz.func231.trans (congrArg some (by kernel_rfl))⟩
 f13:=⟨Tryz.f232.name,by decide,Tryz.func232.trans (congrArg some (by kernel_rfl))⟩
 f14:=⟨Tryz.f233.name,by decide,Tryz.func233.trans (congrArg some (by kernel_rfl))⟩
 f15:=⟨Tryz.f234.name,by decide,Tryz.func234.trans (congrArg some (by kernel_rfl))⟩
 f16:=⟨Tryz.f235.name,by decide,Tryz.func235.trans (congrArg some (by kernel_rfl))⟩
 f17:=⟨Tryz.f236.name,by decide,Tryz.func236.trans (congrArg some (by kernel_rfl))⟩
 f18:=⟨Tryz.f237.name,by decide,Tryz.func237.trans (congrArg some (by kernel_rfl))⟩
 f19:=Tryz.func176.trans (congrArg some (by kernel_rfl))
 f20:=Tryz.func177.trans (congrArg some (by kernel_rfl))
 f30:=⟨Tryz.f240.name,by decide,Tryz.func240.trans (congrArg some (by kernel_rfl))⟩
 f31:=Tryz.func184.trans (congrArg some (by kernel_rfl))
 f32:=Tryz.func185.trans (congrArg some (by kernel_rfl))
 f33:=⟨Tryz.f241.name,by decide,Tryz.func241.trans (congrArg some (by kernel_rfl))⟩
 f34:=⟨Tryz.f242.name,by decide,Tryz.func242.trans (congrArg some (by kernel_rfl))⟩
 f35:=⟨Tryz.f151.name,by decide,Tryz.func151.trans (congrArg some (by kernel_rfl))⟩
 f40:=⟨Tryz.f259.name,by decide,Tryz.func259.trans (congrArg some (by kernel_rfl))⟩
 t0:=Tryz.underlying0
 a0:=Tryz.isAgg0
 z0:=Tryz.sizeOf0
 v0:=Tryz.zeroValue0
 t3:=Tryz.underlying3
 a3:=Tryz.isAgg3
 z3:=Tryz.sizeOf3
 v3:=Tryz.zeroValue3
 t4:=Tryz.underlying4
 a4:=Tryz.isAgg4
 z4:=Tryz.sizeOf4
 v4:=Tryz.zeroValue4
 t5:=Tryz.underlying5
 a5:=Tryz.isAgg5
 z5:=Tryz.sizeOf5
 v5:=Tryz.zeroValue5
 t9:=Tryz.underlying9
 a9:=Tryz.isAgg9
 z9:=Tryz.sizeOf9
 v9:=Tryz.zeroValue9
 t22:=Tryz.underlying22
 a22:=Tryz.isAgg22
 z22:=Tryz.sizeOf22
 v22:=Tryz.zeroValue22
 t23:=Tryz.underlying22
 a23:=Tryz.isAgg22
 z23:=Tryz.sizeOf22
 v23:=Tryz.zeroValue22
 t25:=Tryz.underlying3
 a25:=Tryz.isAgg3
 z25:=Tryz.sizeOf3
 v25:=Tryz.zeroValue3
 t32:=Tryz.underlying67
 a32:=Tryz.isAgg67
 z32:=Tryz.sizeOf67
 v32:=Tryz.zeroValue67
 t35:=Tryz.underlying199
 a35:=Tryz.isAgg199
 z35:=Tryz.sizeOf199
 v35:=Tryz.zeroValue199
 t36:=Tryz.underlying200
 a36:=Tryz.isAgg200
 z36:=Tryz.sizeOf200
 v36:=Tryz.zeroValue200
 t41:=Tryz.underlying204
 a41:=Tryz.isAgg204
 z41:=Tryz.sizeOf204
 v41:=Tryz.zeroValue204
 t44:=Tryz.underlying207
 a44:=Tryz.isAgg207
 z44:=Tryz.sizeOf207
 v44:=Tryz.zeroValue207
 t46:=Tryz.underlying27
 a46:=Tryz.isAgg27
 z46:=Tryz.sizeOf27
 v46:=Tryz.zeroValue27
 t53:=Tryz.underlying215
 a53:=Tryz.isAgg215
 z53:=Tryz.sizeOf215
 v53:=Tryz.zeroValue215
 t57:=Tryz.underlying219
 a57:=Tryz.isAgg219
 z57:=Tryz.sizeOf219
 v57:=Tryz.zeroValue219
 t63:=Tryz.underlying222
 a63:=Tryz.isAgg222
 z63:=Tryz.sizeOf222
 v63:=Tryz.zeroValue222
 t64:=Tryz.underlying223
 a64:=Tryz.isAgg223
 z64:=Tryz.sizeOf223
 v64:=Tryz.zeroValue223 }
def Tryz.l225_ren:Go.Shelf.Ren:=⟨fun | 6=>225 | 15=>150 | 14=>238 | 28=>176 | 29=>177 | 20=>243 | 21=>244 | 22=>245 | 23=>246 | 24=>247 | 25=>248 | 26=>249 | 27=>250 | 46=>260 | 47=>184 | 48=>185 | 49=>261 | 50=>262 | 57=>266 | n=>n,fun | 22=>30 | 24=>137 | 25=>195 | 3=>3 | 39=>67 | 0=>0 | 53=>207 | 55=>27 | 4=>4 | 46=>200 | 45=>199 | 50=>204 | 5=>5 | 9=>9 | 66=>215 | 70=>219 | 76=>222 | 77=>223 | n=>n,fun | n=>n⟩
theorem Tryz.l225:Go.Proofs.SlLaysF0.n6 Tryz.prog Tryz.l225_ren:={
 mixed:=by kernel_rfl
 f6:=⟨Tryz.f225.name,by decide,Tryz.func225.trans (congrArg some (by kernel_rfl))⟩
 f14:=⟨Tryz.f238.name,by decide,Tryz.func238.trans (congrArg some (by kernel_rfl))⟩
 f15:=Tryz.func150.trans (congrArg some (by kernel_rfl))
 f20:=⟨Tryz.f243.name,by decide,Tryz.func243.trans (congrArg some (by kernel_rfl))⟩
 f21:=⟨Tryz.f244.name,by decide,Tryz.func244.trans (congrArg some (by kernel_rfl))⟩
 f22:=⟨Tryz.f245.name,by decide,Tryz.func245.trans (congrArg some (by kernel_rfl))⟩
 f23:=⟨Tryz.f246.name,by decide,Tryz.func246.trans (congrArg some (by kernel_rfl))⟩
 f24:=⟨Tryz.f247.name,by decide,Tryz.func247.trans (congrArg some (by kernel_rfl))⟩
 f25:=⟨Tryz.f248.name,by decide,Tryz.func248.trans (congrArg some (by kernel_rfl))⟩
 f26:=⟨Tryz.f249.name,by decide,Tryz.func249.trans (congrArg some (by kernel_rfl))⟩
 f27:=⟨Tryz.f250.name,by decide,Tryz.func250.trans (congrArg some (by kernel_rfl))⟩
 f28:=Tryz.func176.trans (congrArg some (by kernel_rfl))
 f29:=Tryz.func177.trans (congrArg some (by kernel_rfl))
 f46:=⟨Tryz.f260.name,by decide,Tryz.func260.trans (congrArg some (by kernel_rfl))⟩
 f47:=Tryz.func184.trans (congrArg some (by kernel_rfl))
 f48:=Tryz.func185.trans (congrArg some (by kernel_rfl))
 f49:=⟨Tryz.f261.name,by decide,Tryz.func261.trans (congrArg some (by kernel_rfl))⟩
 f50:=⟨Tryz.f262.name,by decide,Tryz.func262.trans (congrArg some (by kernel_rfl))⟩
 f57:=⟨Tryz.f266.name,by decide,Tryz.func266.trans (congrArg some (by kernel_rfl))⟩
 t0:=Tryz.underlying0
 a0:=Tryz.isAgg0
 z0:=Tryz.sizeOf0
 v0:=Tryz.zeroValue0
 t3:=Tryz.underlying3
 a3:=Tryz.isAgg3
 z3:=Tryz.sizeOf3
 v3:=Tryz.zeroValue3
 t4:=Tryz.underlying4
 a4:=Tryz.isAgg4
 z4:=Tryz.sizeOf4
 v4:=Tryz.zeroValue4
 t5:=Tryz.underlying5
 a5:=Tryz.isAgg5
 z5:=Tryz.sizeOf5
 v5:=Tryz.zeroValue5
 t9:=Tryz.underlying9
 a9:=Tryz.isAgg9
 z9:=Tryz.sizeOf9
 v9:=Tryz.zeroValue9
 t22:=Tryz.underlying30
 a22:=Tryz.isAgg30
 z22:=Tryz.sizeOf30
 v22:=Tryz.zeroValue30
 t25:=Tryz.underlying195
 a25:=Tryz.isAgg195
 z25:=Tryz.sizeOf195
 v25:=Tryz.zeroValue195
 t39:=Tryz.underlying67
 a39:=Tryz.isAgg67
 z39:=Tryz.sizeOf67
 v39:=Tryz.zeroValue67
 t45:=Tryz.underlying199
 a45:=Tryz.isAgg199
 z45:=Tryz.sizeOf199
 v45:=Tryz.zeroValue199
 t46:=Tryz.underlying200
 a46:=Tryz.isAgg200
 z46:=Tryz.sizeOf200
 v46:=Tryz.zeroValue200
 t50:=Tryz.underlying204
 a50:=Tryz.isAgg204
 z50:=Tryz.sizeOf204
 v50:=Tryz.zeroValue204
 t53:=Tryz.underlying207
 a53:=Tryz.isAgg207
 z53:=Tryz.sizeOf207
 v53:=Tryz.zeroValue207
 t55:=Tryz.underlying27
 a55:=Tryz.isAgg27
 z55:=Tryz.sizeOf27
 v55:=Tryz.zeroValue27
 t66:=Tryz.underlying215
 a66:=Tryz.isAgg215
 z66:=Tryz.sizeOf215
 v66:=Tryz.zeroValue215
 t70:=Tryz.underlying219
 a70:=Tryz.isAgg219
 z70:=Tryz.sizeOf219
 v70:=Tryz.zeroValue219
 t76:=Tryz.underlying222
 a76:=Tryz.isAgg222
 z76:=Tryz.sizeOf222
 v76:=Tryz.zeroValue222
 t77:=Tryz.underlying223
 a77:=Tryz.isAgg223
 z77:=Tryz.sizeOf223
 v77:=Tryz.zeroValue223 }
def Tryz.l227_ren:Go.Shelf.Ren:=⟨fun | 6=>227 | 15=>150 | 14=>239 | 28=>176 | 29=>177 | 20=>251 | 21=>252 | 22=>253 | 23=>254 | 24=>255 | 25=>256 | 26=>257 | 27=>258 | 46=>263 | 47=>184 | 48=>185 | 49=>264 | 50=>265 | 57=>267 | n=>n,fun | 22=>31 | 24=>141 | 25=>197 | 3=>3 | 39=>67 | 0=>0 | 53=>207 | 55=>27 | 4=>4 | 46=>200 | 45=>199 | 50=>204 | 5=>5 | 9=>9 | 66=>215 | 70=>219 | 76=>222 | 77=>223 | n=>n,fun | n=>n⟩
theorem Tryz.l227:Go.Proofs.SlLaysF0.n6 Tryz.prog Tryz.l227_ren:={
 mixed:=by kernel_rfl
 f6:=⟨Tryz.f227.name,by decide,Tryz.func227.trans (congrArg some (by kernel_rfl))⟩
 f14:=⟨Tryz.f239.name,by decide,Tryz.func239.trans (congrArg some (by kernel_rfl))⟩
 f15:=Tryz.func150.trans (congrArg some (by kernel_rfl))
 f20:=⟨Tryz.f251.name,by decide,Tryz.func251.trans (congrArg some (by kernel_rfl))⟩
 f21:=⟨Tryz.f252.name,by decide,Tryz.func252.trans (congrArg some (by kernel_rfl))⟩
 f22:=⟨Tryz.f253.name,by decide,Tryz.func253.trans (congrArg some (by kernel_rfl))⟩
 f23:=⟨Tryz.f254.name,by decide,Tryz.func254.trans (congrArg some (by kernel_rfl))⟩
 f24:=⟨Tryz.f255.name,by decide,Tryz.func255.trans (congrArg some (by kernel_rfl))⟩
 f25:=⟨Tryz.f256.name,by decide,Tryz.func256.trans (congrArg some (by kernel_rfl))⟩
 f26:=⟨Tryz.f257.name,by decide,Tryz.func257.trans (congrArg some (by kernel_rfl))⟩
 f27:=⟨Tryz.f258.name,by decide,Tryz.func258.trans (congrArg some (by kernel_rfl))⟩
 f28:=Tryz.func176.trans (congrArg some (by kernel_rfl))
 f29:=Tryz.func177.trans (congrArg some (by kernel_rfl))
 f46:=⟨Tryz.f263.name,by decide,Tryz.func263.trans (congrArg some (by kernel_rfl))⟩
 f47:=Tryz.func184.trans (congrArg some (by kernel_rfl))
 f48:=Tryz.func185.trans (congrArg some (by kernel_rfl))
 f49:=⟨Tryz.f264.name,by decide,Tryz.func264.trans (congrArg some (by kernel_rfl))⟩
 f50:=⟨Tryz.f265.name,by decide,Tryz.func265.trans (congrArg some (by kernel_rfl))⟩
 f57:=⟨Tryz.f267.name,by decide,Tryz.func267.trans (congrArg some (by kernel_rfl))⟩
 t0:=Tryz.underlying0
 a0:=Tryz.isAgg0
 z0:=Tryz.sizeOf0
 v0:=Tryz.zeroValue0
 t3:=Tryz.underlying3
 a3:=Tryz.isAgg3
 z3:=Tryz.sizeOf3
 v3:=Tryz.zeroValue3
 t4:=Tryz.underlying4
 a4:=Tryz.isAgg4
 z4:=Tryz.sizeOf4
 v4:=Tryz.zeroValue4
 t5:=Tryz.underlying5
 a5:=Tryz.isAgg5
 z5:=Tryz.sizeOf5
 v5:=Tryz.zeroValue5
 t9:=Tryz.underlying9
 a9:=Tryz.isAgg9
 z9:=Tryz.sizeOf9
 v9:=Tryz.zeroValue9
 t22:=Tryz.underlying31
 a22:=Tryz.isAgg31
 z22:=Tryz.sizeOf31
 v22:=Tryz.zeroValue31
 t25:=Tryz.underlying197
 a25:=Tryz.isAgg197
 z25:=Tryz.sizeOf197
 v25:=Tryz.zeroValue197
 t39:=Tryz.underlying67
 a39:=Tryz.isAgg67
 z39:=Tryz.sizeOf67
 v39:=Tryz.zeroValue67
 t45:=Tryz.underlying199
 a45:=Tryz.isAgg199
 z45:=Tryz.sizeOf199
 v45:=Tryz.zeroValue199
 t46:=Tryz.underlying200
 a46:=Tryz.isAgg200
 z46:=Tryz.sizeOf200
 v46:=Tryz.zeroValue200
 t50:=Tryz.underlying204
 a50:=Tryz.isAgg204
 z50:=Tryz.sizeOf204
 v50:=Tryz.zeroValue204
 t53:=Tryz.underlying207
 a53:=Tryz.isAgg207
 z53:=Tryz.sizeOf207
 v53:=Tryz.zeroValue207
 t55:=Tryz.underlying27
 a55:=Tryz.isAgg27
 z55:=Tryz.sizeOf27
 v55:=Tryz.zeroValue27
 t66:=Tryz.underlying215
 a66:=Tryz.isAgg215
 z66:=Tryz.sizeOf215
 v66:=Tryz.zeroValue215
 t70:=Tryz.underlying219
 a70:=Tryz.isAgg219
 z70:=Tryz.sizeOf219
 v70:=Tryz.zeroValue219
 t76:=Tryz.underlying222
 a76:=Tryz.isAgg222
 z76:=Tryz.sizeOf222
 v76:=Tryz.zeroValue222
 t77:=Tryz.underlying223
 a77:=Tryz.isAgg223
 z77:=Tryz.sizeOf223
 v77:=Tryz.zeroValue223 }
end Go.Proofs
namespace Go.Maps
end Go.Maps
namespace Go.AX.Q19
open Go Go.AX Go.Proofs Go.Maps Go.Sort Go.Shelf Go.RowKit
theorem J5 {wl:WL}{X:Type}{f:X->D}{cmp:X->X->Option Int}{g:Nat}(eg :∀args w,(callFunc g args).run Tryz.prog w=.ok (.enter g args) w)(hcmp :∀{a b r},cmp a b=some r->CallsOK wl.low Tryz.prog g [.d (f a),.d (f b)] [] (.d (D.i r)) []){l r:List X}(h:EP cmp l=some r)(hagg :∀x,(f x).isAgg=true:=by exact fun _=>rfl):CallsOK wl Tryz.prog 120 [.own 0 (List.map f l).length,.fn g []] [.row 88 3 (List.map f l) .no] (.tup []) [.row 88 3 (List.map f r) .no]:=
 QF Tryz.l120 (bq Tryz.func120 (by kernel_rfl) (by kernel_rfl)) Tryz.isAgg88 Tryz.sizeOf88 eg hagg hcmp h
theorem VU {wl:WL}{l r:List Int}(h:Lh l=some r):CallsOK wl Tryz.prog 218 [.own 0 (List.map D.i l).length] [.row 3 1 (List.map D.i l) .no] (.tup []) [.row 3 1 (List.map D.i r) .no]:=
 Zm Tryz.l218 (bq Tryz.func218 (by kernel_rfl) (by kernel_rfl)) h
theorem V0 {wl:WL}{X:Type}{f:X->D}{cmp:X->X->Option Int}{g:Nat}(eg :∀args w,(callFunc g args).run Tryz.prog w=.ok (.enter g args) w)(hcmp :∀{a b r},cmp a b=some r->CallsOK wl.low Tryz.prog g [.d (f a),.d (f b)] [] (.d (D.i r)) []){l r:List X}(h:EP cmp l=some r)(hagg :∀x,(f x).isAgg=true:=by exact fun _=>rfl):CallsOK wl Tryz.prog 225 [.own 0 (List.map f l).length,.fn g []] [.row 137 2 (List.map f l) .no] (.tup []) [.row 137 2 (List.map f r) .no]:=
 QF Tryz.l225 (bq Tryz.func225 (by kernel_rfl) (by kernel_rfl)) Tryz.isAgg137 Tryz.sizeOf137 eg hagg hcmp h
theorem VC {wl:WL}{X:Type}{f:X->D}{cmp:X->X->Option Int}{g:Nat}(eg :∀args w,(callFunc g args).run Tryz.prog w=.ok (.enter g args) w)(hcmp :∀{a b r},cmp a b=some r->CallsOK wl.low Tryz.prog g [.d (f a),.d (f b)] [] (.d (D.i r)) []){l r:List X}(h:EP cmp l=some r)(hagg :∀x,(f x).isAgg=true:=by exact fun _=>rfl):CallsOK wl Tryz.prog 227 [.own 0 (List.map f l).length,.fn g []] [.row 141 3 (List.map f l) .no] (.tup []) [.row 141 3 (List.map f r) .no]:=
 QF Tryz.l227 (bq Tryz.func227 (by kernel_rfl) (by kernel_rfl)) Tryz.isAgg141 Tryz.sizeOf141 eg hagg hcmp h
end Go.AX.Q19
end
section
namespace Go.AX.Q19
open Go Go.AX Go.Proofs
variable {wl:Prop}
theorem Gi {a0:List UInt8}{a1:List Int}{r:(List UInt8)}(h:DZ a0 a1=some r):yC wl 158 [AV.own 0 (List.map D.u8 a0).length,AV.d (D.l 1 D.i a1)] [.row 5 1 (List.map D.u8 a0) .no] (AV.own 0 (List.map D.u8 r).length) [.row 5 1 (List.map D.u8 r) .no]:=by
 refine oK Tryz.f158 ⟨rfl,?_⟩;unfold DZ at h;refine⟨a1.length,X10 _,?_⟩;refine AN h (fun v1=>⟨yO 0 D.u8 v1::dd 28 ([]),yR 5 1 D.u8 v1::nn 29 ([])⟩) ?_ ?_
 ·intro _ h;revert h;refine Ah 7 1 D.i rfl (fun i3 v4=>⟨yO 0 D.u8 v4::dd 6 (y6 a1::yi (a1.length:Int)::yi (i3:Int)::dd 19 ([])),yR 5 1 D.u8 v4::nn 29 ([])⟩) ?_ ?_ ?_
  ·exact wk
  ·rintro v4 K5 h;refine goC ?_;refine BK C5 ?_;exact AQ h
  rintro _ i3 x7 v4 K5 b3 c3 e3 h p8;refine goC ?_;refine BJ (C0 b3) ?_;refine goC ?_;refine⟨BI (f:=D.i) b3,D.i x7,c3,rfl,?_⟩;refine⟨by decide,_,rfl,?_⟩;refine⟨_,Ar _,?_⟩;refine⟨by decide,_,rfl,?_⟩;refine⟨_,Ar _,?_⟩;refine⟨by decide,_,rfl,?_⟩;refine⟨_,Ar _,?_⟩;refine⟨_,Ar _,?_⟩;refine⟨rfl,?_⟩;refine apO h rfl fun _ h=>?_;refine⟨_,e3,?_⟩;exact p8 _ _ wk h
 rintro v1 h;(conv=>whnf);refine .inl ?_;exact fin h
theorem IN {a0:List JAE}{r:(List UInt8)}(h:Bh a0=some r):yC wl 157 [AV.d (D.l 2 JAE.toD a0)] [] (.d (D.l 1 D.u8 r)) []:=by
 refine oK Tryz.f157 ⟨rfl,?_⟩;unfold Bh at h;refine⟨a0.length,X10 _,?_⟩;refine AN h (fun v1=>⟨X::X::X::yO 3 D.u8 v1::dd 24 ([]),N::N::N::yR 5 1 D.u8 v1::nn 24 ([])⟩) ?_ ?_
 ·intro _ h;revert h;refine Ah 7 2 JAE.toD rfl (fun i3 v4=>⟨X::X::X::yO 3 D.u8 v4::X::X::X::y0 a0::yi (a0.length:Int)::yi (i3:Int)::dd 18 ([]),N::N::N::yR 5 1 D.u8 v4::nn 24 ([])⟩) ?_ ?_ ?_
  ·exact wk
  ·rintro v4 K5 h;refine goC ?_;refine BK C5 ?_;exact AQ h
  rintro _ i3 x7 v4 K5 b3 c3 e3 h p8;refine goC ?_;refine BJ (C0 b3) ?_;refine goC ?_;refine⟨BI (f:=JAE.toD) b3,JAE.toD x7,c3,rfl,?_⟩;refine AN h (fun v9=>⟨X::X::X::yO 3 D.u8 v4::X::yr 5 0::yv v9::y0 a0::yi (a0.length:Int)::yi (i3:Int)::dd 18 ([]),N::N::N::yR 5 1 D.u8 v4::N::yB (JAE.av x7)::nn 22 ([])⟩) ?_ ?_
  ·intro _ h;exact selC h
  rintro v9 h;refine .inl (dO ?_);refine⟨x7.ASNs.length,X10 _,?_⟩;refine⟨_,Ar _,?_⟩;refine⟨rfl,?_⟩;refine apO h rfl fun _ h=>?_;refine A2 h (fun _=>Gi) (fun _=>rfl) fun _ h=>?_;refine cO ?_;refine⟨_,e3,?_⟩;exact p8 _ _ wk h
 rintro v1 h;(conv=>whnf);refine .inl ?_;(conv=>whnf);refine .inl ?_;refine⟨rfl,?_⟩;exact fin h
theorem IT {a0:List JAB}{r:(List UInt8)}(h:B6 a0=some r):yC wl 159 [AV.d (D.l 2 JAB.toD a0)] [] (.d (D.l 1 D.u8 r)) []:=by
 refine oK Tryz.f159 ⟨rfl,?_⟩;unfold B6 at h;refine⟨a0.length,X10 _,?_⟩;refine AN h (fun v1=>⟨X::X::X::yO 3 D.u8 v1::dd 19 ([]),N::N::N::yR 5 1 D.u8 v1::nn 19 ([])⟩) ?_ ?_
 ·intro _ h;revert h;refine Ah 6 2 JAB.toD rfl (fun i3 v4=>⟨X::X::X::yO 3 D.u8 v4::X::X::y1 a0::yi (a0.length:Int)::yi (i3:Int)::dd 14 ([]),N::N::N::yR 5 1 D.u8 v4::nn 19 ([])⟩) ?_ ?_ ?_
  ·exact wk
  ·rintro v4 K5 h;refine goC ?_;refine BK C5 ?_;exact AQ h
  rintro _ i3 x7 v4 K5 b3 c3 e3 h p8;refine goC ?_;refine BJ (C0 b3) ?_;refine goC ?_;refine⟨BI (f:=JAB.toD) b3,JAB.toD x7,c3,rfl,?_⟩;refine⟨by decide,_,rfl,?_⟩;refine⟨_,rfl,?_⟩;refine⟨rfl,?_⟩;refine AK h (fun _=>Gi) fun _ h=>?_;refine⟨_,e3,?_⟩;exact p8 _ _ wk h
 rintro v1 h;(conv=>whnf);refine .inl ?_;(conv=>whnf);refine .inl ?_;refine⟨rfl,?_⟩;exact fin h
theorem MF {a0:List JAF}{r:(List UInt8)}(h:Dw a0=some r):yC wl 160 [AV.d (D.l 3 JAF.toD a0)] [] (.d (D.l 1 D.u8 r)) []:=by
 refine oK Tryz.f160 ⟨rfl,?_⟩;unfold Dw at h;refine⟨a0.length,X10 _,?_⟩;refine AN h (fun v1=>⟨X::X::X::yO 3 D.u8 v1::dd 19 ([]),N::N::N::yR 5 1 D.u8 v1::nn 19 ([])⟩) ?_ ?_
 ·intro _ h;revert h;refine Ah 6 3 JAF.toD rfl (fun i3 v4=>⟨X::X::X::yO 3 D.u8 v4::X::X::y2 a0::yi (a0.length:Int)::yi (i3:Int)::dd 14 ([]),N::N::N::yR 5 1 D.u8 v4::nn 19 ([])⟩) ?_ ?_ ?_
  ·exact wk
  ·rintro v4 K5 h;refine goC ?_;refine BK C5 ?_;exact AQ h
  rintro _ i3 x7 v4 K5 b3 c3 e3 h p8;refine goC ?_;refine BJ (C0 b3) ?_;refine goC ?_;refine⟨BI (f:=JAF.toD) b3,JAF.toD x7,c3,rfl,?_⟩;refine⟨rfl,?_⟩;refine AK h (fun _=>Gi) fun _ h=>?_;refine⟨_,e3,?_⟩;exact p8 _ _ wk h
 rintro v1 h;(conv=>whnf);refine .inl ?_;(conv=>whnf);refine .inl ?_;refine⟨rfl,?_⟩;exact fin h
theorem Kr {a0:JAA}{a1:JAA}{r:Int}(h:DL a0 a1=some r):yC wl 161 [AV.d (JAA.toD a0),AV.d (JAA.toD a1)] [] (.d (D.i r)) []:=by
 refine oK Tryz.f161 ⟨rfl,?_⟩;unfold DL at h;refine AK h (fun _=>A0) fun _ h=>?_;exact fin h
theorem E5 {a1:List Int}{r:(List UInt8)}(h:BL a1=some r):yC wl 158 [.d (D.nil 1),AV.d (D.l 1 D.i a1)] [] (.d (D.l 1 D.u8 r)) []:=by
 refine oK Tryz.f158 ⟨rfl,?_⟩;unfold BL at h;refine⟨a1.length,X10 _,?_⟩;refine AN h (fun v1=>⟨yO 26 D.u8 v1::dd 28 ([]),nn 26 (yR 5 1 D.u8 v1::N::N::[])⟩) ?_ ?_
 ·intro _ h;revert h;refine Ah 7 1 D.i rfl (fun i3 v4=>⟨yO 26 D.u8 v4::dd 6 (y6 a1::yi (a1.length:Int)::yi (i3:Int)::dd 19 ([])),nn 26 (yR 5 1 D.u8 v4::N::N::[])⟩) ?_ ?_ ?_
  ·exact wk
  ·rintro v4 K5 h;refine goC ?_;refine BK C5 ?_;exact AQ h
  rintro _ i3 x7 v4 K5 b3 c3 e3 h p8;refine goC ?_;refine BJ (C0 b3) ?_;refine goC ?_;refine⟨BI (f:=D.i) b3,D.i x7,c3,rfl,?_⟩;refine⟨by decide,_,rfl,?_⟩;refine⟨_,Ar _,?_⟩;refine⟨by decide,_,rfl,?_⟩;refine⟨_,Ar _,?_⟩;refine⟨by decide,_,rfl,?_⟩;refine⟨_,Ar _,?_⟩;refine⟨_,Ar _,?_⟩;refine⟨rfl,?_⟩;refine apO h rfl fun _ h=>?_;refine⟨_,e3,?_⟩;exact p8 _ _ wk h
 rintro v1 h;(conv=>whnf);refine .inl ?_;(conv=>whnf);refine .inl ?_;refine⟨rfl,?_⟩;exact fin h
theorem OC {a0:JAA}{a1:JAA}{r:Int}(h:Fa a0 a1=some r):yC wl 136 [AV.d (JAA.toD a0),AV.d (JAA.toD a1)] [] (.d (D.i r)) []:=by
 refine oK Tryz.f136 ⟨rfl,?_⟩;unfold Fa at h;refine AK h (fun _=>A0) fun _ h=>?_;exact fin h
theorem FV {a1:List JAC}{a2:Bool}{r:(List UInt8)}(h:C3 a1 a2=some r):yC wl 96 [.d (D.nil 1),AV.d (D.l 4 JAC.toD a1),AV.d (D.b a2)] [] (.d (D.l 1 D.u8 r)) []:=by
 refine oK Tryz.f96 ⟨rfl,?_⟩;unfold C3 at h;refine⟨a1.length,X10 _,?_⟩;refine AN h (fun v1=>⟨yO 25 D.u8 v1::dd 36 ([]),nn 25 (yR 5 1 D.u8 v1::nn 11 ([]))⟩) ?_ ?_
 ·intro _ h;revert h;refine Ah 9 4 JAC.toD rfl (fun i3 v4=>⟨yO 25 D.u8 v4::X::yb a2::dd 6 (y5 a1::yi (a1.length:Int)::yi (i3:Int)::dd 25 ([])),nn 25 (yR 5 1 D.u8 v4::nn 11 ([]))⟩) ?_ ?_ ?_
  ·exact wk
  ·rintro v4 K5 h;refine goC ?_;refine BK C5 ?_;exact AQ h
  rintro _ i3 x7 v4 K5 b3 c3 e3 h p8;refine goC ?_;refine BJ (C0 b3) ?_;refine goC ?_;refine⟨BI (f:=JAC.toD) b3,JAC.toD x7,c3,rfl,?_⟩;refine AN h (fun v9=>⟨yO 25 D.u8 v9::X::yb a2::dd 6 (y5 a1::yi (a1.length:Int)::yi (i3:Int)::dd 25 ([])),nn 25 (yR 5 1 D.u8 v9::nn 11 ([]))⟩) ?_ ?_
  ·intro _ h;refine Aj h fun h=>?_;refine .inl (dO ?_);refine⟨_,Ar _,?_⟩;refine⟨rfl,?_⟩;refine apO h rfl fun _ h=>?_;refine A2 h (fun _=>FY) (fun _=>rfl) fun _ h=>?_;refine⟨_,rfl,?_⟩;refine⟨by decide,_,rfl,?_⟩;(conv=>whnf);refine MQ (f:=D.u8) h fun _ h=>?_;refine apO h rfl fun _ h=>?_;refine cO ?_;exact AQ h
  rintro v9 h;refine⟨_,e3,?_⟩;exact p8 _ _ wk h
 rintro v1 h;(conv=>whnf);refine .inl ?_;(conv=>whnf);refine .inl ?_;refine⟨rfl,?_⟩;exact fin h
theorem Kx {a0:JAG}{r:(List JAA)}(h:Eo a0=some r):yC wl 95 [AV.d (JAG.toD a0)] [] (.d (D.l 3 JAA.toD r)) []:=by
 refine oKx 131 Tryz.f95 ⟨rfl,?_⟩;unfold Eo at h;refine AN h (fun (v1,v2)=>⟨X::yr 1 0::dd 8 (AV.tup [yO 54 JAA.toD v2,yi v1]::dd 44 ([])),N::yB (JAG.av a0)::nn 52 (yR 88 3 JAA.toD v2::nn 131 ([]))⟩) ?_ ?_
 ·intro _ h;(conv=>whnf);refine inl Tryz.f134 55 (by kernel_rfl) (by kernel_rfl) ⟨rfl,?_⟩;refine AK h (fun _=>Hm) fun _ h=>?_;refine goC ?_;refine Br h fun h=>?_;refine⟨_,Ar _,?_⟩;refine AN h (fun v6=>⟨X::yr 56 0::X::X::yr 59 0::AV.fn 156 [yr 59 0]::dd 14 (AV.tup []::dd 93 ([])),zS7 v6 a0 a0.JAD⟩) ?_ ?_
  ·intro _ h;(conv=>whnf);refine inl Tryz.f156 169 (by kernel_rfl) (by kernel_rfl) ⟨rfl,?_⟩;refine AN h (fun v8=>⟨dd 17 ([]),N::yB (JAG.av a0)::some (OB.row 88 3 (List.map JAA.toD []) .no)::nn 53 (yB (JAD.av a0.JAD)::some (OB.row 88 3 (List.map JAA.toD []) .no)::N::yB [yO 185 JAA.toD v8]::nn 14 (some (OB.row 5 1 (List.map D.u8 ([(Aa a0.JAD.Origin)]:List UInt8)) .yes)::nn 110 (yR 88 3 JAA.toD v8::[])))⟩) ?_ ?_
   ·intro _ h;refine Aj h fun h=>?_;obtain⟨v10,g11,h⟩:=AD h;refine⟨_,Bd (ek:=D.i) (ev:=D.i) (l:=Bz) (k:=1) BP,D.i v10,Dz (z:=0) rfl g11,_,rfl,?_⟩;(conv=>whnf);refine .inl ?_;refine⟨rfl,?_⟩;refine⟨rfl,?_⟩;refine apN (f:=JAA.toD) h fun _ h=>?_;exact AQ h
   rintro v8 h;exact B7 (.swap 185 168 rfl rfl rfl wk) h
  rintro v6 h;refine AN h (fun v13=>⟨X::yr 56 0::X::X::yr 59 0::AV.fn 156 [yr 59 0]::dd 108 ([]),zS7 v13 a0 a0.JAD⟩) ?_ ?_
  ·intro _ h;refine .inr (tOB (by kernel_rfl) ?_);refine Ad h ?_ ?_<;>intro h
   ·refine A2 h (fun _=>IN) (fun _=>rfl) fun _ h=>?_;refine cO ?_;refine AN h (fun v17=>⟨X::yr 56 0::X::X::yr 59 0::AV.fn 156 [yr 59 0]::dd 28 (AV.tup []::dd 79 ([])),zS7 v17 a0 a0.JAD⟩) ?_ ?_
    ·intro _ h;(conv=>whnf);refine inl Tryz.f156 169 (by kernel_rfl) (by kernel_rfl) ⟨rfl,?_⟩;refine goC ?_;obtain⟨v19,g20,h⟩:=AD h;refine⟨_,Bd (ek:=D.i) (ev:=D.i) (l:=Bz) (k:=2) BP,D.i v19,Dz (z:=0) rfl g20,_,rfl,?_⟩;refine⟨rfl,?_⟩;refine apO h rfl fun _ h=>?_;exact AQ h
    rintro v17 h;exact AQ h
   refine⟨a0.JAD.Path.length,X10 _,?_⟩;refine A2 h (fun _=>IN) (fun _=>rfl) fun _ h=>?_;refine cO ?_;refine AN h (fun v25=>⟨X::yr 56 0::X::X::yr 59 0::AV.fn 156 [yr 59 0]::dd 28 (AV.tup []::dd 79 ([])),zS7 v25 a0 a0.JAD⟩) ?_ ?_
   ·intro _ h;(conv=>whnf);refine inl Tryz.f156 169 (by kernel_rfl) (by kernel_rfl) ⟨rfl,?_⟩;refine AN h (fun v27=>⟨dd 17 ([]),zS7 v27 a0 a0.JAD⟩) ?_ ?_
    ·intro _ h;refine Aj h fun h=>?_;obtain⟨v29,g30,h⟩:=AD h;refine⟨_,Bd (ek:=D.i) (ev:=D.i) (l:=Bz) (k:=2) BP,D.i v29,Dz (z:=0) rfl g30,_,rfl,?_⟩;refine⟨rfl,?_⟩;refine apO h rfl fun _ h=>?_;exact AQ h
    rintro v27 h;exact AQ h
   rintro v25 h;exact AQ h
  rintro v13 h;refine AN h (fun v33=>⟨X::yr 56 0::X::X::yr 59 0::AV.fn 156 [yr 59 0]::dd 108 ([]),zS7 v33 a0 a0.JAD⟩) ?_ ?_
  ·intro _ h;refine .inr (tOB (by kernel_rfl) ?_);refine Ad h ?_ ?_<;>intro h
   ·refine A2 h (fun _=>FY) (fun _=>rfl) fun _ h=>?_;refine cO ?_;refine AN h (fun v37=>⟨X::yr 56 0::X::X::yr 59 0::AV.fn 156 [yr 59 0]::dd 43 (AV.tup []::dd 64 ([])),zS7 v37 a0 a0.JAD⟩) ?_ ?_
    ·intro _ h;(conv=>whnf);refine inl Tryz.f156 169 (by kernel_rfl) (by kernel_rfl) ⟨rfl,?_⟩;refine AN h (fun v39=>⟨dd 17 ([]),zS7 v39 a0 a0.JAD⟩) ?_ ?_
     ·intro _ h;refine Aj h fun h=>?_;obtain⟨v41,g42,h⟩:=AD h;refine⟨_,Bd (ek:=D.i) (ev:=D.i) (l:=Bz) (k:=3) BP,D.i v41,Dz (z:=0) rfl g42,_,rfl,?_⟩;refine⟨rfl,?_⟩;refine apO h rfl fun _ h=>?_;exact AQ h
     rintro v39 h;exact AQ h
    rintro v37 h;exact AQ h
   refine A2 h (fun _=>FY) (fun _=>rfl) fun _ h=>?_;refine cO ?_;refine AN h (fun _=>⟨X::yr 56 0::X::X::yr 59 0::AV.fn 156 [yr 59 0]::dd 43 (AV.tup []::dd 64 ([])),zS7 v13 a0 a0.JAD⟩) ?_ ?_
   ·intro _ h;(conv=>whnf);refine inl Tryz.f156 169 (by kernel_rfl) (by kernel_rfl) ⟨rfl,?_⟩;refine goC ?_;exact AQ h
   rintro _ h;exact AQ h
  rintro v33 h;refine .inr (tOB (by kernel_rfl) ?_);refine⟨rfl,?_⟩;refine A2 h (fun _=>E5) (fun _=>rfl) fun _ h=>?_;refine cO ?_;refine AN h (fun v50=>⟨X::yr 56 0::X::X::yr 59 0::AV.fn 156 [yr 59 0]::dd 52 (AV.tup []::dd 55 ([])),zS7 v50 a0 a0.JAD⟩) ?_ ?_
  ·intro _ h;(conv=>whnf);refine inl Tryz.f156 169 (by kernel_rfl) (by kernel_rfl) ⟨rfl,?_⟩;refine AN h (fun v52=>⟨dd 17 ([]),N::yB (JAG.av a0)::some (OB.row 88 3 (List.map JAA.toD []) .no)::nn 53 (yB (JAD.av a0.JAD)::N::N::zS1 v52::nn 51 (some (OB.row 3 1 (List.map D.i ([a0.JAD.MED]:List Int)) .yes)::nn 56 (yR 88 3 JAA.toD v52::nn 17 ([]))))⟩) ?_ ?_
   ·intro _ h;refine Aj h fun h=>?_;obtain⟨v54,g55,h⟩:=AD h;refine⟨_,Bd (ek:=D.i) (ev:=D.i) (l:=Bz) (k:=4) BP,D.i v54,Dz (z:=0) rfl g55,_,rfl,?_⟩;refine⟨rfl,?_⟩;refine apO h rfl fun _ h=>?_;exact AQ h
   rintro v52 h;exact AQ h
  rintro v50 h;refine .inr (tOB (by kernel_rfl) ?_);refine⟨rfl,?_⟩;refine A2 h (fun _=>E5) (fun _=>rfl) fun _ h=>?_;refine cO ?_;refine AN h (fun v60=>⟨X::yr 56 0::X::X::yr 59 0::AV.fn 156 [yr 59 0]::dd 61 (AV.tup []::dd 46 ([])),zS7 v60 a0 a0.JAD⟩) ?_ ?_
  ·intro _ h;(conv=>whnf);refine inl Tryz.f156 169 (by kernel_rfl) (by kernel_rfl) ⟨rfl,?_⟩;refine AN h (fun v62=>⟨dd 17 ([]),N::yB (JAG.av a0)::some (OB.row 88 3 (List.map JAA.toD []) .no)::nn 53 (yB (JAD.av a0.JAD)::N::N::zS1 v62::nn 60 (some (OB.row 3 1 (List.map D.i ([a0.JAD.Pref]:List Int)) .yes)::nn 47 (yR 88 3 JAA.toD v62::nn 17 ([]))))⟩) ?_ ?_
   ·intro _ h;refine Aj h fun h=>?_;obtain⟨v64,g65,h⟩:=AD h;refine⟨_,Bd (ek:=D.i) (ev:=D.i) (l:=Bz) (k:=5) BP,D.i v64,Dz (z:=0) rfl g65,_,rfl,?_⟩;refine⟨rfl,?_⟩;refine apO h rfl fun _ h=>?_;exact AQ h
   rintro v62 h;exact AQ h
  rintro v60 h;refine .inr (tOB (by kernel_rfl) ?_);refine⟨a0.JAD.Communities.length,X10 _,?_⟩;refine A2 h (fun _=>IT) (fun _=>rfl) fun _ h=>?_;refine cO ?_;refine AN h (fun v70=>⟨X::yr 56 0::X::X::yr 59 0::AV.fn 156 [yr 59 0]::dd 70 (AV.tup []::dd 37 ([])),zS7 v70 a0 a0.JAD⟩) ?_ ?_
  ·intro _ h;(conv=>whnf);refine inl Tryz.f156 169 (by kernel_rfl) (by kernel_rfl) ⟨rfl,?_⟩;refine AN h (fun v72=>⟨dd 17 ([]),zS7 v72 a0 a0.JAD⟩) ?_ ?_
   ·intro _ h;refine Aj h fun h=>?_;obtain⟨v74,g75,h⟩:=AD h;refine⟨_,Bd (ek:=D.i) (ev:=D.i) (l:=Bz) (k:=8) BP,D.i v74,Dz (z:=0) rfl g75,_,rfl,?_⟩;refine⟨rfl,?_⟩;refine apO h rfl fun _ h=>?_;exact AQ h
   rintro v72 h;exact AQ h
  rintro v70 h;refine .inr (tOB (by kernel_rfl) ?_);refine⟨a0.JAD.JAF.length,X10 _,?_⟩;refine A2 h (fun _=>MF) (fun _=>rfl) fun _ h=>?_;refine cO ?_;refine AN h (fun v80=>⟨X::yr 56 0::X::X::yr 59 0::AV.fn 156 [yr 59 0]::dd 79 (AV.tup []::dd 28 ([])),zS7 v80 a0 a0.JAD⟩) ?_ ?_
  ·intro _ h;(conv=>whnf);refine inl Tryz.f156 169 (by kernel_rfl) (by kernel_rfl) ⟨rfl,?_⟩;refine AN h (fun v82=>⟨dd 17 ([]),zS7 v82 a0 a0.JAD⟩) ?_ ?_
   ·intro _ h;refine Aj h fun h=>?_;obtain⟨v84,g85,h⟩:=AD h;refine⟨_,Bd (ek:=D.i) (ev:=D.i) (l:=Bz) (k:=32) BP,D.i v84,Dz (z:=0) rfl g85,_,rfl,?_⟩;refine⟨rfl,?_⟩;refine apO h rfl fun _ h=>?_;exact AQ h
   rintro v82 h;exact AQ h
  rintro v80 h;refine .inr (tOB (by kernel_rfl) ?_);refine⟨rfl,?_⟩;refine A2 h (fun _=>E5) (fun _=>rfl) fun _ h=>?_;refine cO ?_;refine AN h (fun v90=>⟨X::yr 56 0::X::X::yr 59 0::dd 89 (AV.tup []::dd 19 ([])),zS7 v90 a0 a0.JAD⟩) ?_ ?_
  ·intro _ h;(conv=>whnf);refine inl Tryz.f156 169 (by kernel_rfl) (by kernel_rfl) ⟨rfl,?_⟩;refine AN h (fun v92=>⟨dd 17 ([]),N::yB (JAG.av a0)::some (OB.row 88 3 (List.map JAA.toD []) .no)::nn 53 (yB (JAD.av a0.JAD)::N::N::zS1 v92::nn 87 (some (OB.row 3 1 (List.map D.i ([a0.JAD.OTC]:List Int)) .yes)::nn 20 (yR 88 3 JAA.toD v92::nn 17 ([]))))⟩) ?_ ?_
   ·intro _ h;refine Aj h fun h=>?_;obtain⟨v94,g95,h⟩:=AD h;refine⟨_,Bd (ek:=D.i) (ev:=D.i) (l:=Bz) (k:=35) BP,D.i v94,Dz (z:=0) rfl g95,_,rfl,?_⟩;refine⟨rfl,?_⟩;refine apO h rfl fun _ h=>?_;exact AQ h
   rintro v92 h;exact AQ h
  rintro v90 h;refine⟨a0.JAD.Other.length,X10 _,?_⟩;refine AN h (fun v98=>⟨dd 4 (yr 59 0::dd 109 ([])),eQ v98 a0⟩) ?_ ?_
  ·intro _ h;revert h;refine Ah 96 3 JAA.toD rfl (fun i100 v101=>⟨dd 4 (yr 59 0::dd 91 (AV.d (D.l 3 JAA.toD a0.JAD.Other)::yi (a0.JAD.Other.length:Int)::yi (i100:Int)::dd 15 ([]))),eQ v101 a0⟩) ?_ ?_ ?_
   ·exact wk
   ·rintro v101 K102 h;refine goC ?_;refine BK C5 ?_;exact AQ h
   rintro _ i100 x104 v101 K102 b100 c100 e100 h p105;refine goC ?_;refine BJ (C0 b100) ?_;refine goC ?_;refine⟨BI (f:=JAA.toD) b100,JAA.toD x104,c100,rfl,?_⟩;refine AK h (fun _=>FS) fun _ h=>?_;refine⟨rfl,?_⟩;refine apO h rfl fun _ h=>?_;refine⟨_,e100,?_⟩;exact p105 _ _ wk h
  rintro v98 h;obtain⟨v110,g111,h⟩:=AD h;have g111l:=Gh g111;refine⟨_,_,some [],J5 (f:=JAA.toD) (enters_of Tryz.func161 (by kernel_rfl) rfl) (fun h=>Kr h) g111,?_⟩;exact B7 (.swap 168 54 rfl rfl rfl wk) h
 rintro⟨v1,v2⟩ h;refine AN h (fun v112=>⟨X::yr 1 0::X::yO 54 JAA.toD v2::dd 18 (yb v112::dd 32 ([])),N::yB (JAG.av a0)::nn 52 (yR 88 3 JAA.toD v2::nn 131 ([]))⟩) ?_ ?_
 ·intro _ h;refine⟨a0.Announce.length,X10 _,?_⟩;exact selC h
 rintro v112 h;refine AN h (fun v114=>⟨X::yr 1 0::X::yO 54 JAA.toD v114::dd 51 ([]),N::yB (JAG.av a0)::nn 52 (yR 88 3 JAA.toD v114::nn 131 ([]))⟩) ?_ ?_
 ·intro _ h;refine Aj h fun h=>?_;refine AK h (fun _=>FY) fun _ h=>?_;refine apO h rfl fun _ h=>?_;refine .inl (dO ?_);refine⟨rfl,?_⟩;refine apO h rfl fun _ h=>?_;refine A2 h (fun _=>HN) (fun _=>rfl) fun _ h=>?_;(conv=>whnf);refine .inl ?_;refine⟨rfl,?_⟩;refine⟨rfl,?_⟩;refine apO h rfl fun _ h=>?_;refine cO ?_;exact AQ h
 rintro v114 h;refine AK h (fun _=>FV) fun v126 h=>?_;refine⟨v126.length,X10 _,?_⟩;refine AN h (fun v128=>⟨X::X::X::yO 54 JAA.toD v128::dd 51 ([]),nn 54 (yR 88 3 JAA.toD v128::nn 131 ([]))⟩) ?_ ?_
 ·intro _ h;refine Aj h fun h=>?_;refine apO h rfl fun _ h=>?_;(conv=>whnf);refine .inl ?_;refine⟨rfl,?_⟩;refine⟨rfl,?_⟩;refine apO h rfl fun _ h=>?_;exact AQ h
 rintro v128 h;obtain⟨v134,g135,h⟩:=AD h;have g135l:=Gh g135;refine⟨_,_,some [],J5 (f:=JAA.toD) (enters_of Tryz.func136 (by kernel_rfl) rfl) (fun h=>OC h) g135,?_⟩;(conv=>whnf);refine .inl ?_;(conv=>whnf);refine .inl ?_;refine⟨DK,?_⟩;exact fin h
theorem IR {a1:Int}{r:(List UInt8)}(h:Dl a1=some r):yC wl 87 [.d (D.nil 1),AV.d (D.i a1)] [] (AV.own 0 (List.map D.u8 r).length) [.row 5 1 (List.map D.u8 r) .no]:=by
 refine oK Tryz.f87 ⟨rfl,?_⟩;unfold Dl at h;refine⟨by decide,_,rfl,?_⟩;refine⟨_,Ar _,?_⟩;refine⟨_,Ar _,?_⟩;refine⟨rfl,?_⟩;refine apN (f:=D.u8) h fun _ h=>?_;(conv=>whnf);refine .inl ?_;(conv=>whnf);refine .inr ?_;exact fin h
theorem J8 {a0:JAG}{r:(List UInt8)×Bool}(h:E6 a0=some r):yC wl 49 [AV.d (JAG.toD a0)] [] (.tup [.d (D.l 1 D.u8 r.1),.d (D.b r.2)]) []:=by
 refine oK Tryz.f49 ⟨rfl,?_⟩;unfold E6 at h;refine AK h (fun _=>Kx) fun _ h=>?_;refine AK h (fun _=>IH) ?_;rintro⟨v3,_⟩ h;refine AK h (fun _=>FV) fun v6 h=>?_;refine⟨v6.length,X10 _,?_⟩;refine O7 [19] h (fun _=>IR) fun _ h=>?_;refine apO h rfl fun _ h=>?_;refine⟨v3.length,X10 _,?_⟩;refine AK h (fun _=>LW) fun _ h=>?_;refine apO h rfl fun _ h=>?_;refine AK h (fun _=>HN) fun v16 h=>?_;refine AN h (fun v18=>⟨X::X::yO 19 D.u8 v16::yb v18::dd 36 ([]),nn 19 (yR 5 1 D.u8 v16::nn 20 ([]))⟩) ?_ ?_
 ·intro _ h;refine Aj h fun h=>?_;refine⟨v16.length,DK,?_⟩;exact AQ h
 rintro v18 h;(conv=>whnf);refine .inl ?_;refine⟨rfl,?_⟩;exact fin h
theorem HQ {a0:Addr}{r:Int}(h:CS a0=some r):yC wl 100 [AV.d (Addr.toD a0)] [] (.d (D.i r)) []:=by
 refine oK Tryz.f100 ⟨rfl,?_⟩;unfold CS at h;refine goC ?_;refine Ad h ?_ ?_<;>intro h
 ·exact fin h
 exact fin h
theorem Pn {a0:Int}{r:UInt64×UInt64}(h:FO a0=some r):yC wl 137 [AV.d (D.i a0)] [] (.tup [.d (D.u64 r.1),.d (D.u64 r.2)]) []:=by
 refine oK Tryz.f137 ⟨rfl,?_⟩;unfold FO at h;refine goC ?_;refine Ad h ?_ ?_<;>intro h
 ·refine⟨_,rfl,?_⟩;refine⟨_,Av _,?_⟩;refine⟨Int.natCast_nonneg _,_,Av _,?_⟩;refine⟨_,Av _,?_⟩;exact fin h
 refine⟨_,Av _,?_⟩;refine⟨Int.natCast_nonneg _,_,Av _,?_⟩;refine⟨_,Av _,?_⟩;exact fin h
theorem Jl {a0:Addr}{a1:Int}{r:Addr}(h:D9 a0 a1=some r):yC wl 101 [AV.d (Addr.toD a0),AV.d (D.i a1)] [] (.d (Addr.toD r)) []:=by
 refine oK Tryz.f101 ⟨rfl,?_⟩;unfold D9 at h;refine AK h (fun _=>HQ) fun _ h=>?_;refine⟨_,rfl,?_⟩;refine AK h (fun _=>Pn) ?_;rintro⟨_,_⟩ h;refine⟨_,Av _,?_⟩;refine⟨_,Av _,?_⟩;exact fin h
theorem Pj {a0:JAC}{r:Bool}(h:GO a0=some r):yC wl 52 [AV.d (JAC.toD a0)] [] (.d (D.b r)) []:=by
 refine oK Tryz.f52 ⟨rfl,?_⟩;unfold GO at h;refine AN h (fun v1=>⟨X::X::yb v1::dd 26 ([]),nn 29 ([])⟩) ?_ ?_
 ·intro _ h;refine .inl (dO ?_);refine A2 h (fun _=>Gw) (fun _=>rfl) fun _ h=>?_;refine Ad h ?_ ?_<;>intro h
  ·refine Ad h ?_ ?_<;>intro h
   ·refine A2 h (fun _=>HQ) (fun _=>rfl) fun _ h=>?_;refine Ad h ?_ ?_<;>intro h
    ·refine A2 h (fun _=>Jl) (fun _=>rfl) fun _ h=>?_;refine cO ?_;exact AQ h
    refine cO ?_;exact AQ h
   refine cO ?_;exact AQ h
  refine cO ?_;exact AQ h
 rintro v1 h;exact fin h
theorem NS {a0:JAC}{r:Bool}(h:E4 a0=some r):yC wl 51 [AV.d (JAC.toD a0)] [] (.d (D.b r)) []:=by
 refine oK Tryz.f51 ⟨rfl,?_⟩;unfold E4 at h;refine AK h (fun _=>Pj) fun _ h=>?_;exact fin h
theorem MK {r:JAD}(h:Fg=some r):yC wl 60 [] [] (.d (JAD.toD r)) []:=by
 refine oK Tryz.f60 ⟨rfl,?_⟩;unfold Fg at h;exact fin h
theorem PV {a0:JAD}{r:Bool}(h:GT a0=some r):yC wl 103 [AV.d (JAD.toD a0)] [] (.d (D.b r)) []:=by
 refine oKx 2 Tryz.f103 ⟨rfl,?_⟩;unfold GT at h;refine AN h (fun _=>⟨X::yr 1 0::X::X::AV.d (D.agg [D.i (-1),D.nil 2,D.b false,D.u64 (0:UInt64),D.u64 (0:UInt64),D.i (-1),D.i (-1),D.i (-1),D.nil 2,D.nil 3,D.nil 3])::dd 51 ([]),N::yB (JAD.av a0)::nn 56 ([])⟩) ?_ ?_
 ·intro _ h;(conv=>whnf);refine inl Tryz.f60 56 (by kernel_rfl) (by kernel_rfl) ⟨rfl,?_⟩;exact AQ h
 rintro _ h;refine AN h (fun v2=>⟨X::X::yb v2::dd 53 ([]),nn 58 ([])⟩) ?_ ?_
 ·intro _ h;refine Aj h fun h=>?_;refine Aj h fun h=>?_;refine Aj h fun h=>?_;refine Aj h fun h=>?_;refine Aj h fun h=>?_;refine⟨a0.Path.length,X10 _,?_⟩;refine⟨a0.Communities.length,X10 _,?_⟩;refine⟨_,rfl,?_⟩;refine⟨a0.JAF.length,X10 _,?_⟩;refine⟨_,rfl,?_⟩;refine⟨a0.Other.length,X10 _,?_⟩;refine⟨_,rfl,?_⟩;exact AQ h
 rintro v2 h;exact fin h
theorem Of {a0:JAC}{a1:JAG}{r:Bool×JAG}(h:Eg a0 a1=some r):yC wl 104 [AV.d (JAC.toD a0),.ref 0 0] [.box (JAG.av a1)] (.d (D.b r.1)) [.box (JAG.av r.2)]:=by
 refine oK Tryz.f104 ⟨rfl,?_⟩;unfold Eg at h;exact fin h
theorem DJ {a0:List JAC}{a1c0:JAG}{r:Int×JAG}(h:Ap a0 a1c0=some r):yC wl 102 [AV.d (D.l 4 JAC.toD a0),AV.fn 104 [.ref 0 0]] [.box (JAG.av a1c0)] (.d (D.i r.1)) [.box (JAG.av r.2)]:=by
 refine oK Tryz.f102 ⟨rfl,?_⟩;unfold Ap at h;refine⟨a0.length,X10 _,?_⟩;refine AN h (fun v1=>⟨dd 19 ([]),yB (JAG.av v1)::nn 19 ([])⟩) ?_ ?_
 ·intro _ h;revert h;refine Ah 6 4 JAC.toD rfl (fun i3 v4=>⟨y5 a0::AV.fn 104 [yr 0 0]::dd 4 (y5 a0::yi (a0.length:Int)::yi (i3:Int)::dd 10 ([])),yB (JAG.av v4)::nn 19 ([])⟩) ?_ ?_ ?_
  ·exact wk
  ·rintro v4 K5 h;refine goC ?_;refine BK C5 ?_;exact AQ h
  rintro _ i3 x7 v4 K5 b3 c3 e3 h p8;refine goC ?_;refine BJ (C0 b3) ?_;refine goC ?_;refine⟨BI (f:=JAC.toD) b3,JAC.toD x7,c3,rfl,?_⟩;refine AK h (fun _=>Of) ?_;rintro⟨_,_⟩ h;refine goC ?_;refine Ad h ?_ ?_<;>intro h
  ·exact fin h
  refine⟨_,e3,?_⟩;exact p8 _ _ wk h
 rintro v1 h;exact fin h
theorem CZ {a0:List JAC}{a1c0:JAG}{r:Bool×JAG}(h:Ae a0 a1c0=some r):yC wl 53 [AV.d (D.l 4 JAC.toD a0),AV.fn 104 [.ref 0 0]] [.box (JAG.av a1c0)] (.d (D.b r.1)) [.box (JAG.av r.2)]:=by
 refine oK Tryz.f53 ⟨rfl,?_⟩;unfold Ae at h;refine AK h (fun _=>DJ) ?_;rintro⟨_,_⟩ h;exact fin h
theorem Rh {a0:JAG}{r:Bool}(h:G9 a0=some r):yC wl 54 [AV.d (JAG.toD a0)] [] (.d (D.b r)) []:=by
 refine oK Tryz.f54 ⟨rfl,?_⟩;unfold G9 at h;refine⟨a0.Announce.length,X10 _,?_⟩;refine goC ?_;refine Ad h ?_ ?_<;>intro h
 ·refine AK h (fun _=>PV) fun _ h=>?_;exact fin h
 refine AN h (fun v3=>⟨X::X::yb v3::dd 32 ([]),nn 35 ([])⟩) ?_ ?_
 ·intro _ h;refine AK h (fun _=>Hm) fun _ h=>?_;refine Aj h fun h=>?_;refine Aj h fun h=>?_;refine Aj h fun h=>?_;refine AK h (fun _=>CZ) ?_;rintro⟨_,_⟩ h;exact AQ h
 rintro v3 h;exact fin h
theorem C6 {a0:List JAC}{r:Int}(h:A4 a0=some r):yC wl 102 [AV.d (D.l 4 JAC.toD a0),AV.fn 51 []] [] (.d (D.i r)) []:=by
 refine oK Tryz.f102 ⟨rfl,?_⟩;unfold A4 at h;refine⟨a0.length,X10 _,?_⟩;refine AN h (fun _=>⟨dd 19 ([]),nn 19 ([])⟩) ?_ ?_
 ·intro _ h;revert h;refine Ah 6 4 JAC.toD rfl (fun i2 _=>⟨y5 a0::AV.fn 51 []::dd 4 (y5 a0::yi (a0.length:Int)::yi (i2:Int)::dd 10 ([])),nn 19 ([])⟩) ?_ ?_ ?_
  ·exact wk
  ·rintro _ K3 h;refine goC ?_;refine BK C5 ?_;exact AQ h
  rintro _ i2 x5 _ K3 b2 c2 e2 h p6;refine goC ?_;refine BJ (C0 b2) ?_;refine goC ?_;refine⟨BI (f:=JAC.toD) b2,JAC.toD x5,c2,rfl,?_⟩;refine AK h (fun _=>NS) fun _ h=>?_;refine goC ?_;refine Ad h ?_ ?_<;>intro h
  ·exact fin h
  refine⟨_,e2,?_⟩;exact p6 _ _ wk h
 rintro _ h;exact fin h
theorem BF {a0:List JAC}{r:Bool}(h:Ac a0=some r):yC wl 53 [AV.d (D.l 4 JAC.toD a0),AV.fn 51 []] [] (.d (D.b r)) []:=by
 refine oK Tryz.f53 ⟨rfl,?_⟩;unfold Ac at h;refine AK h (fun _=>C6) fun _ h=>?_;exact fin h
theorem Jh {a0:JAG}{r:Bool}(h:FM a0=some r):yC wl 20 [AV.d (JAG.toD a0)] [] (.d (D.b r)) []:=by
 refine oK Tryz.f20 ⟨rfl,?_⟩;unfold FM at h;refine AN h (fun v1=>⟨X::yr 1 0::dd 30 (yb v1::dd 6 ([])),N::yB (JAG.av a0)::nn 37 ([])⟩) ?_ ?_
 ·intro _ h;refine⟨a0.Withdraw.length,X10 _,?_⟩;refine Br h fun h=>?_;refine⟨a0.Announce.length,X10 _,?_⟩;refine Br h fun h=>?_;refine AK h (fun _=>BF) fun _ h=>?_;refine Br h fun h=>?_;refine AK h (fun _=>BF) fun _ h=>?_;refine Br h fun h=>?_;refine AK h (fun _=>Rh) fun _ h=>?_;exact AQ h
 rintro v1 h;refine goC ?_;refine Ad h ?_ ?_<;>intro h
 ·exact fin h
 refine AK h (fun _=>J8) ?_;rintro⟨_,_⟩ h;exact fin h
theorem Nz {a0:JAG}{r:(List UInt8)×Int}(h:IZ a0=some r):yC wl 18 [AV.d (JAG.toD a0)] [] (.tup [.d (D.l 1 D.u8 r.1),.d (D.i r.2)]) []:=by
 refine oK Tryz.f18 ⟨rfl,?_⟩;unfold IZ at h;refine AK h (fun _=>Jh) fun _ h=>?_;refine goC ?_;refine Ad h ?_ ?_<;>intro h
 ·exact fin h
 refine AK h (fun _=>J8) ?_;rintro⟨_,_⟩ h;exact fin h
theorem LO {a0:List JAA}{r:(List JAA)}(h:Dh a0=some r):yC wl 113 [AV.d (D.l 3 JAA.toD a0)] [] (.d (D.l 3 JAA.toD r)) []:=by
 refine oK Tryz.f113 ⟨rfl,?_⟩;unfold Dh at h;refine⟨a0.length,X10 _,?_⟩;refine AN h (fun v1=>⟨dd 4 (yO 4 JAA.toD v1::dd 23 ([])),nn 4 (yR 88 3 JAA.toD v1::nn 23 ([]))⟩) ?_ ?_
 ·intro _ h;revert h;refine Ah 8 3 JAA.toD rfl (fun i3 (v4,v5)=>⟨X::X::X::AV.mp 7::yO 4 JAA.toD v5::X::X::X::y4 a0::yi (a0.length:Int)::yi (i3:Int)::dd 17 ([]),nn 4 (yR 88 3 JAA.toD v5::N::N::some (OB.map 3 4 (Bw D.i D.b v4))::nn 20 ([]))⟩) ?_ ?_ ?_
  ·exact wk
  ·rintro⟨v4,v5⟩ K6 h;refine goC ?_;refine BK C5 ?_;exact AQ h
  rintro _ i3 x8 ⟨v4,v5⟩ K6 b3 c3 e3 h p9;refine goC ?_;refine BJ (C0 b3) ?_;refine goC ?_;refine⟨BI (f:=JAA.toD) b3,JAA.toD x8,c3,rfl,?_⟩;obtain⟨v10,g11,h⟩:=AD h;refine⟨_,Bd (ek:=D.i) (ev:=D.b) (l:=v4) (k:=x8.Type_) BP,D.b v10,Dz (z:=false) rfl g11,_,rfl,?_⟩;refine AN h (fun v12=>⟨X::X::X::AV.mp 7::yO 4 JAA.toD v12::X::yr 6 0::X::y4 a0::yi (a0.length:Int)::yi (i3:Int)::dd 17 ([]),nn 4 (yR 88 3 JAA.toD v12::N::yB (JAA.av x8)::some (OB.map 3 4 (Bw D.i D.b v4))::nn 20 ([]))⟩) ?_ ?_
  ·intro _ h;refine Aj h fun h=>?_;refine⟨rfl,?_⟩;refine apO h rfl fun _ h=>?_;exact AQ h
  rintro v12 h;refine⟨_,Ed (ek:=D.i) (ev:=D.b) (l:=v4) (k:=x8.Type_) (v:=true) BP,?_⟩;refine⟨_,e3,?_⟩;exact p9 _ _ wk h
 rintro v1 h;(conv=>whnf);refine .inl ?_;(conv=>whnf);refine .inl ?_;refine⟨rfl,?_⟩;exact fin h
theorem LQ {a0:JAA}{r:Bool}(h:Dc a0=some r):yC wl 115 [AV.d (JAA.toD a0)] [] (.d (D.b r)) []:=by
 refine oK Tryz.f115 ⟨rfl,?_⟩;unfold Dc at h;refine AN h (fun v1=>⟨X::X::yb v1::dd 9 ([]),nn 12 ([])⟩) ?_ ?_
 ·intro _ h;refine AK h (fun _=>Eu) fun _ h=>?_;refine Aj h fun h=>?_;refine⟨_,rfl,?_⟩;exact AQ h
 rintro v1 h;exact fin h
theorem Bm {a0:JAA}{r:Bool}(h:BH a0=some r):yC wl 148 [AV.d (JAA.toD a0)] [] (.d (D.b r)) []:=by
 refine oK Tryz.f148 ⟨rfl,?_⟩;unfold BH at h;refine AN h (fun v1=>⟨X::X::yb v1::dd 22 ([]),nn 25 ([])⟩) ?_ ?_
 ·intro _ h;obtain⟨v3,g4,h⟩:=AD h;refine⟨_,Bd (ek:=D.i) (ev:=D.i) (l:=Bz) (k:=a0.Type_) BP,D.i v3,Dz (z:=0) rfl g4,_,rfl,?_⟩;refine⟨_,rfl,?_⟩;refine⟨_,rfl,?_⟩;refine Aj h fun h=>?_;obtain⟨v5,g6,h⟩:=AD h;refine⟨_,Bd (ek:=D.i) (ev:=D.i) (l:=Bz) (k:=a0.Type_) BP,D.i v5,Dz (z:=0) rfl g6,_,rfl,?_⟩;refine Br h fun h=>?_;refine⟨_,rfl,?_⟩;exact AQ h
 rintro v1 h;exact fin h
theorem Cf {a0:List UInt8}{r:Int}(h:B9 a0=some r):yC wl 143 [AV.d (D.l 1 D.u8 a0)] [] (.d (D.i r)) []:=by
 refine oK Tryz.f143 ⟨rfl,?_⟩;unfold B9 at h;refine⟨a0.length,X10 _,?_⟩;refine AN h (fun v1=>⟨X::X::X::yi v1::dd 15 ([]),nn 19 ([])⟩) ?_ ?_
 ·intro _ h;revert h;refine Ah 6 1 D.u8 rfl (fun i3 v4=>⟨X::X::X::yi v4::X::X::y3 a0::yi (a0.length:Int)::yi (i3:Int)::dd 10 ([]),nn 19 ([])⟩) ?_ ?_ ?_
  ·exact wk
  ·rintro v4 K5 h;refine goC ?_;refine BK C5 ?_;exact AQ h
  rintro _ i3 x7 v4 K5 b3 c3 e3 h p8;refine goC ?_;refine BJ (C0 b3) ?_;refine goC ?_;refine⟨BI (f:=D.u8) b3,D.u8 x7,c3,rfl,?_⟩;refine⟨by decide,_,rfl,?_⟩;refine⟨_,EK x7,?_⟩;refine⟨_,rfl,?_⟩;refine⟨_,e3,?_⟩;exact p8 _ _ wk h
 rintro v1 h;exact fin h
theorem E2 {a0:List UInt8}{r:(List Int)}(h:CQ a0=some r):yC wl 217 [AV.d (D.l 1 D.u8 a0)] [] (AV.own 0 (List.map D.i r).length) [.row 3 1 (List.map D.i r) .no]:=by
 refine oK Tryz.f217 ⟨rfl,?_⟩;unfold CQ at h;refine AN h (fun v1=>⟨X::X::X::yO 3 D.i v1::dd 12 ([]),N::N::N::yR 3 1 D.i v1::nn 12 ([])⟩) ?_ ?_
 ·intro _ h;revert h;refine Aw (fun (v3,v4)=>⟨y3 v3::X::X::yO 3 D.i v4::dd 12 ([]),N::N::N::yR 3 1 D.i v4::nn 12 ([])⟩) ?_ ?_
  ·exact wk
  rintro _ ⟨v3,v4⟩ _ h p7;refine⟨v3.length,X10 _,?_⟩;refine goC ?_;refine Aj h fun h=>?_;refine goC ?_;(conv=>whnf);refine MQ (f:=D.u8) h fun _ h=>?_;refine AK h (fun _=>Cf) fun _ h=>?_;refine⟨rfl,?_⟩;refine apO h rfl fun _ h=>?_;(conv=>whnf);refine PY (f:=D.u8) h fun _ h=>?_;exact p7 _ _ wk h
 rintro v1 h;(conv=>whnf);refine .inl ?_;(conv=>whnf);refine .inr ?_;exact fin h
theorem IA {a0:List Int}{r:(List Int)}(h:Bo a0=some r):yC wl 219 [AV.own 0 (List.map D.i a0).length] [.row 3 1 (List.map D.i a0) .no] (AV.own 1 (List.map D.i r).length) [.gone,.row 3 1 (List.map D.i r) .no]:=by
 refine oK Tryz.f219 ⟨rfl,?_⟩;unfold Bo at h;refine⟨a0.length,DK,?_⟩;refine goC ?_;refine Ad h ?_ ?_<;>intro h
 ·(conv=>whnf);refine .inr ?_;exact fin h
 refine AN h (fun _=>⟨yO 0 D.i a0::dd 60 ([]),yR 3 1 D.i a0::nn 61 ([])⟩) ?_ ?_
 ·intro _ h;revert h;refine Aw (fun v2=>⟨yO 0 D.i a0::X::X::yi v2::dd 57 ([]),yR 3 1 D.i a0::nn 61 ([])⟩) ?_ ?_
  ·exact wk
  rintro _ v2 _ h p5;refine⟨a0.length,DK,?_⟩;refine goC ?_;refine Aj h fun h=>?_;refine AN h (fun _=>⟨yO 0 D.i a0::X::X::yi v2::dd 57 ([]),yR 3 1 D.i a0::nn 61 ([])⟩) ?_ ?_
  ·intro _ h;refine .inl (dO ?_);obtain⟨v7,g8,h⟩:=AD h;refine⟨rfl,BN (f:=D.i) g8,?_⟩;refine⟨rfl,D.i v7,(BS (f:=D.i) g8),?_⟩;refine⟨_,rfl,?_⟩;obtain⟨v9,g10,h⟩:=AD h;refine⟨rfl,BN (f:=D.i) g10,?_⟩;refine⟨rfl,D.i v9,(BS (f:=D.i) g10),?_⟩;refine cO ?_;refine goC ?_;refine Aj h fun h=>?_;(conv=>whnf);refine .inr (.inl ?_);obtain⟨_,g11,h⟩:=AD h;have g56c:=Ei g11;refine⟨Iz (f:=D.i) g11,rfl,(Int.toNat v2),(Int.toNat (a0.length:Int)-Int.toNat v2),rfl,(by rw[X10]),?_⟩;refine AN h (fun (v12,v13)=>⟨yO 0 D.i v13::X::X::yi v12::dd 57 ([]),yR 3 1 D.i v13::nn 61 ([])⟩) ?_ ?_
   ·intro _ h;revert h;refine Aw (fun (v15,v16,v17)=>⟨yO 0 D.i v17::X::X::yi v15::AV.osl 0 (Int.toNat v2) (Int.toNat (a0.length:Int)-Int.toNat v2) (List.map D.i v17).length::yi v16::dd 55 ([]),yR 3 1 D.i v17::nn 61 ([])⟩) ?_ ?_
    ·exact wk
    rintro _ ⟨v15,v16,v17⟩ _ h p20;refine⟨(Int.toNat (a0.length:Int)-Int.toNat v2),rfl,?_⟩;refine goC ?_;refine Aj h fun h=>?_;refine goC ?_;refine .inl (dO ?_);obtain⟨v21,g22,h⟩:=AD h;refine⟨DK,I4 g22,_,rfl,?_⟩;refine⟨rfl,D.i v21,(Jb (f:=D.i) g22),?_⟩;refine⟨_,rfl,?_⟩;obtain⟨v23,g24,h⟩:=AD h;refine⟨DK,I4 g24,_,rfl,?_⟩;refine⟨rfl,D.i v23,(Jb (f:=D.i) g24),?_⟩;refine cO ?_;refine AN h (fun (v25,v26)=>⟨yO 0 D.i v26::X::X::yi v25::AV.osl 0 (Int.toNat v2) (Int.toNat (a0.length:Int)-Int.toNat v2) (List.map D.i v26).length::yi v16::dd 55 ([]),yR 3 1 D.i v26::nn 61 ([])⟩) ?_ ?_
    ·intro _ h;refine Aj h fun h=>?_;obtain⟨v28,g29,h⟩:=AD h;refine⟨DK,I4 g29,_,rfl,?_⟩;refine⟨rfl,D.i v28,(Jb (f:=D.i) g29),?_⟩;obtain⟨v30,g31,h⟩:=AD h;refine⟨rfl,BN (f:=D.i) g31,?_⟩;obtain⟨v32,g33,h⟩:=AD h;have g33l:=Hr g33;refine⟨rfl,rfl,D.i v30,(BS (f:=D.i) g31),?_⟩;refine⟨_,L9 (f:=D.i) g33,?_⟩;refine⟨_,rfl,?_⟩;exact AQ h
    rintro⟨v25,v26⟩ h;refine⟨_,rfl,?_⟩;exact p20 _ _ wk h
   rintro⟨v12,v13⟩ h;(conv=>whnf);refine .inr (.inl ?_);obtain⟨_,g34,h⟩:=AD h;have g96c:=Ei g34;refine⟨Iz (f:=D.i) g34,rfl,(Int.toNat v12),(Int.toNat (v13.length:Int)-Int.toNat v12),rfl,(by rw[X10]),?_⟩;refine⟨DK,D.i 0,rfl,List.map D.i (List.take (Int.toNat v12) v13++List.replicate (Int.toNat (v13.length:Int)-Int.toNat v12) 0++List.drop ((Int.toNat v12)+(Int.toNat (v13.length:Int)-Int.toNat v12)) v13),UH,?_⟩;(conv=>whnf);refine .inr (.inr ?_);obtain⟨v35,g36,h⟩:=AD h;refine⟨QR (f:=D.i) g36,DK,_,Lm (f:=D.i) g36,?_⟩;(conv=>whnf);refine .inl ?_;(conv=>whnf);refine .inr ?_;exact fin h
  rintro _ h;refine⟨_,rfl,?_⟩;exact p5 _ _ wk h
 rintro _ h;(conv=>whnf);refine .inr ?_;exact fin h
theorem GK {a0:List UInt8}{r:Addr×Int}(h:A5 a0=some r):yC wl 145 [AV.d (D.l 1 D.u8 a0)] [] (.tup [.d (Addr.toD r.1),.d (D.i r.2)]) []:=by
 refine oK Tryz.f145 ⟨rfl,?_⟩;unfold A5 at h;refine AN h (fun v1=>⟨y3 a0::X::yr 2 0::dd 11 (yb v1::dd 28 ([])),N::N::yB Addr.zv::nn 40 ([])⟩) ?_ ?_
 ·intro _ h;refine⟨a0.length,X10 _,?_⟩;refine Aj h fun h=>?_;refine⟨a0.length,X10 _,?_⟩;exact AQ h
 rintro v1 h;refine goC ?_;refine Ad h ?_ ?_<;>intro h
 ·exact fin h
 refine⟨a0.length,X10 _,?_⟩;refine⟨a0.length,X10 _,?_⟩;refine AN h (fun v3=>⟨X::X::yr 2 0::X::yr 4 0::dd 38 ([]),bW v3⟩) ?_ ?_
 ·intro _ h;revert h;refine Ah 20 1 D.u8 rfl (fun i5 v6=>⟨X::X::yr 2 0::X::yr 4 0::dd 15 (y3 a0::yi (a0.length:Int)::yi (i5:Int)::dd 20 ([])),bW v6⟩) ?_ ?_ ?_
  ·exact wk
  ·rintro v6 K7 h;refine goC ?_;refine BK C5 ?_;exact AQ h
  rintro _ i5 x9 v6 K7 b5 c5 e5 h p10;refine goC ?_;refine BJ (C0 b5) ?_;refine goC ?_;refine⟨BI (f:=D.u8) b5,D.u8 x9,c5,rfl,?_⟩;refine⟨by decide,_,Av _,?_⟩;refine⟨by decide,_,NU v6.Lo _,?_⟩;refine⟨_,Av _,?_⟩;refine⟨by decide,_,Av _,?_⟩;refine⟨_,Av _,?_⟩;refine⟨_,Av _,?_⟩;refine⟨_,e5,?_⟩;exact p10 _ _ wk h
 rintro v3 h;exact fin h
theorem EE {a0:List JAB}{r:(List JAB)}(h:Au a0=some r):yC wl 226 [AV.own 0 (List.map JAB.toD a0).length] [.row 137 2 (List.map JAB.toD a0) .no] (AV.own 1 (List.map JAB.toD r).length) [.gone,.row 137 2 (List.map JAB.toD r) .no]:=by
 refine oK Tryz.f226 ⟨rfl,?_⟩;unfold Au at h;refine⟨a0.length,DK,?_⟩;refine goC ?_;refine Ad h ?_ ?_<;>intro h
 ·(conv=>whnf);refine .inr ?_;exact fin h
 refine AN h (fun _=>⟨yO 0 JAB.toD a0::dd 60 ([]),Yk a0⟩) ?_ ?_
 ·intro _ h;revert h;refine Aw (fun v2=>⟨yO 0 JAB.toD a0::X::X::yi v2::dd 57 ([]),Yk a0⟩) ?_ ?_
  ·exact wk
  rintro _ v2 _ h p5;refine⟨a0.length,DK,?_⟩;refine goC ?_;refine Aj h fun h=>?_;refine AN h (fun _=>⟨yO 0 JAB.toD a0::X::X::yi v2::dd 57 ([]),Yk a0⟩) ?_ ?_
  ·intro _ h;refine .inl (dO ?_);obtain⟨v7,g8,h⟩:=AD h;refine⟨rfl,BN (f:=JAB.toD) g8,?_⟩;refine⟨rfl,JAB.toD v7,(BS (f:=JAB.toD) g8),?_⟩;refine⟨_,rfl,?_⟩;obtain⟨v9,g10,h⟩:=AD h;refine⟨rfl,BN (f:=JAB.toD) g10,?_⟩;refine⟨rfl,JAB.toD v9,(BS (f:=JAB.toD) g10),?_⟩;refine cO ?_;refine goC ?_;refine Aj h fun h=>?_;(conv=>whnf);refine .inr (.inl ?_);obtain⟨_,g11,h⟩:=AD h;have g56c:=Ei g11;refine⟨Iz (f:=JAB.toD) g11,rfl,(Int.toNat v2),(Int.toNat (a0.length:Int)-Int.toNat v2),rfl,(by rw[X10]),?_⟩;refine AN h (fun (v12,v13)=>⟨yO 0 JAB.toD v13::X::X::yi v12::dd 57 ([]),Yk v13⟩) ?_ ?_
   ·intro _ h;revert h;refine Aw (fun (v15,v16,v17)=>⟨yO 0 JAB.toD v17::X::X::yi v15::AV.osl 0 (Int.toNat v2) (Int.toNat (a0.length:Int)-Int.toNat v2) (List.map JAB.toD v17).length::yi v16::dd 55 ([]),Yk v17⟩) ?_ ?_
    ·exact wk
    rintro _ ⟨v15,v16,v17⟩ _ h p20;refine⟨(Int.toNat (a0.length:Int)-Int.toNat v2),rfl,?_⟩;refine goC ?_;refine Aj h fun h=>?_;refine goC ?_;refine .inl (dO ?_);obtain⟨v21,g22,h⟩:=AD h;refine⟨DK,I4 g22,_,rfl,?_⟩;refine⟨rfl,JAB.toD v21,(Jb (f:=JAB.toD) g22),?_⟩;refine⟨_,rfl,?_⟩;obtain⟨v23,g24,h⟩:=AD h;refine⟨DK,I4 g24,_,rfl,?_⟩;refine⟨rfl,JAB.toD v23,(Jb (f:=JAB.toD) g24),?_⟩;refine cO ?_;refine AN h (fun (v25,v26)=>⟨yO 0 JAB.toD v26::X::X::yi v25::AV.osl 0 (Int.toNat v2) (Int.toNat (a0.length:Int)-Int.toNat v2) (List.map JAB.toD v26).length::yi v16::dd 55 ([]),Yk v26⟩) ?_ ?_
    ·intro _ h;refine Aj h fun h=>?_;obtain⟨v28,g29,h⟩:=AD h;refine⟨DK,I4 g29,_,rfl,?_⟩;refine⟨rfl,JAB.toD v28,(Jb (f:=JAB.toD) g29),?_⟩;obtain⟨v30,g31,h⟩:=AD h;refine⟨rfl,BN (f:=JAB.toD) g31,?_⟩;obtain⟨v32,g33,h⟩:=AD h;have g33l:=Hr g33;refine⟨rfl,rfl,JAB.toD v30,(BS (f:=JAB.toD) g31),?_⟩;refine⟨_,L9 (f:=JAB.toD) g33,?_⟩;refine⟨_,rfl,?_⟩;exact AQ h
    rintro⟨v25,v26⟩ h;refine⟨_,rfl,?_⟩;exact p20 _ _ wk h
   rintro⟨v12,v13⟩ h;(conv=>whnf);refine .inr (.inl ?_);obtain⟨_,g34,h⟩:=AD h;have g96c:=Ei g34;refine⟨Iz (f:=JAB.toD) g34,rfl,(Int.toNat v12),(Int.toNat (v13.length:Int)-Int.toNat v12),rfl,(by rw[X10]),?_⟩;refine⟨DK,JAB.toD (⟨0,0⟩:JAB),rfl,List.map JAB.toD (List.take (Int.toNat v12) v13++List.replicate (Int.toNat (v13.length:Int)-Int.toNat v12) (⟨0,0⟩:JAB)++List.drop ((Int.toNat v12)+(Int.toNat (v13.length:Int)-Int.toNat v12)) v13),UH,?_⟩;(conv=>whnf);refine .inr (.inr ?_);obtain⟨v35,g36,h⟩:=AD h;refine⟨QR (f:=JAB.toD) g36,DK,_,Lm (f:=JAB.toD) g36,?_⟩;(conv=>whnf);refine .inl ?_;(conv=>whnf);refine .inr ?_;exact fin h
  rintro _ h;refine⟨_,rfl,?_⟩;exact p5 _ _ wk h
 rintro _ h;(conv=>whnf);refine .inr ?_;exact fin h
theorem Gt {a0:JAB}{a1:JAB}{r:Int}(h:BY a0 a1=some r):yC wl 221 [AV.d (JAB.toD a0),AV.d (JAB.toD a1)] [] (.d (D.i r)) []:=by
 refine oK Tryz.f221 ⟨rfl,?_⟩;unfold BY at h;refine .inl (dO ?_);refine A2 h (fun _=>A0) (fun _=>rfl) fun _ h=>?_;refine A2 h (fun _=>A0) (fun _=>rfl) fun _ h=>?_;refine⟨rfl,?_⟩;refine A2 h (fun _=>G0) (fun _=>rfl) fun _ h=>?_;refine cO ?_;exact fin h
theorem FQ {a0:List JAF}{r:(List JAF)}(h:BB a0=some r):yC wl 228 [AV.own 0 (List.map JAF.toD a0).length] [.row 141 3 (List.map JAF.toD a0) .no] (AV.own 1 (List.map JAF.toD r).length) [.gone,.row 141 3 (List.map JAF.toD r) .no]:=by
 refine oK Tryz.f228 ⟨rfl,?_⟩;unfold BB at h;refine⟨a0.length,DK,?_⟩;refine goC ?_;refine Ad h ?_ ?_<;>intro h
 ·(conv=>whnf);refine .inr ?_;exact fin h
 refine AN h (fun _=>⟨yO 0 JAF.toD a0::dd 60 ([]),Yz a0⟩) ?_ ?_
 ·intro _ h;revert h;refine Aw (fun v2=>⟨yO 0 JAF.toD a0::X::X::yi v2::dd 57 ([]),Yz a0⟩) ?_ ?_
  ·exact wk
  rintro _ v2 _ h p5;refine⟨a0.length,DK,?_⟩;refine goC ?_;refine Aj h fun h=>?_;refine AN h (fun _=>⟨yO 0 JAF.toD a0::X::X::yi v2::dd 57 ([]),Yz a0⟩) ?_ ?_
  ·intro _ h;refine .inl (dO ?_);obtain⟨v7,g8,h⟩:=AD h;refine⟨rfl,BN (f:=JAF.toD) g8,?_⟩;refine⟨rfl,JAF.toD v7,(BS (f:=JAF.toD) g8),?_⟩;refine⟨_,rfl,?_⟩;obtain⟨v9,g10,h⟩:=AD h;refine⟨rfl,BN (f:=JAF.toD) g10,?_⟩;refine⟨rfl,JAF.toD v9,(BS (f:=JAF.toD) g10),?_⟩;refine cO ?_;refine goC ?_;refine Aj h fun h=>?_;(conv=>whnf);refine .inr (.inl ?_);obtain⟨_,g11,h⟩:=AD h;have g56c:=Ei g11;refine⟨Iz (f:=JAF.toD) g11,rfl,(Int.toNat v2),(Int.toNat (a0.length:Int)-Int.toNat v2),rfl,(by rw[X10]),?_⟩;refine AN h (fun (v12,v13)=>⟨yO 0 JAF.toD v13::X::X::yi v12::dd 57 ([]),Yz v13⟩) ?_ ?_
   ·intro _ h;revert h;refine Aw (fun (v15,v16,v17)=>⟨yO 0 JAF.toD v17::X::X::yi v15::AV.osl 0 (Int.toNat v2) (Int.toNat (a0.length:Int)-Int.toNat v2) (List.map JAF.toD v17).length::yi v16::dd 55 ([]),Yz v17⟩) ?_ ?_
    ·exact wk
    rintro _ ⟨v15,v16,v17⟩ _ h p20;refine⟨(Int.toNat (a0.length:Int)-Int.toNat v2),rfl,?_⟩;refine goC ?_;refine Aj h fun h=>?_;refine goC ?_;refine .inl (dO ?_);obtain⟨v21,g22,h⟩:=AD h;refine⟨DK,I4 g22,_,rfl,?_⟩;refine⟨rfl,JAF.toD v21,(Jb (f:=JAF.toD) g22),?_⟩;refine⟨_,rfl,?_⟩;obtain⟨v23,g24,h⟩:=AD h;refine⟨DK,I4 g24,_,rfl,?_⟩;refine⟨rfl,JAF.toD v23,(Jb (f:=JAF.toD) g24),?_⟩;refine cO ?_;refine AN h (fun (v25,v26)=>⟨yO 0 JAF.toD v26::X::X::yi v25::AV.osl 0 (Int.toNat v2) (Int.toNat (a0.length:Int)-Int.toNat v2) (List.map JAF.toD v26).length::yi v16::dd 55 ([]),Yz v26⟩) ?_ ?_
    ·intro _ h;refine Aj h fun h=>?_;obtain⟨v28,g29,h⟩:=AD h;refine⟨DK,I4 g29,_,rfl,?_⟩;refine⟨rfl,JAF.toD v28,(Jb (f:=JAF.toD) g29),?_⟩;obtain⟨v30,g31,h⟩:=AD h;refine⟨rfl,BN (f:=JAF.toD) g31,?_⟩;obtain⟨v32,g33,h⟩:=AD h;have g33l:=Hr g33;refine⟨rfl,rfl,JAF.toD v30,(BS (f:=JAF.toD) g31),?_⟩;refine⟨_,L9 (f:=JAF.toD) g33,?_⟩;refine⟨_,rfl,?_⟩;exact AQ h
    rintro⟨v25,v26⟩ h;refine⟨_,rfl,?_⟩;exact p20 _ _ wk h
   rintro⟨v12,v13⟩ h;(conv=>whnf);refine .inr (.inl ?_);obtain⟨_,g34,h⟩:=AD h;have g96c:=Ei g34;refine⟨Iz (f:=JAF.toD) g34,rfl,(Int.toNat v12),(Int.toNat (v13.length:Int)-Int.toNat v12),rfl,(by rw[X10]),?_⟩;refine⟨DK,JAF.toD (⟨0,0,0⟩:JAF),rfl,List.map JAF.toD (List.take (Int.toNat v12) v13++List.replicate (Int.toNat (v13.length:Int)-Int.toNat v12) (⟨0,0,0⟩:JAF)++List.drop ((Int.toNat v12)+(Int.toNat (v13.length:Int)-Int.toNat v12)) v13),UH,?_⟩;(conv=>whnf);refine .inr (.inr ?_);obtain⟨v35,g36,h⟩:=AD h;refine⟨QR (f:=JAF.toD) g36,DK,_,Lm (f:=JAF.toD) g36,?_⟩;(conv=>whnf);refine .inl ?_;(conv=>whnf);refine .inr ?_;exact fin h
  rintro _ h;refine⟨_,rfl,?_⟩;exact p5 _ _ wk h
 rintro _ h;(conv=>whnf);refine .inr ?_;exact fin h
theorem IV {a0:JAF}{a1:JAF}{r:Int}(h:Cc a0 a1=some r):yC wl 223 [AV.d (JAF.toD a0),AV.d (JAF.toD a1)] [] (.d (D.i r)) []:=by
 refine oK Tryz.f223 ⟨rfl,?_⟩;unfold Cc at h;refine .inl (dO ?_);refine A2 h (fun _=>A0) (fun _=>rfl) fun _ h=>?_;refine A2 h (fun _=>A0) (fun _=>rfl) fun _ h=>?_;refine A2 h (fun _=>A0) (fun _=>rfl) fun _ h=>?_;refine⟨rfl,?_⟩;refine A2 h (fun _=>G0) (fun _=>rfl) fun _ h=>?_;refine cO ?_;exact fin h
theorem LP {a0:JAA}{a1:JAA}{r:Int}(h:Dj a0 a1=some r):yC wl 121 [AV.d (JAA.toD a0),AV.d (JAA.toD a1)] [] (.d (D.i r)) []:=by
 refine oK Tryz.f121 ⟨rfl,?_⟩;unfold Dj at h;refine AK h (fun _=>A0) fun _ h=>?_;exact fin h
theorem CX {a0:List JAA}{r:Int}(h:Az a0=some r):yC wl 147 [AV.d (D.l 3 JAA.toD a0),AV.fn 115 []] [] (.d (D.i r)) []:=by
 refine oK Tryz.f147 ⟨rfl,?_⟩;unfold Az at h;refine⟨a0.length,X10 _,?_⟩;refine AN h (fun _=>⟨dd 19 ([]),nn 19 ([])⟩) ?_ ?_
 ·intro _ h;revert h;refine Ah 6 3 JAA.toD rfl (fun i2 _=>⟨y4 a0::AV.fn 115 []::dd 4 (y4 a0::yi (a0.length:Int)::yi (i2:Int)::dd 10 ([])),nn 19 ([])⟩) ?_ ?_ ?_
  ·exact wk
  ·rintro _ K3 h;refine goC ?_;refine BK C5 ?_;exact AQ h
  rintro _ i2 x5 _ K3 b2 c2 e2 h p6;refine goC ?_;refine BJ (C0 b2) ?_;refine goC ?_;refine⟨BI (f:=JAA.toD) b2,JAA.toD x5,c2,rfl,?_⟩;refine AK h (fun _=>LQ) fun _ h=>?_;refine goC ?_;refine Ad h ?_ ?_<;>intro h
  ·exact fin h
  refine⟨_,e2,?_⟩;exact p6 _ _ wk h
 rintro _ h;exact fin h
theorem CP {a0:List JAA}{r:Bool}(h:Am a0=some r):yC wl 114 [AV.d (D.l 3 JAA.toD a0),AV.fn 115 []] [] (.d (D.b r)) []:=by
 refine oK Tryz.f114 ⟨rfl,?_⟩;unfold Am at h;refine AK h (fun _=>CX) fun _ h=>?_;exact fin h
theorem IE {a0:List JAA}{r:JAD×Int}(h:EL a0=some r):yC wl 61 [AV.d (D.l 3 JAA.toD a0)] [] (.tup [.d (JAD.toD r.1),.d (D.i r.2)]) []:=by
 refine oKx 166 Tryz.f61 ⟨rfl,?_⟩;unfold EL at h;refine AK h (fun _=>LO) fun v1 h=>?_;refine AK h (fun _=>CP) fun _ h=>?_;refine goC ?_;refine Ad h ?_ ?_<;>intro h
 ·exact fin h
 refine AN h (fun (v5,v6,v7,v8,v9,v10,v11,v12,v13,v14,v15)=>⟨y4 v1::X::yr 2 0::dd 12 (AV.tup [AV.agg [yi v5,yO 64 JAE.toD v13,yb v6,yu v7,yu v8,yi v9,yi v10,yi v11,yO 65 JAB.toD v14,yO 67 JAF.toD v15,AV.d (D.nil 3)],yb v12]::dd 52 ([])),N::N::yB JAD.zv::nn 61 (yR 132 2 JAE.toD v13::yR 137 2 JAB.toD v14::N::yR 141 3 JAF.toD v15::nn 166 ([]))⟩) ?_ ?_
 ·intro _ h;(conv=>whnf);refine inl Tryz.f117 68 (by kernel_rfl) (by kernel_rfl) ⟨rfl,?_⟩;refine AN h (fun _=>⟨y4 v1::X::yr 70 0::dd 6 (AV.d (D.agg [D.i (-1),D.nil 2,D.b false,D.u64 (0:UInt64),D.u64 (0:UInt64),D.i (-1),D.i (-1),D.i (-1),D.nil 2,D.nil 3,D.nil 3])::dd 29 ([])),N::N::yB JAD.zv::nn 67 (yB JAD.zv::nn 163 ([]))⟩) ?_ ?_
  ·intro _ h;(conv=>whnf);refine inl Tryz.f60 107 (by kernel_rfl) (by kernel_rfl) ⟨rfl,?_⟩;exact AQ h
  rintro _ h;refine⟨v1.length,X10 _,?_⟩;refine AN h (fun (v18,v19,v20,v21,v22,v23,v24,v25,v26,v27)=>⟨X::X::yr 70 0::X::yr 72 0::dd 34 ([]),zS6 v18 v19 v20 v21 v22 v23 v24 v25 v26 v27⟩) ?_ ?_
  ·intro _ h;revert h;refine Ah 10 3 JAA.toD rfl (fun i29 (v30,v31,v32,v33,v34,v35,v36,v37,v38,v39)=>⟨X::X::yr 70 0::X::yr 72 0::dd 5 (y4 v1::yi (v1.length:Int)::yi (i29:Int)::dd 26 ([])),zS6 v30 v31 v32 v33 v34 v35 v36 v37 v38 v39⟩) ?_ ?_ ?_
   ·exact wk
   ·rintro⟨v30,v31,v32,v33,v34,v35,v36,v37,v38,v39⟩ K40 h;refine goC ?_;refine BK C5 ?_;exact AQ h
   rintro _ i29 x42 ⟨v30,v31,v32,v33,v34,v35,v36,v37,v38,v39⟩ K40 b29 c29 e29 h p43;delta Ej at h;refine goC ?_;refine BJ (C0 b29) ?_;refine AN h (fun (v44,v45,v46,v47,v48,v49,v50,v51,v52,v53)=>⟨X::X::yr 70 0::X::yr 72 0::dd 5 (y4 v1::yi (v1.length:Int)::yi (i29:Int)::dd 26 ([])),zS6 v44 v45 v46 v47 v48 v49 v50 v51 v52 v53⟩) ?_ ?_
   ·intro _ h;refine⟨BI (f:=JAA.toD) b29,JAA.toD x42,c29,rfl,?_⟩;(conv=>whnf);by_cases g55:(x42.Type_==1)=true
    ·replace h:=O8 g55 h;refine⟨_,(G8 g55),_,rfl,_,rfl,?_⟩;refine AN h (fun (v56,v57)=>⟨VP (v1.length:Int) (i29:Int) v56 v1,zS6 v57 v31 v32 v33 v34 v35 v36 v37 v38 v39⟩) ?_ ?_
     ·intro _ h;refine AK h (fun _=>Bm) fun _ h=>?_;refine Br h fun h=>?_;refine AN h (fun (v61,v62)=>⟨zS9 (v1.length:Int) (i29:Int) true false v61 v1,zS6 v62 v31 v32 v33 v34 v35 v36 v37 v38 v39⟩) ?_ ?_
      ·intro _ h;(conv=>whnf);refine inl Tryz.f208 107 (by kernel_rfl) (by kernel_rfl) ⟨rfl,?_⟩;refine AK h (fun _=>Cf) fun v64 h=>?_;refine AN h (fun v66=>⟨dd 4 (yb v66::dd 15 ([])),zS8 v64 v31 v32 v33 v34 v35 v36 v37 v38 v39 x42⟩) ?_ ?_
       ·intro _ h;refine⟨x42.Data.length,X10 _,?_⟩;exact selC h
       rintro v66 h;exact AQ h
      rintro⟨v61,v62⟩ h;exact AQ h
     rintro⟨v56,v57⟩ h;refine goC ?_;refine Ad h ?_ ?_<;>intro h<;>exact AQ h
    replace h:=PQ g55 h;by_cases g68:(x42.Type_==2)=true
    ·replace h:=O8 g68 h;refine⟨_,(Ao g55 (G8 g68)),_,rfl,_,rfl,?_⟩;refine AN h (fun (v69,v70)=>⟨VP (v1.length:Int) (i29:Int) v69 v1,zS6 v30 v31 v32 v33 v34 v35 v36 v70 v38 v39⟩) ?_ ?_
     ·intro _ h;refine AK h (fun _=>Bm) fun _ h=>?_;refine Br h fun h=>?_;refine AN h (fun (v74,v75)=>⟨zS9 (v1.length:Int) (i29:Int) true false v74 v1,zS6 v30 v31 v32 v33 v34 v35 v36 v75 v38 v39⟩) ?_ ?_
      ·intro _ h;(conv=>whnf);refine inl Tryz.f209 107 (by kernel_rfl) (by kernel_rfl) ⟨rfl,?_⟩;refine AN h (fun v77=>⟨yr 72 0::dd 126 ([]),zS8 v30 v31 v32 v33 v34 v35 v36 v77 v38 v39 x42⟩) ?_ ?_
       ·intro _ h;obtain⟨_,g79,h⟩:=AD h;have g79l:(List.map JAE.toD v37).length=0:=(by rw[Ei g79];rfl);revert h;refine Aw (fun (v80,v81,v82,v83)=>⟨yr 72 0::y3 v80::dd 125 ([]),N::N::yB JAD.zv::nn 67 (yB JAD.zv::N::zS0 v30 v31 v32 v33 v34 v35 v36 v81 v38 v39::N::yB (JAA.av x42)::nn 29 (yR 141 3 JAF.toD v39::yR 137 2 JAB.toD v38::some (OB.row 132 2 (List.map JAE.toD v81) (.lk v82 1 232 (List.map D.i v83).length))::nn 125 (some (OB.row 3 1 (List.map D.i v83) .yes)::N::[])))⟩) ?_ ?_
        ·exact wk
        rintro _ ⟨v80,v81,v82,v83⟩ _ h p86;refine⟨v80.length,X10 _,?_⟩;refine goC ?_;refine Aj h fun h=>?_;refine goC ?_;refine AN h (fun v87=>⟨yr 72 0::y3 v80::dd 40 (yb v87::dd 84 ([])),N::N::yB JAD.zv::nn 67 (yB JAD.zv::N::zS0 v30 v31 v32 v33 v34 v35 v36 v81 v38 v39::N::yB (JAA.av x42)::nn 29 (yR 141 3 JAF.toD v39::yR 137 2 JAB.toD v38::some (OB.row 132 2 (List.map JAE.toD v81) (.lk v82 1 232 (List.map D.i v83).length))::nn 125 (some (OB.row 3 1 (List.map D.i v83) .yes)::N::[])))⟩) ?_ ?_
        ·intro _ h;refine⟨v80.length,X10 _,?_⟩;refine Br h fun h=>?_;(conv=>whnf);refine By h (fun _=>rfl) fun _ h=>?_;refine Ad h ?_ ?_<;>intro h
         ·(conv=>whnf);refine By h (fun _=>rfl) fun _ h=>?_;refine Br h fun h=>?_;refine⟨v80.length,X10 _,?_⟩;(conv=>whnf);refine By h (fun _=>rfl) fun v93 h=>?_;refine⟨_,EK v93,?_⟩;refine⟨_,rfl,?_⟩;refine⟨_,rfl,?_⟩;refine Br h fun h=>?_;(conv=>whnf);refine By h (fun _=>rfl) fun _ h=>?_;exact AQ h
         refine⟨v80.length,X10 _,?_⟩;(conv=>whnf);refine By h (fun _=>rfl) fun v97 h=>?_;refine⟨_,EK v97,?_⟩;refine⟨_,rfl,?_⟩;refine⟨_,rfl,?_⟩;refine Br h fun h=>?_;(conv=>whnf);refine By h (fun _=>rfl) fun _ h=>?_;exact AQ h
        rintro v87 h;refine goC ?_;refine Ad h ?_ ?_<;>intro h
        ·exact B7 (.swap 232 103 rfl rfl rfl wk) h
        (conv=>whnf);refine By h (fun _=>rfl) fun v101 h=>?_;refine⟨_,EK v101,?_⟩;refine⟨_,rfl,?_⟩;refine⟨_,rfl,?_⟩;refine .inl (dO ?_);(conv=>whnf);refine By h (fun _=>rfl) fun v103 h=>?_;(conv=>whnf);refine MQ (f:=D.u8) h fun _ h=>?_;refine Xh h (fun _=>E2) rfl fun v107 h=>?_;refine cO ?_;(conv=>whnf);refine PY (f:=D.u8) h fun v109 h=>?_;refine AN h (fun v111=>⟨yr 72 0::y3 v109::dd 4 (yr 113 0::dd 120 ([])),N::N::yB JAD.zv::nn 67 (yB JAD.zv::N::zS0 v30 v31 v32 v33 v34 v35 v36 v81 v38 v39::N::yB (JAA.av x42)::nn 29 (yR 141 3 JAF.toD v39::yR 137 2 JAB.toD v38::some (OB.row 132 2 (List.map JAE.toD v81) (.lk v82 1 232 (List.map D.i v83).length))::nn 6 (yB [yb ((v103.toNat:Int)==1),yO 175 D.i v111]::nn 61 (yR 3 1 D.i v111::nn 56 (some (OB.row 3 1 (List.map D.i v83) .yes)::N::[])))))⟩) ?_ ?_
        ·intro _ h;refine Ad h ?_ ?_<;>intro h
         ·obtain⟨v113,g114,h⟩:=AD h;have g114l:=Ye g114;refine⟨_,_,some [],VU g114,?_⟩;obtain⟨v115,g116,h⟩:=AD h;have g117:(List.map D.i v113).length=(List.map D.i v107).length:=(by first | rfl | (simp only[X10,X21];omega)|(simp only[cpy,X10,X21,X11,X18,X17,X20];omega)|(simp only[X10] at *;omega));refine⟨_,_,some [175],(g117 ▸ IA g116),?_⟩;exact AQ h
         exact B7 (.swap 163 175 rfl rfl rfl wk) h
        rintro v111 h;refine⟨v81.length,DK,?_⟩;refine⟨_,rfl,?_⟩;refine AN h (fun v118=>⟨yr 72 0::y3 v109::dd 4 (yr 113 0::yi (AI ((v81.length:Int)-1))::dd 85 (yb v118::dd 33 ([]))),N::N::yB JAD.zv::nn 67 (yB JAD.zv::N::zS0 v30 v31 v32 v33 v34 v35 v36 v81 v38 v39::N::yB (JAA.av x42)::nn 29 (yR 141 3 JAF.toD v39::yR 137 2 JAB.toD v38::some (OB.row 132 2 (List.map JAE.toD v81) (.lk v82 1 232 (List.map D.i v83).length))::nn 6 (yB [yb ((v103.toNat:Int)==1),yO 175 D.i v111]::nn 61 (yR 3 1 D.i v111::nn 56 (some (OB.row 3 1 (List.map D.i v83) .yes)::N::[])))))⟩) ?_ ?_
        ·intro _ h;refine Aj h fun h=>?_;refine Aj h fun h=>?_;obtain⟨v120,g121,h⟩:=AD h;refine⟨rfl,BN (f:=JAE.toD) g121,?_⟩;refine⟨rfl,?_⟩;(conv=>whnf);refine .inl ?_;refine⟨rfl,JAE.toD v120,(BS (f:=JAE.toD) g121),?_⟩;exact AQ h
        rintro v118 h;refine AN h (fun (v122,v123,v124)=>⟨yr 72 0::y3 v109::dd 125 ([]),N::N::yB JAD.zv::nn 67 (yB JAD.zv::N::zS0 v30 v31 v32 v33 v34 v35 v36 v122 v38 v39::N::yB (JAA.av x42)::nn 29 (yR 141 3 JAF.toD v39::yR 137 2 JAB.toD v38::some (OB.row 132 2 (List.map JAE.toD v122) (.lk v123 1 232 (List.map D.i v124).length))::nn 125 (some (OB.row 3 1 (List.map D.i v124) .yes)::N::[])))⟩) ?_ ?_
        ·intro _ h;refine Ad h ?_ ?_<;>intro h
         ·refine .inl (dO ?_);obtain⟨v126,g127,h⟩:=AD h;refine⟨rfl,BN (f:=JAE.toD) g127,?_⟩;refine⟨rfl,?_⟩;obtain⟨_,g128,h⟩:=AD h;refine .inr ⟨rfl,Ei g128,rfl,(bf (f:=JAE.toD) g127),by decide,rfl,?_⟩;refine⟨rfl,?_⟩;refine apO h rfl fun _ h=>?_;obtain⟨v131,g132,h⟩:=AD h;refine⟨rfl,BN (f:=JAE.toD) g132,?_⟩;refine⟨rfl,?_⟩;obtain⟨v133,g134,h⟩:=AD h;have g134l:=Hr g134;refine⟨rfl,?_⟩;refine⟨rfl,rfl,JAE.toD v131,(BS (f:=JAE.toD) g132),?_⟩;refine⟨_,L9 (f:=JAE.toD) g134,?_⟩;refine cO ?_;exact AQ h
         refine .inl (dO ?_);(conv=>whnf);refine .inr (.inr ?_);refine⟨1,175,_,rfl,?_⟩;refine⟨rfl,?_⟩;refine⟨rfl,?_⟩;refine apO h rfl fun _ h=>?_;refine⟨rfl,?_⟩;refine cO ?_;exact B7 (.swap 175 232 rfl rfl rfl wk) h
        rintro⟨v122,v123,v124⟩ h;exact p86 _ _ wk h
       rintro v77 h;refine⟨rfl,?_⟩;refine KD h (fun _=>Jr) fun _ h=>?_;exact AQ h
      rintro⟨v74,v75⟩ h;exact AQ h
     rintro⟨v69,v70⟩ h;refine goC ?_;refine Ad h ?_ ?_<;>intro h<;>exact AQ h
    replace h:=PQ g68 h;by_cases g139:(x42.Type_==3)=true
    ·replace h:=O8 g139 h;refine⟨_,(Ao g55 (Ao g68 (G8 g139))),_,rfl,_,rfl,?_⟩;refine AN h (fun (v140,v141,v142,v143)=>⟨VP (v1.length:Int) (i29:Int) v140 v1,zS6 v30 v141 v142 v143 v34 v35 v36 v37 v38 v39⟩) ?_ ?_
     ·intro _ h;refine AK h (fun _=>Bm) fun _ h=>?_;refine Br h fun h=>?_;refine AN h (fun (v147,v148,v149)=>⟨zS9 (v1.length:Int) (i29:Int) true false ((x42.Data.length:Int)==4) v1,zS6 v30 v147 v148 v149 v34 v35 v36 v37 v38 v39⟩) ?_ ?_
      ·intro _ h;(conv=>whnf);refine inl Tryz.f210 107 (by kernel_rfl) (by kernel_rfl) ⟨rfl,?_⟩;refine AK h (fun _=>GK) ?_;rintro⟨_,_⟩ h;refine⟨x42.Data.length,X10 _,?_⟩;exact AQ h
      rintro⟨v147,v148,v149⟩ h;exact AQ h
     rintro⟨v140,v141,v142,v143⟩ h;refine goC ?_;refine Ad h ?_ ?_<;>intro h<;>exact AQ h
    replace h:=PQ g139 h;by_cases g154:(x42.Type_==4)=true
    ·replace h:=O8 g154 h;refine⟨_,(Ao g55 (Ao g68 (Ao g139 (G8 g154)))),_,rfl,_,rfl,?_⟩;refine AN h (fun (v155,v156)=>⟨VP (v1.length:Int) (i29:Int) v155 v1,zS6 v30 v31 v32 v33 v156 v35 v36 v37 v38 v39⟩) ?_ ?_
     ·intro _ h;refine AK h (fun _=>Bm) fun _ h=>?_;refine Br h fun h=>?_;refine AN h (fun v160=>⟨zS9 (v1.length:Int) (i29:Int) true false ((x42.Data.length:Int)==4) v1,zS6 v30 v31 v32 v33 v160 v35 v36 v37 v38 v39⟩) ?_ ?_
      ·intro _ h;(conv=>whnf);refine inl Tryz.f211 107 (by kernel_rfl) (by kernel_rfl) ⟨rfl,?_⟩;refine AN h (fun v162=>⟨dd 4 (yb false::dd 4 (yb ((x42.Data.length:Int)==4)::[])),zS8 v30 v31 v32 v33 v162 v35 v36 v37 v38 v39 x42⟩) ?_ ?_
       ·intro _ h;(conv=>whnf);refine inl Tryz.f212 117 (by kernel_rfl) (by kernel_rfl) ⟨rfl,?_⟩;refine AK h (fun _=>Cf) fun _ h=>?_;refine⟨x42.Data.length,X10 _,?_⟩;exact AQ h
       rintro v162 h;exact AQ h
      rintro v160 h;exact AQ h
     rintro⟨v155,v156⟩ h;refine goC ?_;refine Ad h ?_ ?_<;>intro h<;>exact AQ h
    replace h:=PQ g154 h;by_cases g166:(x42.Type_==5)=true
    ·replace h:=O8 g166 h;refine⟨_,(Ao g55 (Ao g68 (Ao g139 (Ao g154 (G8 g166))))),_,rfl,_,rfl,?_⟩;refine AN h (fun (v167,v168)=>⟨VP (v1.length:Int) (i29:Int) v167 v1,zS6 v30 v31 v32 v33 v34 v168 v36 v37 v38 v39⟩) ?_ ?_
     ·intro _ h;refine AK h (fun _=>Bm) fun _ h=>?_;refine Br h fun h=>?_;refine AN h (fun v172=>⟨zS9 (v1.length:Int) (i29:Int) true false ((x42.Data.length:Int)==4) v1,zS6 v30 v31 v32 v33 v34 v172 v36 v37 v38 v39⟩) ?_ ?_
      ·intro _ h;(conv=>whnf);refine inl Tryz.f213 107 (by kernel_rfl) (by kernel_rfl) ⟨rfl,?_⟩;refine AN h (fun v174=>⟨dd 4 (yb false::dd 4 (yb ((x42.Data.length:Int)==4)::[])),zS8 v30 v31 v32 v33 v34 v174 v36 v37 v38 v39 x42⟩) ?_ ?_
       ·intro _ h;(conv=>whnf);refine inl Tryz.f212 117 (by kernel_rfl) (by kernel_rfl) ⟨rfl,?_⟩;refine AK h (fun _=>Cf) fun _ h=>?_;refine⟨x42.Data.length,X10 _,?_⟩;exact AQ h
       rintro v174 h;exact AQ h
      rintro v172 h;exact AQ h
     rintro⟨v167,v168⟩ h;refine goC ?_;refine Ad h ?_ ?_<;>intro h<;>exact AQ h
    replace h:=PQ g166 h;by_cases g178:(x42.Type_==8)=true
    ·replace h:=O8 g178 h;refine⟨_,(Ao g55 (Ao g68 (Ao g139 (Ao g154 (Ao g166 (G8 g178)))))),_,rfl,_,rfl,?_⟩;refine AN h (fun (v179,v180)=>⟨VP (v1.length:Int) (i29:Int) v179 v1,zS6 v30 v31 v32 v33 v34 v35 v36 v37 v180 v39⟩) ?_ ?_
     ·intro _ h;refine AK h (fun _=>Bm) fun _ h=>?_;refine Br h fun h=>?_;refine AN h (fun (v184,v185)=>⟨zS9 (v1.length:Int) (i29:Int) true false v184 v1,zS6 v30 v31 v32 v33 v34 v35 v36 v37 v185 v39⟩) ?_ ?_
      ·intro _ h;(conv=>whnf);refine inl Tryz.f214 107 (by kernel_rfl) (by kernel_rfl) ⟨rfl,?_⟩;refine O7 [117] h (fun _=>E2) fun v187 h=>?_;refine⟨v187.length,DK,?_⟩;refine AN h (fun v189=>⟨yr 72 0::AV.d (D.l 1 D.u8 x42.Data)::X::X::X::yO 112 JAB.toD v189::dd 41 ([]),N::N::yB JAD.zv::nn 67 (yB JAD.zv::N::zS0 v30 v31 v32 v33 v34 v35 v36 v37 v38 v39::N::yB (JAA.av x42)::nn 29 (yR 141 3 JAF.toD v39::yR 137 2 JAB.toD v38::yR 132 2 JAE.toD v37::nn 5 (yR 137 2 JAB.toD v189::nn 121 ([]))))⟩) ?_ ?_
       ·intro _ h;revert h;refine Q9 117 3 1 .no D.i rfl (fun i191 v192=>⟨yr 72 0::AV.d (D.l 1 D.u8 x42.Data)::X::X::X::yO 112 JAB.toD v192::dd 4 (yO 117 D.i v187::yi (v187.length:Int)::yi (i191:Int)::dd 34 ([])),N::N::yB JAD.zv::nn 67 (yB JAD.zv::N::zS0 v30 v31 v32 v33 v34 v35 v36 v37 v38 v39::N::yB (JAA.av x42)::nn 29 (yR 141 3 JAF.toD v39::yR 137 2 JAB.toD v38::yR 132 2 JAE.toD v37::nn 5 (yR 137 2 JAB.toD v192::nn 4 (yR 3 1 D.i v187::nn 116 ([])))))⟩) ?_ ?_ ?_
        ·exact wk
        ·rintro v192 K193 h;refine goC ?_;refine BK C5 ?_;exact AQ h
        rintro _ i191 x195 v192 K193 b191 c191 e191 h p196;refine goC ?_;refine BJ (C0 b191) ?_;refine goC ?_;refine⟨rfl,BI (f:=D.i) b191,?_⟩;refine⟨rfl,D.i x195,c191,?_⟩;refine⟨by decide,_,rfl,?_⟩;refine⟨_,rfl,?_⟩;refine⟨rfl,?_⟩;refine apO h rfl fun _ h=>?_;refine⟨_,e191,?_⟩;exact p196 _ _ wk h
       rintro v189 h;refine AN h (fun (v199,v200)=>⟨yr 72 0::AV.d (D.l 1 D.u8 x42.Data)::dd 6 (yb false::dd 17 (yr 72 0::X::AV.tup [yO 153 JAB.toD v200,yb v199]::dd 18 ([]))),N::N::yB JAD.zv::nn 67 (yB JAD.zv::N::zS0 v30 v31 v32 v33 v34 v35 v36 v37 v38 v39::N::yB (JAA.av x42)::nn 29 (yR 141 3 JAF.toD v39::yR 137 2 JAB.toD v38::yR 132 2 JAE.toD v37::nn 46 (yR 137 2 JAB.toD v200::nn 80 ([]))))⟩) ?_ ?_
       ·intro _ h;(conv=>whnf);refine inl Tryz.f220 154 (by kernel_rfl) (by kernel_rfl) ⟨rfl,?_⟩;refine AN h (fun v202=>⟨yO 112 JAB.toD v189::AV.fn 221 []::dd 4 (yb v202::dd 14 ([])),N::N::yB JAD.zv::nn 67 (yB JAD.zv::N::zS0 v30 v31 v32 v33 v34 v35 v36 v37 v38 v39::N::yB (JAA.av x42)::nn 29 (yR 141 3 JAF.toD v39::yR 137 2 JAB.toD v38::yR 132 2 JAE.toD v37::nn 5 (yR 137 2 JAB.toD v189::nn 121 ([]))))⟩) ?_ ?_
        ·intro _ h;refine⟨v189.length,DK,?_⟩;refine Aj h fun h=>?_;refine⟨v189.length,DK,?_⟩;exact AQ h
        rintro v202 h;obtain⟨v204,g205,h⟩:=AD h;have g205l:=Gh g205;refine⟨_,_,some [],V0 (f:=JAB.toD) (enters_of Tryz.func221 (by kernel_rfl) rfl) (fun h=>Gt h) g205,?_⟩;obtain⟨v206,g207,h⟩:=AD h;have g208:(List.map JAB.toD v204).length=(List.map JAB.toD v189).length:=(by first | rfl | (simp only[X10,X21];omega)|(simp only[cpy,X10,X21,X11,X18,X17,X20];omega)|(simp only[X10] at *;omega));refine⟨_,_,some [173],(g208 ▸ EE g207),?_⟩;exact B7 (.swap 173 153 rfl rfl rfl wk) h
       rintro⟨v199,v200⟩ h;refine AN h (fun v209=>⟨dd 4 (yb v209::dd 42 ([])),N::N::yB JAD.zv::nn 67 (yB JAD.zv::N::yB [yi v30,yO 106 JAE.toD v37,yb v31,yu v32,yu v33,yi v34,yi v35,yi v36,yO 153 JAB.toD v200,yO 104 JAF.toD v39,AV.d (D.nil 3)]::N::yB (JAA.av x42)::nn 29 (yR 141 3 JAF.toD v39::yR 137 2 JAB.toD v38::yR 132 2 JAE.toD v37::nn 46 (yR 137 2 JAB.toD v200::nn 80 ([]))))⟩) ?_ ?_
       ·intro _ h;refine Aj h fun h=>?_;refine⟨x42.Data.length,X10 _,?_⟩;refine⟨by decide,_,rfl,?_⟩;refine Aj h fun h=>?_;refine⟨rfl,?_⟩;refine KD h (fun _=>Fo) fun _ h=>?_;exact AQ h
       rintro v209 h;exact B7 (.swap 153 105 rfl rfl rfl wk) h
      rintro⟨v184,v185⟩ h;exact AQ h
     rintro⟨v179,v180⟩ h;refine goC ?_;refine Ad h ?_ ?_<;>intro h<;>exact AQ h
    replace h:=PQ g178 h;by_cases g213:(x42.Type_==32)=true
    ·replace h:=O8 g213 h;refine⟨_,(Ao g55 (Ao g68 (Ao g139 (Ao g154 (Ao g166 (Ao g178 (G8 g213))))))),_,rfl,_,rfl,?_⟩;refine AN h (fun (v214,v215)=>⟨VP (v1.length:Int) (i29:Int) v214 v1,zS6 v30 v31 v32 v33 v34 v35 v36 v37 v38 v215⟩) ?_ ?_
     ·intro _ h;refine AK h (fun _=>Bm) fun _ h=>?_;refine Br h fun h=>?_;refine AN h (fun (v219,v220)=>⟨zS9 (v1.length:Int) (i29:Int) true false v219 v1,zS6 v30 v31 v32 v33 v34 v35 v36 v37 v38 v220⟩) ?_ ?_
      ·intro _ h;(conv=>whnf);refine inl Tryz.f215 107 (by kernel_rfl) (by kernel_rfl) ⟨rfl,?_⟩;refine⟨x42.Data.length,X10 _,?_⟩;refine⟨by decide,_,rfl,?_⟩;refine goC ?_;refine Br h fun h=>?_;refine O7 [120] h (fun _=>E2) fun _ h=>?_;refine AN h (fun v224=>⟨yr 72 0::dd 4 (yO 112 JAF.toD v224::dd 42 ([])),N::N::yB JAD.zv::nn 67 (yB JAD.zv::N::zS0 v30 v31 v32 v33 v34 v35 v36 v37 v38 v39::N::yB (JAA.av x42)::nn 29 (yR 141 3 JAF.toD v39::yR 137 2 JAB.toD v38::yR 132 2 JAE.toD v37::nn 5 (yR 141 3 JAF.toD v224::nn 121 ([]))))⟩) ?_ ?_
       ·intro _ h;revert h;refine Aw (fun (v226,v227)=>⟨yr 72 0::dd 4 (yO 112 JAF.toD v226::yO 120 D.i v227::dd 41 ([])),N::N::yB JAD.zv::nn 67 (yB JAD.zv::N::zS0 v30 v31 v32 v33 v34 v35 v36 v37 v38 v39::N::yB (JAA.av x42)::nn 29 (yR 141 3 JAF.toD v39::yR 137 2 JAB.toD v38::yR 132 2 JAE.toD v37::nn 5 (yR 141 3 JAF.toD v226::nn 7 (yR 3 1 D.i v227::nn 113 ([])))))⟩) ?_ ?_
        ·exact wk
        rintro _ ⟨v226,v227⟩ _ h p230;refine⟨v227.length,DK,?_⟩;refine goC ?_;refine Aj h fun h=>?_;refine goC ?_;refine .inl (dO ?_);obtain⟨v231,g232,h⟩:=AD h;refine⟨rfl,BN (f:=D.i) g232,?_⟩;refine⟨rfl,D.i v231,(BS (f:=D.i) g232),?_⟩;obtain⟨v233,g234,h⟩:=AD h;refine⟨rfl,BN (f:=D.i) g234,?_⟩;refine⟨rfl,D.i v233,(BS (f:=D.i) g234),?_⟩;obtain⟨v235,g236,h⟩:=AD h;refine⟨rfl,BN (f:=D.i) g236,?_⟩;refine⟨rfl,D.i v235,(BS (f:=D.i) g236),?_⟩;refine⟨rfl,?_⟩;refine apO h rfl fun _ h=>?_;refine cO ?_;(conv=>whnf);refine .inr (.inr ?_);obtain⟨v239,g240,h⟩:=AD h;refine⟨bk (f:=D.i) g240,rfl,_,Xi (f:=D.i) g240,?_⟩;exact p230 _ _ (.swap 125 120 rfl rfl rfl wk) h
       rintro v224 h;refine AN h (fun (v241,v242)=>⟨yr 72 0::dd 6 (yb false::dd 25 (yr 72 0::X::AV.tup [yO 154 JAF.toD v242,yb v241]::dd 12 ([]))),N::N::yB JAD.zv::nn 67 (yB JAD.zv::N::zS0 v30 v31 v32 v33 v34 v35 v36 v37 v38 v39::N::yB (JAA.av x42)::nn 29 (yR 141 3 JAF.toD v39::yR 137 2 JAB.toD v38::yR 132 2 JAE.toD v37::nn 47 (yR 141 3 JAF.toD v242::nn 79 ([]))))⟩) ?_ ?_
       ·intro _ h;(conv=>whnf);refine inl Tryz.f222 155 (by kernel_rfl) (by kernel_rfl) ⟨rfl,?_⟩;refine AN h (fun v244=>⟨yO 112 JAF.toD v224::AV.fn 223 []::dd 4 (yb v244::dd 14 ([])),N::N::yB JAD.zv::nn 67 (yB JAD.zv::N::zS0 v30 v31 v32 v33 v34 v35 v36 v37 v38 v39::N::yB (JAA.av x42)::nn 29 (yR 141 3 JAF.toD v39::yR 137 2 JAB.toD v38::yR 132 2 JAE.toD v37::nn 5 (yR 141 3 JAF.toD v224::nn 121 ([]))))⟩) ?_ ?_
        ·intro _ h;refine⟨v224.length,DK,?_⟩;refine Aj h fun h=>?_;refine⟨v224.length,DK,?_⟩;exact AQ h
        rintro v244 h;obtain⟨v246,g247,h⟩:=AD h;have g247l:=Gh g247;refine⟨_,_,some [],VC (f:=JAF.toD) (enters_of Tryz.func223 (by kernel_rfl) rfl) (fun h=>IV h) g247,?_⟩;obtain⟨v248,g249,h⟩:=AD h;have g250:(List.map JAF.toD v246).length=(List.map JAF.toD v224).length:=(by first | rfl | (simp only[X10,X21];omega)|(simp only[cpy,X10,X21,X11,X18,X17,X20];omega)|(simp only[X10] at *;omega));refine⟨_,_,some [174],(g250 ▸ FQ g249),?_⟩;exact B7 (.swap 174 154 rfl rfl rfl wk) h
       rintro⟨v241,v242⟩ h;refine AN h (fun v251=>⟨dd 4 (yb v251::dd 43 ([])),N::N::yB JAD.zv::nn 67 (yB JAD.zv::N::yB [yi v30,yO 106 JAE.toD v37,yb v31,yu v32,yu v33,yi v34,yi v35,yi v36,yO 105 JAB.toD v38,yO 154 JAF.toD v242,AV.d (D.nil 3)]::N::yB (JAA.av x42)::nn 29 (yR 141 3 JAF.toD v39::yR 137 2 JAB.toD v38::yR 132 2 JAE.toD v37::nn 47 (yR 141 3 JAF.toD v242::nn 79 ([]))))⟩) ?_ ?_
       ·intro _ h;refine Aj h fun h=>?_;refine⟨rfl,?_⟩;refine KD h (fun _=>EF) fun _ h=>?_;exact AQ h
       rintro v251 h;exact B7 (.swap 154 104 rfl rfl rfl wk) h
      rintro⟨v219,v220⟩ h;exact AQ h
     rintro⟨v214,v215⟩ h;refine goC ?_;refine Ad h ?_ ?_<;>intro h<;>exact AQ h
    replace h:=PQ g213 h;by_cases g255:(x42.Type_==35)=true
    ·replace h:=O8 g255 h;refine⟨_,(Ao g55 (Ao g68 (Ao g139 (Ao g154 (Ao g166 (Ao g178 (Ao g213 (G8 g255)))))))),_,rfl,_,rfl,?_⟩;refine AN h (fun (v256,v257)=>⟨VP (v1.length:Int) (i29:Int) v256 v1,zS6 v30 v31 v32 v33 v34 v35 v257 v37 v38 v39⟩) ?_ ?_
     ·intro _ h;refine AK h (fun _=>Bm) fun _ h=>?_;refine Br h fun h=>?_;refine AN h (fun (v261,v262)=>⟨zS9 (v1.length:Int) (i29:Int) true false v261 v1,zS6 v30 v31 v32 v33 v34 v35 v262 v37 v38 v39⟩) ?_ ?_
      ·intro _ h;(conv=>whnf);refine inl Tryz.f216 107 (by kernel_rfl) (by kernel_rfl) ⟨rfl,?_⟩;refine AN h (fun (v264,v265)=>⟨dd 4 (yb v264::dd 12 ([])),zS8 v30 v31 v32 v33 v34 v35 v265 v37 v38 v39 x42⟩) ?_ ?_
       ·intro _ h;refine AN h (fun v267=>⟨yr 72 0::X::X::X::yb false::dd 4 (yb ((x42.Data.length:Int)==4)::dd 7 ([])),zS8 v30 v31 v32 v33 v34 v35 v267 v37 v38 v39 x42⟩) ?_ ?_
        ·intro _ h;(conv=>whnf);refine inl Tryz.f212 124 (by kernel_rfl) (by kernel_rfl) ⟨rfl,?_⟩;refine AK h (fun _=>Cf) fun _ h=>?_;refine⟨x42.Data.length,X10 _,?_⟩;exact AQ h
        rintro v267 h;refine Aj h fun h=>?_;refine AK h (fun _=>Gk) fun _ h=>?_;exact AQ h
       rintro⟨v264,v265⟩ h;exact AQ h
      rintro⟨v261,v262⟩ h;exact AQ h
     rintro⟨v256,v257⟩ h;refine goC ?_;refine Ad h ?_ ?_<;>intro h<;>exact AQ h
    replace h:=PQ g255 h;refine⟨_,(Ao g55 (Ao g68 (Ao g139 (Ao g154 (Ao g166 (Ao g178 (Ao g213 (Ao g255 aZ)))))))),_,rfl,_,rfl,?_⟩;refine goC ?_;refine goC ?_;exact AQ h
   rintro⟨v44,v45,v46,v47,v48,v49,v50,v51,v52,v53⟩ h;refine⟨_,e29,?_⟩;exact p43 _ _ wk h
  rintro⟨v18,v19,v20,v21,v22,v23,v24,v25,v26,v27⟩ h;exact B7 (.swap 104 67 rfl rfl rfl (.swap 105 65 rfl rfl rfl (.swap 106 64 rfl rfl rfl wk))) h
 rintro⟨v5,v6,v7,v8,v9,v10,v11,v12,v13,v14,v15⟩ h;refine goC ?_;refine Ad h ?_ ?_<;>intro h
 ·exact fin h
 refine⟨v1.length,X10 _,?_⟩;refine AN h (fun v273=>⟨X::X::yr 2 0::X::yr 4 0::dd 63 ([]),dW v5 v6 v7 v8 v9 v10 v11 v13 v14 v15 v273⟩) ?_ ?_
 ·intro _ h;revert h;refine Ah 21 3 JAA.toD rfl (fun i275 v276=>⟨X::X::yr 2 0::X::yr 4 0::dd 16 (y4 v1::yi (v1.length:Int)::yi (i275:Int)::dd 44 ([])),dW v5 v6 v7 v8 v9 v10 v11 v13 v14 v15 v276⟩) ?_ ?_ ?_
  ·exact wk
  ·rintro v276 K277 h;refine goC ?_;refine BK C5 ?_;exact AQ h
  rintro _ i275 x279 v276 K277 b275 c275 e275 h p280;refine goC ?_;refine BJ (C0 b275) ?_;refine goC ?_;refine⟨BI (f:=JAA.toD) b275,JAA.toD x279,c275,rfl,?_⟩;refine AN h (fun v281=>⟨X::X::yr 2 0::X::yr 4 0::X::X::yr 7 0::dd 13 (y4 v1::yi (v1.length:Int)::yi (i275:Int)::dd 22 (yb v281::dd 21 ([]))),N::N::yB JAD.zv::N::zS2 v5 v6 v7 v8 v9 v10 v11 v13 v14 v15 v276::N::N::yB (JAA.av x279)::nn 48 (yR 88 3 JAA.toD v276::nn 7 (yR 132 2 JAE.toD v13::yR 137 2 JAB.toD v14::N::yR 141 3 JAF.toD v15::nn 166 ([])))⟩) ?_ ?_
  ·intro _ h;refine AK h (fun _=>Eu) fun _ h=>?_;refine Aj h fun h=>?_;refine AK h (fun _=>Bt) fun _ h=>?_;refine Aj h fun h=>?_;refine⟨_,rfl,?_⟩;refine Aj h fun h=>?_;refine⟨x279.Data.length,X10 _,?_⟩;exact AQ h
  rintro v281 h;refine AN h (fun v287=>⟨X::X::yr 2 0::X::yr 4 0::dd 16 (y4 v1::yi (v1.length:Int)::yi (i275:Int)::dd 44 ([])),dW v5 v6 v7 v8 v9 v10 v11 v13 v14 v15 v287⟩) ?_ ?_
  ·intro _ h;refine Aj h fun h=>?_;refine .inl (dO ?_);refine A2 h (fun _=>FS) (fun _=>rfl) fun _ h=>?_;refine⟨rfl,?_⟩;refine apO h rfl fun _ h=>?_;refine cO ?_;exact AQ h
  rintro v287 h;refine⟨_,e275,?_⟩;exact p280 _ _ wk h
 rintro v273 h;refine⟨v273.length,DK,?_⟩;refine goC ?_;refine Ad h ?_ ?_<;>intro h
 ·exact fin h
 obtain⟨v293,g294,h⟩:=AD h;have g294l:=Gh g294;refine⟨_,_,some [],J5 (f:=JAA.toD) (enters_of Tryz.func121 (by kernel_rfl) rfl) (fun h=>LP h) g294,?_⟩;refine⟨rfl,?_⟩;refine⟨rfl,?_⟩;refine⟨rfl,?_⟩;refine⟨DK,?_⟩;exact fin h
theorem Gx {a0:List UInt8}{r:Int}(h:Em a0=some r):yC wl 72 [AV.d (D.l 1 D.u8 a0)] [] (.d (D.i r)) []:=by
 refine oK Tryz.f72 ⟨rfl,?_⟩;unfold Em at h;refine .inl (dO ?_);(conv=>whnf);refine By h (fun _=>rfl) fun v1 h=>?_;refine⟨_,EK v1,?_⟩;refine⟨by decide,_,rfl,?_⟩;(conv=>whnf);refine By h (fun _=>rfl) fun v3 h=>?_;refine⟨_,EK v3,?_⟩;refine⟨_,rfl,?_⟩;refine cO ?_;exact fin h
theorem LV {a0:List UInt8}{r:(List UInt8)×(List UInt8)×Bool}(h:Gn a0=some r):yC wl 108 [AV.d (D.l 1 D.u8 a0)] [] (.tup [.d (D.l 1 D.u8 r.1),.d (D.l 1 D.u8 r.2.1),.d (D.b r.2.2)]) []:=by
 refine oK Tryz.f108 ⟨rfl,?_⟩;unfold Gn at h;refine AN h (fun v1=>⟨y3 a0::dd 15 (yb v1::dd 9 ([])),nn 26 ([])⟩) ?_ ?_
 ·intro _ h;refine⟨a0.length,X10 _,?_⟩;refine Br h fun h=>?_;refine⟨a0.length,X10 _,?_⟩;refine⟨_,rfl,?_⟩;refine AK h (fun _=>Gx) fun _ h=>?_;exact AQ h
 rintro v1 h;refine goC ?_;refine Ad h ?_ ?_<;>intro h
 ·(conv=>whnf);refine .inl ?_;refine⟨rfl,?_⟩;(conv=>whnf);refine .inl ?_;refine⟨rfl,?_⟩;exact fin h
 refine AK h (fun _=>Gx) fun _ h=>?_;refine⟨_,rfl,?_⟩;refine .inl (dO ?_);(conv=>whnf);refine MQ (f:=D.u8) h fun _ h=>?_;(conv=>whnf);refine PY (f:=D.u8) h fun _ h=>?_;refine cO ?_;exact fin h
theorem ME {a0:List UInt8}{r:(List JAA)×Int}(h:Eb a0=some r):yC wl 109 [AV.d (D.l 1 D.u8 a0)] [] (.tup [.d (D.l 3 JAA.toD r.1),.d (D.i r.2)]) []:=by
 refine oK Tryz.f109 ⟨rfl,?_⟩;unfold Eb at h;refine AN h (fun v1=>⟨dd 4 (yO 4 JAA.toD v1::dd 53 ([])),nn 4 (yR 88 3 JAA.toD v1::nn 53 ([]))⟩) ?_ ?_
 ·intro _ h;revert h;refine Aw (fun (v3,v4)=>⟨y3 v3::X::X::X::yO 4 JAA.toD v4::dd 53 ([]),nn 4 (yR 88 3 JAA.toD v4::nn 53 ([]))⟩) ?_ ?_
  ·exact wk
  rintro _ ⟨v3,v4⟩ _ h p7;refine⟨v3.length,X10 _,?_⟩;refine goC ?_;refine Aj h fun h=>?_;refine goC ?_;(conv=>whnf);refine By h (fun _=>rfl) fun _ h=>?_;refine⟨_,Ar _,?_⟩;refine AN h (fun v10=>⟨y3 v3::X::X::X::yO 4 JAA.toD v4::yi v10::dd 52 ([]),nn 4 (yR 88 3 JAA.toD v4::nn 53 ([]))⟩) ?_ ?_
  ·intro _ h;exact selC h
  rintro v10 h;refine AN h (fun v12=>⟨y3 v3::X::X::X::yO 4 JAA.toD v4::yi v10::dd 23 (yb v12::dd 28 ([])),nn 4 (yR 88 3 JAA.toD v4::nn 53 ([]))⟩) ?_ ?_
  ·intro _ h;refine⟨v3.length,X10 _,?_⟩;refine Br h fun h=>?_;refine⟨v3.length,X10 _,?_⟩;refine⟨_,rfl,?_⟩;(conv=>whnf);refine MQ (f:=D.u8) h fun _ h=>?_;refine AK h (fun _=>Cf) fun _ h=>?_;exact AQ h
  rintro v12 h;refine goC ?_;refine Ad h ?_ ?_<;>intro h
  ·(conv=>whnf);refine .inl ?_;refine⟨rfl,?_⟩;exact fin h
  (conv=>whnf);refine MQ (f:=D.u8) h fun _ h=>?_;refine AK h (fun _=>Cf) fun _ h=>?_;refine⟨_,rfl,?_⟩;refine .inl (dO ?_);(conv=>whnf);refine By h (fun _=>rfl) fun v22 h=>?_;refine⟨_,Ar _,?_⟩;refine⟨_,EK (Aa ((BitVec.ofInt 8 (v22.toNat:Int) &&& BitVec.ofInt 8 224).toNat:Int)),?_⟩;(conv=>whnf);refine By h (fun _=>rfl) fun v24 h=>?_;refine⟨_,EK v24,?_⟩;(conv=>whnf);refine MQ (f:=D.u8) h fun _ h=>?_;refine apN (f:=D.u8) h fun _ h=>?_;(conv=>whnf);refine .inl ?_;refine⟨rfl,?_⟩;refine⟨rfl,?_⟩;refine apO h rfl fun _ h=>?_;refine cO ?_;(conv=>whnf);refine PY (f:=D.u8) h fun _ h=>?_;exact p7 _ _ wk h
 rintro v1 h;(conv=>whnf);refine .inl ?_;refine⟨rfl,?_⟩;exact fin h
theorem RV {a0:Addr}{a1:Int}{r:JAC×Int}(h:HC a0 a1=some r):yC wl 146 [AV.d (Addr.toD a0),AV.d (D.i a1)] [] (.tup [.d (JAC.toD r.1),.d (D.i r.2)]) []:=by
 refine oK Tryz.f146 ⟨rfl,?_⟩;unfold HC at h;refine goC ?_;refine AK h (fun _=>Gw) fun _ h=>?_;refine goC ?_;refine Ad h ?_ ?_<;>intro h
 ·exact fin h
 refine AN h (fun v3=>⟨X::yi a1::yr 2 0::X::yr 4 0::dd 6 (yb v3::dd 14 ([])),N::N::yB (Addr.av a0)::N::yB JAC.zv::nn 21 ([])⟩) ?_ ?_
 ·intro _ h;refine Br h fun h=>?_;refine AK h (fun _=>HQ) fun _ h=>?_;exact AQ h
 rintro v3 h;refine goC ?_;refine Ad h ?_ ?_<;>intro h
 ·exact fin h
 refine AK h (fun _=>Jl) fun _ h=>?_;exact fin h
theorem ES {a0:List UInt8}{a1:Bool}{r:(List JAC)×Bool}(h:CJ a0 a1=some r):yC wl 111 [AV.d (D.l 1 D.u8 a0),AV.d (D.b a1)] [] (.tup [.d (D.l 4 JAC.toD r.1),.d (D.b r.2)]) []:=by
 refine oK Tryz.f111 ⟨rfl,?_⟩;unfold CJ at h;refine AN h (fun v1=>⟨y3 a0::dd 5 (yi v1::dd 58 ([])),nn 65 ([])⟩) ?_ ?_
 ·intro _ h;exact selC h
 rintro v1 h;refine AN h (fun v3=>⟨dd 7 (yO 7 JAC.toD v3::dd 57 ([])),nn 7 (yR 41 4 JAC.toD v3::nn 57 ([]))⟩) ?_ ?_
 ·intro _ h;revert h;refine Aw (fun (v5,v6)=>⟨y3 v5::dd 5 (yi v1::yO 7 JAC.toD v6::dd 57 ([])),nn 7 (yR 41 4 JAC.toD v6::nn 57 ([]))⟩) ?_ ?_
  ·exact wk
  rintro _ ⟨v5,v6⟩ _ h p9;refine⟨v5.length,X10 _,?_⟩;refine goC ?_;refine Aj h fun h=>?_;refine goC ?_;(conv=>whnf);refine By h (fun _=>rfl) fun v10 h=>?_;refine⟨_,EK v10,?_⟩;refine⟨_,rfl,?_⟩;refine⟨by decide,_,rfl,?_⟩;refine AN h (fun v12=>⟨y3 v5::dd 5 (yi v1::yO 7 JAC.toD v6::yi (v10.toNat:Int)::AV.d (D.i (AI (Int.tdiv (AI ((v10.toNat:Int)+7)) 8)))::dd 25 (yb v12::dd 29 ([]))),nn 7 (yR 41 4 JAC.toD v6::nn 57 ([]))⟩) ?_ ?_
  ·intro _ h;refine Br h fun h=>?_;refine⟨v5.length,X10 _,?_⟩;refine⟨_,rfl,?_⟩;exact AQ h
  rintro v12 h;refine goC ?_;refine Ad h ?_ ?_<;>intro h
  ·(conv=>whnf);refine .inl ?_;refine⟨rfl,?_⟩;exact fin h
  refine⟨by decide,_,rfl,?_⟩;obtain⟨_,g14,h⟩:=AD h;refine⟨XP g14 (X29 rfl),D.u8 (0:UInt8),rfl,(List.map D.u8 (List.replicate (Int.toNat (AI (Int.tdiv v1 8))) (0:UInt8))),List.map_replicate.symm,?_⟩;refine⟨_,rfl,?_⟩;(conv=>whnf);refine MQ (f:=D.u8) h fun v15 h=>?_;refine⟨rfl,List.map D.u8 (cpy (List.replicate (Int.toNat (AI (Int.tdiv v1 8))) (0:UInt8)) 0 (List.replicate (Int.toNat (AI (Int.tdiv v1 8))) (0:UInt8)).length v15),dm,(min v15.length (List.replicate (Int.toNat (AI (Int.tdiv v1 8))) (0:UInt8)).length),dx,?_⟩;refine⟨DK,?_⟩;refine KD h (fun _=>GK) ?_;rintro⟨_,_⟩ h;refine AK h (fun _=>RV) ?_;rintro⟨_,_⟩ h;refine .inl (dO ?_);refine⟨rfl,?_⟩;refine apO h rfl fun _ h=>?_;refine⟨_,rfl,?_⟩;(conv=>whnf);refine PY (f:=D.u8) h fun _ h=>?_;refine cO ?_;exact p9 _ _ wk h
 rintro v3 h;(conv=>whnf);refine .inl ?_;refine⟨rfl,?_⟩;exact fin h
theorem J9 {a0:List UInt8}{a1:List UInt8}{r:Bool}(h:bytes_Equal a0 a1=some r):yC wl 71 [AV.d (D.l 1 D.u8 a0),AV.d (D.l 1 D.u8 a1)] [] (.d (D.b r)) []:=by
 refine oK Tryz.f71 ⟨rfl,?_⟩;unfold bytes_Equal at h;refine⟨a0,rfl,?_⟩;refine⟨a1,rfl,?_⟩;exact fin h
theorem MI {a0:List UInt8}{a1:List UInt8}{r:Bool}(h:bytes_HasPrefix a0 a1=some r):yC wl 83 [AV.d (D.l 1 D.u8 a0),AV.d (D.l 1 D.u8 a1)] [] (.d (D.b r)) []:=by
 refine oK Tryz.f83 ⟨rfl,?_⟩;unfold bytes_HasPrefix at h;refine AN h (fun v1=>⟨dd 4 (yb v1::dd 13 ([])),nn 18 ([])⟩) ?_ ?_
 ·intro _ h;refine⟨a0.length,X10 _,?_⟩;refine⟨a1.length,X10 _,?_⟩;refine Aj h fun h=>?_;refine⟨a1.length,X10 _,?_⟩;(conv=>whnf);refine MQ (f:=D.u8) h fun _ h=>?_;refine AK h (fun _=>J9) fun _ h=>?_;exact AQ h
 rintro v1 h;exact fin h
theorem MG {a0:List UInt8}{a1:List UInt8}{r:(List UInt8)×Bool}(h:bytes_CutPrefix a0 a1=some r):yC wl 144 [AV.d (D.l 1 D.u8 a0),AV.d (D.l 1 D.u8 a1)] [] (.tup [.d (D.l 1 D.u8 r.1),.d (D.b r.2)]) []:=by
 refine oK Tryz.f144 ⟨rfl,?_⟩;unfold bytes_CutPrefix at h;refine AK h (fun _=>MI) fun _ h=>?_;refine goC ?_;refine Ad h ?_ ?_<;>intro h
 ·exact fin h
 refine⟨a1.length,X10 _,?_⟩;(conv=>whnf);refine PY (f:=D.u8) h fun _ h=>?_;exact fin h
theorem Ih {a0:JAH}{r:Bool×JAH}(h:DG a0=some r):yC wl 110 [.ref 0 0] [.box (JAH.av a0)] (.d (D.b r.1)) [.box (JAH.av r.2)]:=by
 refine oK Tryz.f110 ⟨rfl,?_⟩;unfold DG at h;refine⟨a0.attrs.length,X10 _,?_⟩;refine AN h (fun (v1,v2)=>⟨X::X::X::AV.mp 10::dd 91 ([]),yB (JAH.av v1)::nn 9 (some (OB.map 3 3 (Bw D.i D.i v2))::nn 85 ([]))⟩) ?_ ?_
 ·intro _ h;revert h;refine Ah 13 3 JAA.toD rfl (fun i4 (v5,v6)=>⟨yr 0 0::X::X::AV.mp 10::dd 9 (AV.d (D.l 3 JAA.toD a0.attrs)::yi (a0.attrs.length:Int)::yi (i4:Int)::dd 79 ([])),yB (JAH.av v5)::nn 9 (some (OB.map 3 3 (Bw D.i D.i v6))::nn 85 ([]))⟩) ?_ ?_ ?_
  ·exact wk
  ·rintro⟨v5,v6⟩ K7 h;refine goC ?_;refine BK C5 ?_;exact AQ h
  rintro _ i4 x9 ⟨v5,v6⟩ K7 b4 c4 e4 h p10;refine goC ?_;refine BJ (C0 b4) ?_;refine goC ?_;refine⟨BI (f:=JAA.toD) b4,JAA.toD x9,c4,rfl,?_⟩;obtain⟨v11,g12,h⟩:=AD h;refine⟨_,Bd (ek:=D.i) (ev:=D.i) (l:=v6) (k:=x9.Type_) BP,D.i v11,Dz (z:=0) rfl g12,_,rfl,?_⟩;refine⟨_,rfl,?_⟩;refine⟨_,Ed (ek:=D.i) (ev:=D.i) (l:=v6) (k:=x9.Type_) (v:=(AI (v11+1))) BP,?_⟩;refine⟨rfl,?_⟩;refine AK h (fun _=>MG) ?_;rintro⟨v13,_⟩ h;refine goC ?_;refine AN h (fun (v16,v17)=>⟨du v16 (a0.attrs.length:Int) (i4:Int) a0.attrs,yB (JAH.av v17)::nn 9 (some (OB.map 3 3 (Bw D.i D.i (C2 v6 x9.Type_ (AI (v11+1)))))::nn 85 ([]))⟩) ?_ ?_
  ·intro _ h;refine Ad h ?_ ?_<;>intro h
   ·refine AN h (fun v19=>⟨yr 0 0::X::X::AV.mp 10::X::X::y3 v13::dd 6 (AV.d (D.l 3 JAA.toD a0.attrs)::yi (a0.attrs.length:Int)::yi (i4:Int)::dd 38 (yb v19::dd 40 ([]))),yB (JAH.av v5)::nn 9 (some (OB.map 3 3 (Bw D.i D.i (C2 v6 x9.Type_ (AI (v11+1)))))::nn 85 ([]))⟩) ?_ ?_
    ·intro _ h;refine Br h fun h=>?_;refine⟨v13.length,X10 _,?_⟩;refine Br h fun h=>?_;(conv=>whnf);refine By h (fun _=>rfl) fun _ h=>?_;refine Br h fun h=>?_;(conv=>whnf);refine By h (fun _=>rfl) fun _ h=>?_;exact AQ h
    rintro v19 h;refine goC ?_;refine Ad h ?_ ?_<;>intro h
    ·exact fin h
    (conv=>whnf);refine MQ (f:=D.u8) h fun _ h=>?_;refine AK h (fun _=>GK) ?_;rintro⟨_,_⟩ h;(conv=>whnf);refine PY (f:=D.u8) h fun _ h=>?_;refine AK h (fun _=>ES) ?_;rintro⟨_,_⟩ h;exact AQ h
   refine AN h (fun (v35,v36)=>⟨du v35 (a0.attrs.length:Int) (i4:Int) a0.attrs,zS4 v36 v5.next.V6 v5.next.Hi v5.next.Lo v5.attrs v5.gone4 v5.new4 v5.new6::nn 9 (some (OB.map 3 3 (Bw D.i D.i (C2 v6 x9.Type_ (AI (v11+1)))))::nn 85 ([]))⟩) ?_ ?_
   ·intro _ h;refine Aj h fun h=>?_;refine AN h (fun (v38,v39)=>⟨du v38 (a0.attrs.length:Int) (i4:Int) a0.attrs,zS4 v39 v5.next.V6 v5.next.Hi v5.next.Lo v5.attrs v5.gone4 v5.new4 v5.new6::nn 9 (some (OB.map 3 3 (Bw D.i D.i (C2 v6 x9.Type_ (AI (v11+1)))))::nn 85 ([]))⟩) ?_ ?_
    ·intro _ h;refine Aj h fun h=>?_;refine AK h (fun _=>ES) ?_;rintro⟨_,_⟩ h;exact AQ h
    rintro⟨v38,v39⟩ h;exact AQ h
   rintro⟨v35,v36⟩ h;exact AQ h
  rintro⟨v16,v17⟩ h;refine goC ?_;refine Ad h ?_ ?_<;>intro h
  ·exact fin h
  refine⟨_,e4,?_⟩;exact p10 _ _ wk h
 rintro⟨v1,v2⟩ h;refine AN h (fun v44=>⟨X::X::yb v44::dd 92 ([]),yB (JAH.av v1)::nn 95 ([])⟩) ?_ ?_
 ·intro _ h;obtain⟨v46,g47,h⟩:=AD h;refine⟨_,Bd (ek:=D.i) (ev:=D.i) (l:=v2) (k:=14) BP,D.i v46,Dz (z:=0) rfl g47,_,rfl,?_⟩;refine Aj h fun h=>?_;obtain⟨v48,g49,h⟩:=AD h;refine⟨_,Bd (ek:=D.i) (ev:=D.i) (l:=v2) (k:=15) BP,D.i v48,Dz (z:=0) rfl g49,_,rfl,?_⟩;exact AQ h
 rintro v44 h;exact fin h
theorem HD {a0:JAH}{a1:List UInt8}{r:Bool×JAH}(h:CU a0 a1=some r):yC wl 58 [.ref 0 0,AV.d (D.l 1 D.u8 a1)] [.box (JAH.av a0)] (.d (D.b r.1)) [.box (JAH.av r.2)]:=by
 refine oK Tryz.f58 ⟨rfl,?_⟩;unfold CU at h;refine AK h (fun _=>LV) ?_;rintro⟨v1,_,_⟩ h;refine goC ?_;refine Ad h ?_ ?_<;>intro h
 ·exact fin h
 refine AK h (fun _=>LV) ?_;rintro⟨_,v6,_⟩ h;refine goC ?_;refine Ad h ?_ ?_<;>intro h
 ·exact fin h
 refine AK h (fun _=>ME) ?_;rintro⟨_,_⟩ h;refine AN h (fun (v12,v13)=>⟨yr 0 0::y3 v6::X::X::X::y3 v1::dd 34 (yb v12::dd 76 ([])),yB (JAH.av v13)::nn 117 ([])⟩) ?_ ?_
 ·intro _ h;refine Br h fun h=>?_;refine AK h (fun _=>Ih) ?_;rintro⟨_,_⟩ h;exact AQ h
 rintro⟨v12,v13⟩ h;refine goC ?_;refine Ad h ?_ ?_<;>intro h
 ·exact fin h
 refine AK h (fun _=>ES) ?_;rintro⟨v18,_⟩ h;refine AK h (fun _=>ES) ?_;rintro⟨v21,_⟩ h;refine AN h (fun v24=>⟨yr 0 0::dd 105 (yb v24::dd 10 ([])),yB [AV.d (D.l 3 JAA.toD v13.attrs),AV.d (D.b v13.next.V6),AV.d (D.u64 v13.next.Hi),AV.d (D.u64 v13.next.Lo),y5 v18,AV.d (D.l 4 JAC.toD v13.gone6),y5 v21,AV.d (D.l 4 JAC.toD v13.new6)]::nn 117 ([])⟩) ?_ ?_
 ·intro _ h;refine .inl (dO ?_);refine Ad h ?_ ?_<;>intro h
  ·refine cO ?_;exact AQ h
  refine Ad h ?_ ?_<;>intro h
  ·refine cO ?_;exact AQ h
  refine⟨v21.length,X10 _,?_⟩;refine Ad h ?_ ?_<;>intro h
  ·refine⟨v13.new6.length,X10 _,?_⟩;refine Ad h ?_ ?_<;>intro h
   ·refine cO ?_;exact AQ h
   refine⟨v18.length,X10 _,?_⟩;refine⟨v13.gone6.length,X10 _,?_⟩;refine⟨_,rfl,?_⟩;refine Ad h ?_ ?_<;>intro h
   ·refine cO ?_;exact AQ h
   refine⟨v21.length,X10 _,?_⟩;refine⟨v13.new6.length,X10 _,?_⟩;refine⟨_,rfl,?_⟩;refine cO ?_;exact AQ h
  refine⟨v18.length,X10 _,?_⟩;refine⟨v13.gone6.length,X10 _,?_⟩;refine⟨_,rfl,?_⟩;refine Ad h ?_ ?_<;>intro h
  ·refine cO ?_;exact AQ h
  refine⟨v21.length,X10 _,?_⟩;refine⟨v13.new6.length,X10 _,?_⟩;refine⟨_,rfl,?_⟩;refine cO ?_;exact AQ h
 rintro v24 h;refine goC ?_;refine Ad h ?_ ?_<;>intro h
 ·exact fin h
 refine AK h (fun _=>IE) ?_;rintro⟨_,_⟩ h;exact fin h
theorem Ic {a0:JAA}{a1:Int}{r:Bool×Int}(h:C9 a0 a1=some r):yC wl 126 [AV.d (JAA.toD a0),.ref 0 0] [.box [.d (D.i a1)]] (.d (D.b r.1)) [.box [.d (D.i r.2)]]:=by
 refine oK Tryz.f126 ⟨rfl,?_⟩;unfold C9 at h;exact fin h
theorem CN {a0:List JAA}{a1c0:Int}{r:Int×Int}(h:Ak a0 a1c0=some r):yC wl 147 [AV.d (D.l 3 JAA.toD a0),AV.fn 126 [.ref 0 0]] [.box [.d (D.i a1c0)]] (.d (D.i r.1)) [.box [.d (D.i r.2)]]:=by
 refine oK Tryz.f147 ⟨rfl,?_⟩;unfold Ak at h;refine⟨a0.length,X10 _,?_⟩;refine AN h (fun v1=>⟨dd 19 ([]),yB [yi v1]::nn 19 ([])⟩) ?_ ?_
 ·intro _ h;revert h;refine Ah 6 3 JAA.toD rfl (fun i3 v4=>⟨y4 a0::AV.fn 126 [yr 0 0]::dd 4 (y4 a0::yi (a0.length:Int)::yi (i3:Int)::dd 10 ([])),yB [yi v4]::nn 19 ([])⟩) ?_ ?_ ?_
  ·exact wk
  ·rintro v4 K5 h;refine goC ?_;refine BK C5 ?_;exact AQ h
  rintro _ i3 x7 v4 K5 b3 c3 e3 h p8;refine goC ?_;refine BJ (C0 b3) ?_;refine goC ?_;refine⟨BI (f:=JAA.toD) b3,JAA.toD x7,c3,rfl,?_⟩;refine AK h (fun _=>Ic) ?_;rintro⟨_,_⟩ h;refine goC ?_;refine Ad h ?_ ?_<;>intro h
  ·exact fin h
  refine⟨_,e3,?_⟩;exact p8 _ _ wk h
 rintro v1 h;exact fin h
theorem CC {a0:List JAA}{a1c0:Int}{r:Bool×Int}(h:Ai a0 a1c0=some r):yC wl 114 [AV.d (D.l 3 JAA.toD a0),AV.fn 126 [.ref 0 0]] [.box [.d (D.i a1c0)]] (.d (D.b r.1)) [.box [.d (D.i r.2)]]:=by
 refine oK Tryz.f114 ⟨rfl,?_⟩;unfold Ai at h;refine AK h (fun _=>CN) ?_;rintro⟨_,_⟩ h;exact fin h
theorem Eh {a0:JAH}{a1:Int}{r:Bool×JAH}(h:CL a0 a1=some r):yC wl 73 [.ref 0 0,AV.d (D.i a1)] [.box (JAH.av a0)] (.d (D.b r.1)) [.box (JAH.av r.2)]:=by
 refine oK Tryz.f73 ⟨rfl,?_⟩;unfold CL at h;refine AK h (fun _=>CC) ?_;rintro⟨_,_⟩ h;exact fin h
theorem Qz {a0:List UInt8}{r:Bool×Bool}(h:J1 a0=some r):yC wl 31 [AV.d (D.l 1 D.u8 a0)] [] (.tup [.d (D.b r.1),.d (D.b r.2)]) []:=by
 refine oK Tryz.f31 ⟨rfl,?_⟩;unfold J1 at h;obtain⟨_,g1,h⟩:=AD h;refine⟨XP g1 (X29 rfl),D.u8 (0:UInt8),rfl,(List.map D.u8 (List.replicate (Int.toNat 4) (0:UInt8))),List.map_replicate.symm,?_⟩;refine⟨rfl,?_⟩;refine KD h (fun _=>J9) fun _ h=>?_;refine goC ?_;refine Ad h ?_ ?_<;>intro h
 ·exact fin h
 refine AN h (fun v4=>⟨dd 48 (yb v4::[]),nn 49 ([])⟩) ?_ ?_
 ·intro _ h;obtain⟨⟨v6,v7⟩,g8,h⟩:=AD h;refine⟨_,_,some [],(HD g8).box1 ⟨.inr ⟨_,rfl,rfl⟩,.inl rfl,.inl rfl,.inl rfl,.inr ⟨_,rfl,rfl⟩,.inr ⟨_,rfl,rfl⟩,.inr ⟨_,rfl,rfl⟩,.inr ⟨_,rfl,rfl⟩,True.intro⟩,?_⟩;refine Br h fun h=>?_;refine⟨a0.length,X10 _,?_⟩;(conv=>whnf);refine PY (f:=D.u8) h fun _ h=>?_;refine AK h (fun _=>Gx) fun _ h=>?_;refine⟨_,rfl,?_⟩;refine Br h fun h=>?_;refine⟨v7.attrs.length,X10 _,?_⟩;refine Br h fun h=>?_;refine AK h (fun _=>Eh) ?_;rintro⟨_,v14⟩ h;refine Br h fun h=>?_;refine AK h (fun _=>Gx) fun _ h=>?_;refine Br h fun h=>?_;refine⟨v14.gone6.length,X10 _,?_⟩;exact AQ h
 rintro v4 h;refine goC ?_;refine Ad h ?_ ?_<;>intro h
 ·exact fin h
 exact fin h
theorem Kt {r:Bool}(h:G2=some r):yC wl 24 [] [] (.d (D.b r)) []:=by
 refine oK Tryz.f24 ⟨rfl,?_⟩;unfold G2 at h;refine .inl (dO ?_);refine A2 h (fun _=>KG) (fun _=>rfl) fun _ h=>?_;refine⟨rfl,?_⟩;refine A2 h (fun _=>Nz) (fun _=>rfl) ?_;rintro⟨v3,_⟩ h;refine cO ?_;refine⟨rfl,?_⟩;refine KD h (fun _=>Qz) ?_;rintro⟨_,_⟩ h;refine AN h (fun v9=>⟨yb v9::dd 34 ([]),nn 35 ([])⟩) ?_ ?_
 ·intro _ h;refine Aj h fun h=>?_;refine⟨v3,rfl,?_⟩;refine Aj h fun h=>?_;exact selC h
 rintro v9 h;exact fin h
theorem DD {a0:List (List JAC)}{r:(List JAC)}(h:Ax a0=some r):yC wl 59 [AV.d (D.l 1 (D.l 4 JAC.toD) a0)] [] (AV.own 0 (List.map JAC.toD r).length) [.row 41 4 (List.map JAC.toD r) .no]:=by
 refine oKx 27 Tryz.f59 ⟨rfl,?_⟩;unfold Ax at h;refine⟨a0.length,X10 _,?_⟩;refine AN h (fun v1=>⟨AV.d (D.l 1 (D.l 4 JAC.toD) a0)::X::X::yi v1::dd 32 ([]),nn 63 ([])⟩) ?_ ?_
 ·intro _ h;revert h;refine Ah 9 1 (D.l 4 JAC.toD) rfl (fun i3 v4=>⟨AV.d (D.l 1 (D.l 4 JAC.toD) a0)::X::X::yi v4::dd 5 (AV.d (D.l 1 (D.l 4 JAC.toD) a0)::yi (a0.length:Int)::yi (i3:Int)::dd 24 ([])),nn 63 ([])⟩) ?_ ?_ ?_
  ·exact wk
  ·rintro v4 K5 h;refine goC ?_;refine BK C5 ?_;exact AQ h
  rintro _ i3 x7 v4 K5 b3 c3 e3 h p8;refine goC ?_;refine BJ (C0 b3) ?_;refine goC ?_;refine⟨BI (f:=(D.l 4 JAC.toD)) b3,(D.l 4 JAC.toD) x7,c3,rfl,?_⟩;refine⟨x7.length,X10 _,?_⟩;refine⟨_,rfl,?_⟩;refine goC ?_;refine Ad h ?_ ?_<;>intro h
  ·exact nomatch h
  refine⟨_,e3,?_⟩;exact p8 _ _ wk h
 rintro v1 h;refine AN h (fun v9=>⟨AV.d (D.l 1 (D.l 4 JAC.toD) a0)::dd 23 (yO 35 JAC.toD v9::dd 11 ([])),nn 35 (yR 41 4 JAC.toD v9::nn 27 ([]))⟩) ?_ ?_
 ·intro _ h;(conv=>whnf);refine inl Tryz.f112 36 (by kernel_rfl) (by kernel_rfl) ⟨rfl,?_⟩;refine goC ?_;refine Ad h ?_ ?_<;>intro h
  ·exact nomatch h
  refine⟨_,rfl,?_⟩;refine⟨_,rfl,?_⟩;refine AN h (fun v11=>⟨yO 61 JAC.toD v11::dd 26 ([]),nn 61 (yR 41 4 JAC.toD v11::N::[])⟩) ?_ ?_
  ·intro _ h;refine Aj h fun h=>?_;(conv=>whnf);refine .inr ?_;refine⟨⟨rfl,rfl⟩,?_⟩;obtain⟨_,g13,h⟩:=AD h;refine⟨ff g13 (X29 rfl),JAC.toD (⟨(⟨false,(0:UInt64),(0:UInt64)⟩:Addr),0⟩:JAC),rfl,(List.map JAC.toD (List.replicate (Int.toNat (AI (v1-(AI (0-0))))) (⟨(⟨false,(0:UInt64),(0:UInt64)⟩:Addr),0⟩:JAC))),List.map_replicate.symm,?_⟩;(conv=>whnf);refine .inr (.inr ?_);obtain⟨v14,g15,h⟩:=AD h;refine⟨QR (f:=JAC.toD) g15,rfl,_,Lm (f:=JAC.toD) g15,?_⟩;exact AQ h
  rintro v11 h;exact B7 (.swap 61 35 rfl rfl rfl wk) h
 rintro v9 h;refine⟨a0.length,X10 _,?_⟩;refine AN h (fun v16=>⟨dd 6 (yO 35 JAC.toD v16::dd 29 ([])),nn 35 (yR 41 4 JAC.toD v16::nn 27 ([]))⟩) ?_ ?_
 ·intro _ h;revert h;refine Ah 25 1 (D.l 4 JAC.toD) rfl (fun i18 v19=>⟨dd 6 (yO 35 JAC.toD v19::dd 18 (AV.d (D.l 1 (D.l 4 JAC.toD) a0)::yi (a0.length:Int)::yi (i18:Int)::dd 8 ([]))),nn 35 (yR 41 4 JAC.toD v19::nn 27 ([]))⟩) ?_ ?_ ?_
  ·exact wk
  ·rintro v19 K20 h;refine goC ?_;refine BK C5 ?_;exact AQ h
  rintro _ i18 x22 v19 K20 b18 c18 e18 h p23;refine goC ?_;refine BJ (C0 b18) ?_;refine goC ?_;refine⟨BI (f:=(D.l 4 JAC.toD)) b18,(D.l 4 JAC.toD) x22,c18,rfl,?_⟩;refine apO (f:=JAC.toD) h rfl fun _ h=>?_;refine⟨_,e18,?_⟩;exact p23 _ _ wk h
 rintro v16 h;(conv=>whnf);refine .inl ?_;(conv=>whnf);refine .inr ?_;exact fin h
theorem IX {a0:JAA}{r:Bool}(h:B5 a0=some r):yC wl 123 [AV.d (JAA.toD a0)] [] (.d (D.b r)) []:=by
 refine oK Tryz.f123 ⟨rfl,?_⟩;unfold B5 at h;refine AN h (fun v1=>⟨X::X::yb v1::dd 14 ([]),nn 17 ([])⟩) ?_ ?_
 ·intro _ h;refine Ad h ?_ ?_<;>intro h
  ·refine⟨_,rfl,?_⟩;exact AQ h
  refine Aj h fun h=>?_;refine⟨_,rfl,?_⟩;exact AQ h
 rintro v1 h;exact fin h
theorem CM {a0:List JAA}{r:Int}(h:As a0=some r):yC wl 147 [AV.d (D.l 3 JAA.toD a0),AV.fn 123 []] [] (.d (D.i r)) []:=by
 refine oK Tryz.f147 ⟨rfl,?_⟩;unfold As at h;refine⟨a0.length,X10 _,?_⟩;refine AN h (fun _=>⟨dd 19 ([]),nn 19 ([])⟩) ?_ ?_
 ·intro _ h;revert h;refine Ah 6 3 JAA.toD rfl (fun i2 _=>⟨y4 a0::AV.fn 123 []::dd 4 (y4 a0::yi (a0.length:Int)::yi (i2:Int)::dd 10 ([])),nn 19 ([])⟩) ?_ ?_ ?_
  ·exact wk
  ·rintro _ K3 h;refine goC ?_;refine BK C5 ?_;exact AQ h
  rintro _ i2 x5 _ K3 b2 c2 e2 h p6;refine goC ?_;refine BJ (C0 b2) ?_;refine goC ?_;refine⟨BI (f:=JAA.toD) b2,JAA.toD x5,c2,rfl,?_⟩;refine AK h (fun _=>IX) fun _ h=>?_;refine goC ?_;refine Ad h ?_ ?_<;>intro h
  ·exact fin h
  refine⟨_,e2,?_⟩;exact p6 _ _ wk h
 rintro _ h;exact fin h
theorem B1 {a0:List JAA}{r:Bool}(h:Af a0=some r):yC wl 114 [AV.d (D.l 3 JAA.toD a0),AV.fn 123 []] [] (.d (D.b r)) []:=by
 refine oK Tryz.f114 ⟨rfl,?_⟩;unfold Af at h;refine AK h (fun _=>CM) fun _ h=>?_;exact fin h
theorem JV {a0:JAH}{a1:JAD}{a2:Int}{r:Bool×JAH}(h:DT a0 a1 a2=some r):yC wl 62 [.ref 0 0,AV.d (JAD.toD a1),AV.d (D.i a2)] [.box (JAH.av a0)] (.d (D.b r.1)) [.box (JAH.av r.2)]:=by
 refine oK Tryz.f62 ⟨rfl,?_⟩;unfold DT at h;refine AN h (fun (v1,v2)=>⟨dd 6 (yb v1::dd 35 ([])),yB (JAH.av v2)::nn 42 ([])⟩) ?_ ?_
 ·intro _ h;refine Br h fun h=>?_;refine AK h (fun _=>B1) fun _ h=>?_;refine Br h fun h=>?_;refine AK h (fun _=>Eh) ?_;rintro⟨_,_⟩ h;refine Br h fun h=>?_;refine AK h (fun _=>Eh) ?_;rintro⟨_,v10⟩ h;refine Br h fun h=>?_;refine⟨v10.new4.length,X10 _,?_⟩;exact selC h
 rintro⟨v1,v2⟩ h;exact fin h
theorem OW {a0:List UInt8}{r:JAG×Int}(h:Fb a0=some r):yC wl 29 [AV.d (D.l 1 D.u8 a0)] [] (.tup [.d (JAG.toD r.1),.d (D.i r.2)]) []:=by
 refine oK Tryz.f29 ⟨rfl,?_⟩;unfold Fb at h;obtain⟨⟨v1,v2⟩,g3,h⟩:=AD h;refine⟨_,_,some [],(HD g3).box1 ⟨.inr ⟨_,rfl,rfl⟩,.inl rfl,.inl rfl,.inl rfl,.inr ⟨_,rfl,rfl⟩,.inr ⟨_,rfl,rfl⟩,.inr ⟨_,rfl,rfl⟩,.inr ⟨_,rfl,rfl⟩,True.intro⟩,?_⟩;refine goC ?_;refine Ad h ?_ ?_<;>intro h
 ·exact fin h
 refine .inl (dO ?_);refine⟨rfl,?_⟩;refine Xh h (fun _=>DD) rfl fun v4 h=>?_;refine A2 h (fun _=>MK) (fun _=>rfl) fun v6 h=>?_;refine cO ?_;refine .inl (dO ?_);refine⟨rfl,?_⟩;refine Xh h (fun _=>DD) rfl fun v8 h=>?_;refine cO ?_;refine⟨v8.length,DK,?_⟩;refine goC ?_;refine Ad h ?_ ?_<;>intro h
 ·refine⟨rfl,?_⟩;exact fin h
 refine AK h (fun _=>IE) ?_;rintro⟨_,_⟩ h;refine AK h (fun _=>JV) ?_;rintro⟨_,v14⟩ h;refine goC ?_;refine Ad h ?_ ?_<;>intro h
 ·refine⟨rfl,?_⟩;refine apO (f:=JAC.toD) h rfl fun _ h=>?_;refine⟨rfl,?_⟩;exact fin h
 refine⟨v14.new6.length,X10 _,?_⟩;refine AN h (fun v18=>⟨X::X::yr 2 0::X::X::yr 5 0::yO 37 JAC.toD v8::yr 7 0::dd 68 ([]),N::N::yB JAG.zv::N::N::yB [yO 25 JAC.toD v4,AV.d (D.i v6.Origin),AV.d (D.l 2 JAE.toD v6.Path),AV.d (D.b v6.Next.V6),AV.d (D.u64 v6.Next.Hi),AV.d (D.u64 v6.Next.Lo),AV.d (D.i v6.MED),AV.d (D.i v6.Pref),AV.d (D.i v6.OTC),AV.d (D.l 2 JAB.toD v6.Communities),AV.d (D.l 3 JAF.toD v6.JAF),AV.d (D.l 3 JAA.toD v6.Other),AV.d (D.nil 4)]::N::yB (JAD.av v18)::nn 17 (yR 41 4 JAC.toD v4::nn 11 (yR 41 4 JAC.toD v8::nn 38 ([])))⟩) ?_ ?_
 ·intro _ h;exact selC h
 rintro v18 h;refine⟨rfl,?_⟩;refine⟨rfl,?_⟩;exact fin h
theorem Np {a0:List JAC}{a1:List JAC}{r:Bool}(h:E1 a0 a1=some r):yC wl 37 [AV.d (D.l 4 JAC.toD a0),AV.d (D.l 4 JAC.toD a1)] [] (.d (D.b r)) []:=by
 refine oK Tryz.f37 ⟨rfl,?_⟩;unfold E1 at h;refine⟨a0.length,X10 _,?_⟩;refine⟨a1.length,X10 _,?_⟩;refine goC ?_;refine Ad h ?_ ?_<;>intro h
 ·exact fin h
 refine⟨a0.length,X10 _,?_⟩;refine AN h (fun _=>⟨dd 26 ([]),nn 26 ([])⟩) ?_ ?_
 ·intro _ h;revert h;refine Ah 12 4 JAC.toD rfl (fun i2 _=>⟨X::y5 a1::dd 10 (y5 a0::yi (a0.length:Int)::yi (i2:Int)::dd 11 ([])),nn 26 ([])⟩) ?_ ?_ ?_
  ·exact wk
  ·rintro _ K3 h;refine goC ?_;refine BK C5 ?_;exact AQ h
  rintro _ i2 x5 _ K3 b2 c2 e2 h p6;refine goC ?_;refine BJ (C0 b2) ?_;refine goC ?_;refine⟨BI (f:=JAC.toD) b2,JAC.toD x5,c2,rfl,?_⟩;refine .inl (dO ?_);(conv=>whnf);refine By h (fun _=>rfl) fun _ h=>?_;refine cO ?_;refine goC ?_;refine Ad h ?_ ?_<;>intro h
  ·exact fin h
  refine⟨_,e2,?_⟩;exact p6 _ _ wk h
 rintro _ h;exact fin h
end Go.AX.Q19
end
section
namespace Go.AX.Q19
open Go Go.AX Go.Proofs
def UR:FuncId->Bool:=fun f=>(match Nat.beq f 49 with | true=>true | false=>(match Nat.beq f 18 with | true=>true | false=>T0 f))
theorem eX {wl:Prop}{f:FuncId}(ex:Nat)(fn:Func){args:List AV}{objs:List OB}{res:AV}{objs':List OB}
  (hf : Tryz.prog.funcs[f]? = some fn) (hn : (fn.name == "runtime.NumGoroutine") = false) (h : XQ (mcx (Wl wl) Tryz.prog tt keep UR ex objs.length) fn args objs fun r o => r = res ∧ o = objs') : CallsOK (Wl wl) Tryz.prog f args objs res objs' :=
 bC U7 (by kernel_rfl) keep UR ex hf hn h
theorem ch {wl:Prop}{f:FuncId}(fn:Func)(np:Nat){args:List AV}{ob:List (Option OB)}{K:AV->List (Option OB)->Prop}
  (hf : Tryz.prog.funcs[f]? = some fn) (hn : (fn.name == "runtime.NumGoroutine") = false) (h : cD (mcx (Wl wl) Tryz.prog tt keep UR 0 np) fn args ob K) : Vq (Wl wl) Tryz.prog f args ob K :=
 Z1 U7 (by kernel_rfl) keep UR np hf hn h
end Go.AX.Q19
end
section
namespace Go.AX.Q19
open Go Go.AX Go.Proofs
variable {wl:Prop}
theorem law19_UpdateBroken_ok {a0:List Int}{r:Bool}(h:Cj a0=some r):yC wl 7 [AV.d (D.l 1 D.i a0)] [] (.d (D.b r)) []:=by
 refine eX 55 Tryz.f7 (by kernel_rfl) (by kernel_rfl) ⟨rfl,?_⟩;unfold Cj at h;refine O7 [10] h (fun _=>VZ) fun _ h=>?_;refine AK h (fun _=>LS) ?_;rintro⟨v3,v4⟩ h;refine⟨v3.Announce.length,X10 _,?_⟩;refine goC ?_;refine Ad h ?_ ?_<;>intro h
 ·refine AK h (fun _=>Kt) fun _ h=>?_;exact fin h
 refine AN h (fun (v8,v9)=>⟨X::X::X::yr 3 0::dd 15 (AV.tup [yO 103 D.u8 v9,yi v8]::dd 84 ([])),N::N::N::yB (JAG.av v3)::nn 99 (yR 5 1 D.u8 v9::nn 55 ([]))⟩) ?_ ?_
 ·intro _ h;(conv=>whnf);refine ch Tryz.f18 104 (by kernel_rfl) (by kernel_rfl) ⟨rfl,?_⟩;refine AK h (fun _=>Jh) fun _ h=>?_;refine goC ?_;refine Br h fun h=>?_;refine AN h (fun (v13,v14)=>⟨dd 11 (AV.tup [yO 118 D.u8 v14,yb v13]::X::X::X::[]),N::N::N::yB (JAG.av v3)::nn 6 (yB (JAI.av v4)::nn 107 (yR 5 1 D.u8 v14::nn 40 ([])))⟩) ?_ ?_
  ·intro _ h;(conv=>whnf);refine ch Tryz.f49 119 (by kernel_rfl) (by kernel_rfl) ⟨rfl,?_⟩;refine AK h (fun _=>Kx) fun _ h=>?_;refine AK h (fun _=>IH) ?_;rintro⟨v18,_⟩ h;refine AK h (fun _=>FV) fun v21 h=>?_;refine⟨v21.length,X10 _,?_⟩;refine O7 [138] h (fun _=>IR) fun _ h=>?_;refine apO (f:=D.u8) h rfl fun _ h=>?_;refine⟨v18.length,X10 _,?_⟩;refine AK h (fun _=>LW) fun _ h=>?_;refine apO (f:=D.u8) h rfl fun _ h=>?_;refine AK h (fun _=>HN) fun v31 h=>?_;refine AN h (fun v33=>⟨X::X::yO 138 D.u8 v31::yb v33::dd 36 ([]),N::N::N::yB (JAG.av v3)::nn 6 (yB (JAI.av v4)::nn 94 (yB (JAG.av v3)::some (OB.row 5 1 (List.map D.u8 []) .no)::nn 31 (yR 5 1 D.u8 v31::nn 20 ([]))))⟩) ?_ ?_
   ·intro _ h;refine Aj h fun h=>?_;refine⟨v31.length,DK,?_⟩;exact AQ h
   rintro v33 h;exact B7 (.swap 138 118 rfl rfl rfl wk) h
  rintro⟨v13,v14⟩ h;exact B7 (.swap 118 103 rfl rfl rfl wk) h
 rintro⟨v8,v9⟩ h;refine AN h (fun v35=>⟨X::X::X::yr 3 0::yO 103 D.u8 v9::dd 23 (yb v35::dd 75 ([])),N::N::N::yB (JAG.av v3)::nn 99 (yR 5 1 D.u8 v9::nn 55 ([]))⟩) ?_ ?_
 ·intro _ h;refine Br h fun h=>?_;refine⟨v9.length,DK,?_⟩;exact AQ h
 rintro v35 h;refine goC ?_;refine Ad h ?_ ?_<;>intro h
 ·exact fin h
 refine .inl (dO ?_);obtain⟨v37,g38,h⟩:=AD h;refine⟨rfl,BN (f:=D.u8) g38,?_⟩;refine⟨rfl,D.u8 v37,(BS (f:=D.u8) g38),?_⟩;refine⟨_,EK v37,?_⟩;refine⟨by decide,_,rfl,?_⟩;obtain⟨v39,g40,h⟩:=AD h;refine⟨rfl,BN (f:=D.u8) g40,?_⟩;refine⟨rfl,D.u8 v39,(BS (f:=D.u8) g40),?_⟩;refine⟨_,EK v39,?_⟩;refine⟨_,rfl,?_⟩;refine cO ?_;refine AN h (fun v41=>⟨X::X::X::yr 3 0::yO 103 D.u8 v9::X::AV.d (D.i (AI ((BitVec.ofInt 64 (AI ((v37.toNat:Int)*(2^(min (Int.toNat 8) 64)))) ||| BitVec.ofInt 64 (v39.toNat:Int)).toNat:Int)))::dd 52 (yb v41::dd 44 ([])),N::N::N::yB (JAG.av v3)::nn 99 (yR 5 1 D.u8 v9::nn 55 ([]))⟩) ?_ ?_
 ·intro _ h;refine⟨v9.length,DK,?_⟩;refine⟨_,rfl,?_⟩;refine Br h fun h=>?_;refine⟨_,rfl,?_⟩;obtain⟨v43,g44,h⟩:=AD h;refine⟨rfl,BN (f:=D.u8) g44,?_⟩;refine⟨rfl,D.u8 v43,(BS (f:=D.u8) g44),?_⟩;refine Br h fun h=>?_;refine⟨_,rfl,?_⟩;obtain⟨v45,g46,h⟩:=AD h;refine⟨rfl,BN (f:=D.u8) g46,?_⟩;refine⟨rfl,D.u8 v45,(BS (f:=D.u8) g46),?_⟩;exact AQ h
 rintro v41 h;refine goC ?_;refine Ad h ?_ ?_<;>intro h
 ·exact fin h
 refine⟨_,rfl,?_⟩;obtain⟨v47,g48,h⟩:=AD h;refine⟨rfl,BN (f:=D.u8) g48,?_⟩;obtain⟨v49,g50,h⟩:=AD h;have g50l:=Hr g50;refine⟨rfl,rfl,D.u8 v47,(BS (f:=D.u8) g48),?_⟩;refine⟨_,L9 (f:=D.u8) g50,?_⟩;refine⟨DK,?_⟩;refine AK h (fun _=>OW) ?_;rintro⟨v51,_⟩ h;refine AN h (fun v54=>⟨X::X::yb v54::dd 101 ([]),nn 159 ([])⟩) ?_ ?_
 ·intro _ h;refine .inl (dO ?_);refine Ad h ?_ ?_<;>intro h
  ·refine⟨v51.Announce.length,X10 _,?_⟩;refine Ad h ?_ ?_<;>intro h
   ·refine⟨v51.Withdraw.length,X10 _,?_⟩;refine⟨v3.Withdraw.length,X10 _,?_⟩;refine⟨v3.Announce.length,X10 _,?_⟩;refine⟨_,rfl,?_⟩;refine Ad h ?_ ?_<;>intro h
    ·refine⟨v3.Withdraw.length,X10 _,?_⟩;(conv=>whnf);refine PY (f:=JAC.toD) h fun _ h=>?_;refine A2 h (fun _=>Np) (fun _=>rfl) fun _ h=>?_;refine Ad h ?_ ?_<;>intro h
     ·refine A2 h (fun _=>Kt) (fun _=>rfl) fun _ h=>?_;refine cO ?_;exact AQ h
     refine cO ?_;exact AQ h
    refine cO ?_;exact AQ h
   refine cO ?_;exact AQ h
  refine cO ?_;exact AQ h
 rintro v54 h;exact fin h
end Go.AX.Q19
end
