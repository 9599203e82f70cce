/-
  Texts of one proof, packed.
-/
import Derived.Test.YthbbpeeghmpcfaaGreatDoorR15
import Derived.Test.YthbbpeeghmpcfaaGreatDoorR16
import Derived.Test.YthbbpeeghmpcfaaGreatDoorR18
import Derived.Test.YthbbpeeghmpcfaaGreatDoorR34
import Derived.Test.YthbbpeeghmpcfaaGreatDoorR8
import Derived.IntWalk
import Derived.Shelf.SlSortCmp.NoneTotal
import Derived.Shelf.SortM.Plain
import Derived.Shelf.SortM.SortNone
set_option linter.all false
set_option maxRecDepth 100000
set_option maxHeartbeats 4000000
open List renaming length_map→X1,length_append→X2,getElem?_eq_getElem→X12,length_drop→X14,length_take→X15,length_replicate→X17,length_set→X18
open Option.some renaming injEq→X21,inj→X22
open Prod.mk renaming injEq→X23
open Nat renaming mul_le_mul_right→X28,add_mul→X29
open Option renaming none→Xan
open Int renaming toNat→Xa0
open List renaming map→Xa5,replicate→Xaa,take→Xb7,drop→Xb8,range→Xbu
open Go renaming undef→Xck,Program→Xdn
open Go.Proofs.Tryz renaming prog→Xcc,underlying3→Xdv
open Array renaming range→Xcv
section
namespace Go.AX
open Go.Proofs Go.Sort Go.Shelf Go.RowKit
def rE {F:Array A}{v u:A}(J:F.size=2)(h:F.getD 0 Xck=v)(H:F.getD 1 Xck=u):F=#[v,u]:=by
 match F,J with
 | ⟨[a,b]⟩,_=>simp at h H;rw[h,H]
def IK {α:Type}[Inhabited α](enc:α->O A)(k:Nat)(w:B)(F off n:Nat)(d:Array α)(os:Array Obj)(J:F<w.heap.size) : (∀b,b<w.heap.size->b≠F->(sortWorldK enc k w F off n d os).heap[b]?=w.heap[b]?)/\w.heap.size<=(sortWorldK enc k w F off n d os).heap.size/\ (∀vs e fr,w.heap[F]?=some (.cells vs e fr)->(sortWorldK enc k w F off n d os).heap[F]?=some (.cells (putCells id off (flatK enc k d) vs) e fr))/\ (sortWorldK enc k w F off n d os).os=w.os/\(sortWorldK enc k w F off n d os).output=w.output/\(sortWorldK enc k w F off n d os).tape=w.tape/\w.drawn<=(sortWorldK enc k w F off n d os).drawn:=by
 have H:(sortWorldK enc k w F off n d os).heap=(w.heap.modify F (onCells (putCells id off (flatK enc k d))))++os:=rfl;refine⟨λb K M=>?_,?_,λvs e fr h=>?_,rfl,rfl,rfl,Nat.le_add_right _ _⟩
 ·rw[H,Xbm (by simpa using K),Array.getElem?_modify,Xa1 (Ne.symm M)]
 ·rw[H];simp
 rw[H,Xbm (by simpa using J),Array.getElem?_modify,Xa2 rfl,h];rfl
def ru {W w':B}(P :∀b,b<W.heap.size->w'.heap[b]?=W.heap[b]?)(sz:W.heap.size<=w'.heap.size)(os:w'.os=W.os)(F:w'.output=W.output)(tape:w'.tape=W.tape)(dr:W.drawn<=w'.drawn) : ∃q K,w'=grow (W.drewN q) K:=by
 refine⟨w'.drawn-W.drawn,w'.heap.extract W.heap.size w'.heap.size,?_⟩;obtain⟨J,Z,Q,o1,u1⟩:=w';obtain⟨H,t2,U,o2,u2⟩:=W;simp only at P sz os F tape dr;subst os F tape;have M:J=H++J.extract H.size J.size:=by
  apply Array.ext_getElem?;intro i;by_cases V:i<H.size
  ·rw[Xbm V];exact P i V
  rw[Array.getElem?_append_right (by omega),Array.getElem?_extract];by_cases Y:i<J.size
  ·rw[Xa2 (by omega),show H.size+(i-H.size)=i by omega]
  rw[Xa1 (by omega),Array.getElem?_eq_none (by omega)]
 have hd:Q=U+(Q-U):=by omega
 unfold grow World.drewN;simp only;congr 1
def Sr {wl:WL}{P:Xdn}{ρ:Ren}{X:Type}{f:X->D}{cmp:X->X->C Int}{g k e:Nat}(L:SlLaysF0.n6 P ρ)(hf:uO P (ρ.f 6))(aE :∀w,(isAgg (ρ.t 24)).run P w=.ok true w)(zE :∀w,(Go.sizeOf (ρ.t 24)).run P w=.ok k w) (eg :∀args w,(callFunc g args).run P w=.ok (.enter g args) w) (ay :∀x,(f x).isAgg=true) (az :∀{a b r},cmp a b=some r->xV wl.low P g [.d (f a),.d (f b)] [] (.i r) []) {l r:O X} (h:Gf cmp l=some r):xV wl P (ρ.f 6) [.own 0 (Xa5 f l).length,.fn g []] [.row e k (Xa5 f l) .no] (.Ca []) [.row e k (Xa5 f r) .no]:=by
 refine⟨hf,λw S φ gb hg al hs hr hn m=>?_⟩;have r0:=(hr 0 (by simp)).1;have r1:=(hr 1 (by simp)).1;simp only[Xbg,List.getElem_cons_succ] at r0 r1;have hv:=rE hs rfl rfl;generalize al.getD 0 Xck=v0 at r0 hv;generalize al.getD 1 Xck=v1 at r1 hv;cases r1 with|fn _ _ bl _ bm _ _=>
 obtain rfl:bl=#[]:=Array.eq_empty_of_size_eq_zero (by simpa using bm);cases r0 with|own _ _ _ kk c a0 bn a8 h1 hb=>
 have ap:zo [OB.row e k (Xa5 f l) .no] 0=some (.row e k (Xa5 f l) .no):=rfl;obtain⟨_,aa⟩:=h1 _ _ _ _ ap;have aa:=aa rfl;have ba:=m.obj 0 _ ap;obtain⟨g0,g1,g2,g3⟩:=ba;have bo :∀r',zo [OB.row e k (Xa5 f r') .no]=zg (zo [OB.row e k (Xa5 f l) .no]) 0 (some (.row e k (Xa5 f r') .no)):=by
  intro r';funext q;match q with
  | 0=>simp[zo]
  | q+1=>simp[zo,zg]
 by_cases hl:0<l.length;rotate_left
 ·
  have bp:l=[]:=Xag (by omega);subst bp;obtain⟨hp,_⟩:=N6 h;obtain rfl:r=[]:=hp.eq_nil;obtain⟨p,F,bq⟩ :∃p F,v0=.slice p 0 F:=by rw[bn,a8];exact⟨_,_,rfl⟩
  rw[hv,bq];refine (AnyF.slices_SortFunc_none L p F _ w).mono λe' w' ⟨he,hw⟩=>⟨_,he,S,φ,hw▸m,hw▸.refl _ _ _ _,.Ca [] #[] (λ_=>Xck) rfl (λi H=>by simp at H) (λi H=>by simp at H),λq hq=>by simp[AV.refs,AV.refs.refsL] at hq⟩
 rcases g3 with ⟨_,an⟩|⟨b,F,vs,f0,f1,f2,f3,f4,f5,f6,f7,f8⟩
 ·simp at an;subst an;simp at hl
 obtain⟨bb,bc⟩:=WG h hl;have af:Wb cmp l=true:=by
  unfold Gf at h;split at h
  ·assumption
  simp at h
 obtain⟨ao,bk,_⟩:=Pv af hl;have bd:v0=.slice (some ⟨b,F.2,none⟩) l.length F.1:=by
  rcases aa with ⟨Y,_⟩|⟨K,c5,Y,aq⟩
  ·rw[f1] at Y;simp at Y
  rw[f1] at Y;simp only[X21,X23] at Y;obtain⟨rfl,rfl⟩:=Y;rw[aq];simp
 have ag:=(m.ow 0 b F (by simp[zo]) f1).1;let Z:Nat->Nat:=λi=>min i (l.length-1);have ah :∀i,Z i<l.length:=λi=>by simp only[Z];omega
 let J:Nat->O A:=λi=>(Xbu k).map λj=>f0 (Z i) j;have ar :∀x,(J x).length=k:=λx=>by simp[J]
 have M :∀i (H:i<l.length),(f l[i]).cells.length=k:=λi H=>by have:=g1 i (by simpa using H);simpa using this
 have a6 :∀i (H:i<l.length) j (Q:j<k),∃hj':j<(f l[i]).cells.length,zf S w ((f l[i]).cells[j]'hj') (f0 i j)/\((f l[i]).cells[j]'hj').isAgg=false:=by
  intro i H j Q;have hj':j<(f l[i]).cells.length:=by rw[M i H];exact Q
  refine⟨hj',?_,?_⟩
  ·have:=f7 i (by simpa using H) j (by simpa using hj');simpa using this
  have:=g2 i (by simpa using H) j (by simpa using hj');simpa using this
 have be :∀x,∀v∈J x,v.oneCell'=true:=by intro x v hv;obtain⟨j,Q,rfl⟩:=Xau.1 hv;obtain⟨hj',h2,h3⟩:=a6 (Z x) (ah x) j (by simpa using Q);exact h2.one h3
 have ab :∀(d:Array Nat) t,t<d.size*k->(flatK J k d)[t]! = f0 (Z d[t/k]!) (t%k):=by intro d t ht;have a8:0<k:=g0;rw[get_flatK _ _ _ _ ht];have:=Xeu t a8;simp[J,this]
 have hH:HoldsK J k w b F.2 (Xcv l.length):=by
  intro t ht;have br:t<l.length*k:=by simpa using ht
  have a8:0<k:=g0;have hq:t/k<l.length:=Nat.div_lt_of_lt_mul (by rwa [Xc6]);rw[ab _ t (by simpa using br)];have h1:(Xcv l.length)[t/k]! = t/k:=by simp[hq]
  have h2:Z (t/k)=t/k:=by simp only[Z];omega
  have h3:=f6 (t/k) (t%k) (by simpa using hq) (Xeu t a8);have h4:t/k*k+t%k=t:=by rw[Xc6];exact Nat.div_add_mod t k
  rw[h4] at h3;rw[h1,h2];refine⟨?_,?_⟩
  ·simp only[World.cell?,f2,id];exact h3
  simp[World.frozen?,f2]
 have au :∀(n:Nat) (d:Array Nat) (os:Array Obj),PQ S w S (sortWorldK J k w b F.2 n d os):=by intro n d os K o hS;obtain⟨h1,_⟩:=IK J k w b F.2 n d os ag;have bu:K≠b:=λhe=>f8.1 o (by simp) (he▸hS);exact⟨hS,CL (h1 K (m.bS K o hS) bu) o⟩
 have ae :∀{W:B},PQ S w S W->∀i (H:i<l.length),zf S W (f l[i]) (.agg ((Xbu k).map λj=>f0 i j).toArray):=by
  intro W hK i H;have ha:=ay l[i];cases U:f l[i] with
  | agg cs=>
   have ai:cs.length=k:=by have:=M i H;rw[U] at this;exact this
   refine .agg cs _ (λj=>f0 i j) (by simp[ai]) (λj Q=>by simp[ai▸Q]) (λj Q=>?_) λj Q=>?_
   ·obtain⟨hj',_,h3⟩:=a6 i H j (ai▸Q);simp only[U,D.cells] at h3;exact h3
   obtain⟨hj',h2,_⟩:=a6 i H j (ai▸Q);simp only[U,D.cells] at h2;exact h2.mono hK
  | val v=>rw[U] at ha;simp[D.isAgg] at ha
  | nil sz=>rw[U] at ha;simp[D.isAgg] at ha
  | Cg sz es=>rw[U] at ha;simp[D.isAgg] at ha
 have bw :∀x,∃(H:Z x<l.length),J x=(Xbu k).map λj=>f0 (Z x) j:=λx=>⟨ah x,rfl⟩;have ax:CmpLays P g #[] J k (RT cmp l) b F.2 (Xcv l.length).size w:=by
  intro q os dk c6 x y;obtain⟨w1,w2,w3,w4,w5,w6,w7⟩:=IK J k w b F.2 q dk os ag;have hK:=au q dk os;generalize hW:sortWorldK J k w b F.2 q dk os=W at *;have hx:=ah x;have hy:=ah y;obtain⟨c1,_⟩:=QX af;obtain⟨rr,bf⟩:=c1 l[Z x] (Xad hx) l[Z y] (Xad hy);have bx:RT cmp l x y=rr:=by have e1:SM l x=some l[Z x]:=X12 hx;have e2:SM l y=some l[Z y]:=X12 hy;unfold RT;rw[e1,e2];simp[bf]
  have aj :∀r,zo [] r=none:=λr=>by simp[zo]
  have bz:GS wl.low gb (Jo (λ_:Nat=>(none:C (Nat×Rp))) ([]:O OB).length) S W:=by
   have e :∀K,gb K->W.heap[K]?=w.heap[K]?:=λK V=>w1 K (hg.lt K V) λhe=>hg.pb K V ⟨0,F,by simp,he▸f1⟩;refine⟨wl.ext _ _ _ e hg.gf,λK V=>Xb4 (hg.lt K V) w2,?_,λK o V hc=>hg.st K o V ?_⟩
   ·rintro K V ⟨r,c,h1,_⟩;simp at h1
   rw[<- CL (e K V) o];exact hc
  refine ((az bf).2 W S (λ_=>none) gb bz (#[.agg (J x).toArray,.agg (J y).toArray]++#[]) (by simp) (λi H=>?_) (λ_ _=>rfl) ⟨λr o ho=>by rw[aj] at ho;simp at ho,λr _ _ _ _ hr=>absurd (aj r) hr,λr o ho=>by rw[aj] at ho;simp at ho,λ_ _ h=>h,λ_ _ _=>rfl,λK o hS=>Xb4 (m.bS K o hS) w2,λ_ _ h _ _=>h,λ_ _ _=>rfl,Xak _,λr _ _ hr=>absurd (aj r) hr,⟨rfl,rfl,rfl,.inr (Xak _)⟩⟩).mono λe' w' he=>?_
  ·refine⟨?_,?_⟩
   ·match i,H with
    | 0,_=>exact .d _ _ (ae hK (Z x) hx)
    | 1,_=>exact .d _ _ (ae hK (Z y) hy)
   match i,H with
   | 0,_=>exact A0 _ _
   | 1,_=>exact A0 _ _
  obtain⟨v,rfl,S',φ',mm,_,aq,_⟩:=he;refine⟨by rw[aq.int,bx],?_⟩;have c0 :∀K,¬ Jo (λ_:Nat=>(none:C (Nat×Rp))) ([]:O OB).length K:=by rintro K ⟨r,c,h1,_⟩;simp at h1
  refine ru (λK V=>mm.fr K V (c0 K)) mm.sz mm.os.1 mm.os.2.1 mm.os.2.2.1 ?_;rcases mm.os.2.2.2 with h|h
  ·exact h.elim
  exact h
 have hc:=AnyQ.slices_SortFunc_eq L k aE zE J ar be (RT cmp l) (fD af hl) g #[] b F.2 F.1 (Xcv l.length) w eg ax hH ag (by
  have:=(QX af).2.2.2.2
  simp;omega)
 rw[hv,bd];have bg:(Xcv l.length).size=l.length:=by simp
 rw[bg] at hc;refine hc.mono λe' w' ⟨he,n,os,hw⟩=>?_;have hd:pdq (ltOf (RT cmp l)) (Xcv l.length) 0 l.length (Lib.bitLen l.length) true true=HQ cmp l:=rfl;rw[hd] at hw;obtain⟨w1,w2,w3,w4,w5,w6,w7⟩:=IK J k w b F.2 n (HQ cmp l) os ag;rw[<- hw] at w1 w2 w3 w4 w5 w6 w7;have bh:=w3 _ _ _ f2;have ak :∀i (H:i<r.length),∃(hp:(HQ cmp l)[i]!<l.length),r[i]=l[(HQ cmp l)[i]!]:=by intro i H;obtain⟨p1,p2⟩:=bc i (by omega);rw[X12 H,X12 p1] at p2;exact⟨p1,X22 p2⟩
 obtain⟨m2,k2⟩:=m.Mk (es':=Xa5 f r) (cur':=putCells id F.2 (flatK J k (HQ cmp l)) vs) (w':=w') ap f1 f2 (by simp[bb])
  (λi H=>by
   have a7:i<r.length:=by simpa using H
   obtain⟨hp,he⟩:=ak i a7;simp only[Xb6,he]
   exact M _ hp)
  (λi H j Q=>by
   have a7:i<r.length:=by simpa using H
   obtain⟨hp,he⟩:=ak i a7;simp only[Xb6,he] at Q⊢;obtain⟨hj',_,h3⟩:=a6 _ hp j (by rw[M _ hp] at Q;exact Q)
   exact h3)
  bh (by simp[putCells]) (λK h1 h2=>w1 K h1 h2) w2 ⟨w4,w5,w6,w7⟩ (λi j=>f0 (HQ cmp l)[i]! j)
  (λi j H Q=>by
   have a7:i<r.length:=by simpa using H
   obtain⟨hp,he⟩:=ak i a7;have c3:i<l.length:=by omega
   have c4:i*k+j<l.length*k:=by have:=X28 k (show i+1<=l.length from c3);rw[X29,Nat.one_mul] at this;omega
   have bi:F.2+(i*k+j)<vs.size:=by
    have h3:l.length<=F.1:=by simpa using f3
    have:=X28 k h3;omega
   have e1:(i*k+j)/k=i:=by rw[Xc6,Nat.mul_add_div g0,Xee Q,Xcy]
   have e2:(i*k+j)%k=j:=by rw[Xc6,Nat.mul_add_mod,Xbf Q]
   have U:=ab (HQ cmp l) (i*k+j) (by rw[ao];exact c4);rw[e1,e2] at U;have bj:Z (HQ cmp l)[i]! = (HQ cmp l)[i]!:=by simp only[Z];omega
   rw[bj] at U;simp only[putCells,Array.getElem?_mapIdx,Array.getElem?_eq_getElem bi,Xcb];rw[Xa2 ⟨by omega,by rw[size_flatK,ao];omega⟩,show F.2+(i*k+j)-F.2=i*k+j by omega,U]
   rfl)
  (λi H j Q=>by
   have a7:i<r.length:=by simpa using H
   obtain⟨hp,he⟩:=ak i a7;simp only[Xb6,he] at Q⊢;obtain⟨hj',h2,_⟩:=a6 _ hp j (by rw[M _ hp] at Q;exact Q)
   exact h2)
 rw[<- bo r] at m2 k2;exact⟨_,he,S,φ,m2,k2,.Ca [] #[] (λ_=>Xck) rfl (λi H=>by simp at H) (λi H=>by simp at H),λq hq=>by simp[AV.refs,AV.refs.refsL] at hq⟩
def YU {α:Type}[Inhabited α](enc:α->A)(w:B)(F off n:Nat)(d:Array α)(os:Array Obj)(J:F<w.heap.size) : (∀b,b<w.heap.size->b≠F->(grow (putRow enc (Sort.ahead w n) F off d) os).heap[b]?=w.heap[b]?)/\w.heap.size<=(grow (putRow enc (Sort.ahead w n) F off d) os).heap.size/\ (∀vs e fr,w.heap[F]?=some (.cells vs e fr)->(grow (putRow enc (Sort.ahead w n) F off d) os).heap[F]?=some (.cells (putCells enc off d vs) e fr))/\ (grow (putRow enc (Sort.ahead w n) F off d) os).os=w.os/\(grow (putRow enc (Sort.ahead w n) F off d) os).output=w.output/\(grow (putRow enc (Sort.ahead w n) F off d) os).tape=w.tape/\w.drawn<=(grow (putRow enc (Sort.ahead w n) F off d) os).drawn:=by
 have H:(grow (putRow enc (Sort.ahead w n) F off d) os).heap=(w.heap.modify F (onCells (putCells enc off d)))++os:=rfl;refine⟨λb K M=>?_,?_,λvs e fr h=>?_,rfl,rfl,rfl,Nat.le_add_right _ _⟩
 ·rw[H,Xbm (by simpa using K),Array.getElem?_modify,Xa1 (Ne.symm M)]
 ·rw[H];simp
 rw[H,Xbm (by simpa using J),Array.getElem?_modify,Xa2 rfl,h];rfl
def oC {wl:WL}{P:Xdn}{ρ:Ren}{e:Nat}(L:SlLaysM.n5 P ρ)(hf:uO P (ρ.f 5)){l r:O Int}(h:NQ l=some r) : xV wl P (ρ.f 5) [.own 0 (Xa5 D.i l).length] [.row e 1 (Xa5 D.i l) .no] (.Ca []) [.row e 1 (Xa5 D.i r) .no]:=by
 unfold NQ at h;split at h;rotate_left
 ·simp at h
 rename_i zx;obtain rfl:=X22 h;refine⟨hf,λw S φ gb hg J hs hr hn m=>?_⟩;have r0:=(hr 0 (by simp)).1;simp only[Xbg] at r0;generalize hv:J.getD 0 Xck=v0 at r0;have hv:J=#[v0]:=by
  match J,hs with
  | ⟨[a]⟩,_=>simp at hv;rw[hv]
 cases r0 with|own _ _ _ kk c a0 ag ah h1 hb=>
 have Q:zo [OB.row e 1 (Xa5 D.i l) .no] 0=some (.row e 1 (Xa5 D.i l) .no):=rfl;obtain⟨_,K⟩:=h1 _ _ _ _ Q;have K:=K rfl;obtain⟨g0,g1,g2,g3⟩:=m.obj 0 _ Q;have aa :∀r',zo [OB.row e 1 (Xa5 D.i r') .no]=zg (zo [OB.row e 1 (Xa5 D.i l) .no]) 0 (some (.row e 1 (Xa5 D.i r') .no)):=by
  intro r';funext q;match q with
  | 0=>simp[zo]
  | q+1=>simp[zo,zg]
 have none :∀(p:C Addr) (F:Nat),v0=.slice p 0 F->l=[]->Calls P (ρ.f 5) J w λe' w'=>∃v,e'=.returned v/\∃S' φ',Mem ⟨w,S,Jo φ ([OB.row e 1 (Xa5 D.i l) .no]).length,wl,gb,hg⟩ w' S' φ' (zo [OB.row e 1 (Xa5 D.i (l.mergeSort λx y=>decide (x<=y))) .no])/\
   Kept w S φ (zo [OB.row e 1 (Xa5 D.i l) .no]) w' S' φ' (zo [OB.row e 1 (Xa5 D.i (l.mergeSort λx y=>decide (x<=y))) .no])/\kI S' w' φ' (zo [OB.row e 1 (Xa5 D.i (l.mergeSort λx y=>decide (x<=y))) .no]) (.Ca []) v/\oA (zo [OB.row e 1 (Xa5 D.i (l.mergeSort λx y=>decide (x<=y))) .no]) (.Ca []):=by
  intro p F hp hl;subst hl;rw[hv,hp];refine (AnyM.slices_Sort_int_none L p F w).mono λe' w' ⟨he,hw⟩=>?_;subst hw;refine⟨_,he,S,φ,by simpa using m,by simpa using .refl _ _ _ _,.Ca [] #[] (λ_=>Xck) rfl (λi H=>by simp at H) (λi H=>by simp at H),λq hq=>by simp[AV.refs,AV.refs.refsL] at hq⟩
 rcases K with ⟨a1,a2,a3,a4⟩|⟨b,F,a1,a4⟩
 ·exact none _ _ a4 (Xag (by simpa using a2))
 rcases g3 with ⟨Z,_⟩|⟨b',af,vs,f0,Z,f2,f3,f4,f5,f6,f7,f8⟩
 ·rw[a1] at Z;simp at Z
 rw[a1] at Z;simp only[X21,X23] at Z;obtain⟨rfl,rfl⟩:=Z;have a6:b<w.heap.size:=(m.ow 0 b F (by simp[zo]) a1).1;have U :∀i (H:i<l.length),f0 i 0=.int .i64 l[i]:=by intro i H;have:=f7 i (by simpa using H) 0 (by simp[D.cells]);simp only[Xb6,D.cells,Xbg] at this;revert this;generalize f0 i 0=u;intro h;cases h;rfl
 have hH:Holds (Value.int .i64) w b F.2 l.toArray:=by
  intro j M;have V:j<l.length:=by simpa using M
  have h6:=f6 j 0 (by simpa using V) (by decide);rw[U j V] at h6;have ab:w.cell? ⟨b,F.2+j,Xan⟩=some (.int .i64 l[j]):=by
   have:cellAt w b (F.2+j)=some (.int .i64 l[j]):=by rw[BB f2];simpa using h6
   exact this
  refine⟨by simpa[V] using ab,?_⟩;simp[World.frozen?,f2]
 rw[hv,a4];have hc:=AnyM.slices_Sort_int L b F.2 F.1 l w hH a6 zx;have a7:(Xa5 D.i l).length=l.length:=by simp
 rw[a7];refine hc.mono λe' w' ⟨he,n,os,hw⟩=>?_;obtain⟨w1,w2,w3,w4,w5,w6,w7⟩:=YU (Value.int .i64) w b F.2 n (l.mergeSort λx y=>decide (x<=y)).toArray os a6;rw[<- hw] at w1 w2 w3 w4 w5 w6 w7;obtain⟨m2,k2⟩:=m.Mk (es':=Xa5 D.i (l.mergeSort λx y=>decide (x<=y))) (w':=w') Q a1 f2 (by simp)
  (λi H=>by simp[D.cells]) (λi H j M=>by
   have h0:j=0:=by simp[D.cells] at M;exact M
   subst h0
   simp[D.cells,D.isAgg]) (w3 _ _ _ f2) (by simp[putCells]) (λb' h1 h2=>w1 b' h1 h2) w2 ⟨w4,w5,w6,w7⟩ (λi _=>.int .i64 ((l.mergeSort λx y=>decide (x<=y)).getD i 0))
  (λi j H M=>by
   have h0:j=0:=by omega
   subst h0;have ae:i<l.length:=by simpa using H
   have a8:F.2+i<vs.size:=by
    have h3:l.length<=F.1:=by simpa using f3
    omega
   simp only[putCells,Nat.mul_one,Xcy,Array.getElem?_mapIdx,Array.getElem?_eq_getElem a8,Xcb];rw[Xa2 ⟨by omega,by simp;omega⟩,show F.2+i-F.2=i by omega];have Y:i<(l.mergeSort λx y=>decide (x<=y)).length:=by simpa using ae
   simp[Y])
  (λi H j M=>by
   have h0:j=0:=by simp[D.cells] at M;exact M
   subst h0;have Y:i<(l.mergeSort λx y=>decide (x<=y)).length:=by simpa using H
   simp only[Xb6,D.cells,Xbg,Xa8,X12 Y,Xaz]
   exact .val _ rfl)
 rw[<- aa] at m2 k2;exact⟨_,he,S,φ,m2,k2,.Ca [] #[] (λ_=>Xck) rfl (λi H=>by simp at H) (λi H=>by simp at H),λq hq=>by simp[AV.refs,AV.refs.refsL] at hq⟩
end Go.AX
end
section
namespace Go.Proofs
open Go.Shelf
def Tryz.Sd:Go.Shelf.Ren:=⟨λ| 6=>123|15=>154|14=>153|28=>186|29=>187|20=>178|21=>179|22=>180|23=>181|24=>182|25=>183|26=>184|27=>185|46=>198|47=>199|48=>200|49=>201|50=>202|57=>205|n=>n,λ| 22=>71|24=>143|25=>235|3=>3|39=>145|0=>0|53=>295|55=>63|4=>4|46=>289|45=>288|50=>218|5=>5|9=>9|66=>308|70=>312|76=>315|77=>149|n=>n,λ| n=>n⟩
theorem Tryz.l123:Go.Proofs.SlLaysF0.n6 Xcc Tryz.Sd:={
 mixed:=by kernel_rfl
 f6:=⟨Tryz.f123.name,by decide,Tryz.func123.trans (Xap some (by kernel_rfl))⟩
 f14:=⟨Tryz.f153.name,by decide,Tryz.func153.trans (Xap some (by kernel_rfl))⟩
 f15:=Tryz.func154.trans (Xap some (by kernel_rfl))
 f20:=⟨Tryz.f178.name,by decide,Tryz.func178.trans (Xap some (by kernel_rfl))⟩
 f21:=⟨Tryz.f179.name,by decide,Tryz.func179.trans (Xap some (by kernel_rfl))⟩
 f22:=⟨Tryz.f180.name,by decide,Tryz.func180.trans (Xap some (by kernel_rfl))⟩
 f23:=⟨Tryz.f181.name,by decide,Tryz.func181.trans (Xap some (by kernel_rfl))⟩
 f24:=⟨Tryz.f182.name,by decide,Tryz.func182.trans (Xap some (by kernel_rfl))⟩
 f25:=⟨Tryz.f183.name,by decide,Tryz.func183.trans (Xap some (by kernel_rfl))⟩
 f26:=⟨Tryz.f184.name,by decide,Tryz.func184.trans (Xap some (by kernel_rfl))⟩
 f27:=⟨Tryz.f185.name,by decide,Tryz.func185.trans (Xap some (by kernel_rfl))⟩
 f28:=Tryz.func186.trans (Xap some (by kernel_rfl))
 f29:=Tryz.func187.trans (Xap some (by kernel_rfl))
 f46:=⟨Tryz.f198.name,by decide,Tryz.func198.trans (Xap some (by kernel_rfl))⟩
 f47:=Tryz.func199.trans (Xap some (by kernel_rfl))
 f48:=Tryz.func200.trans (Xap some (by kernel_rfl))
 f49:=⟨Tryz.f201.name,by decide,Tryz.func201.trans (Xap some (by kernel_rfl))⟩
 f50:=⟨Tryz.f202.name,by decide,Tryz.func202.trans (Xap some (by kernel_rfl))⟩
 f57:=⟨Tryz.f205.name,by decide,Tryz.func205.trans (Xap some (by kernel_rfl))⟩
 t0:=Tryz.underlying0
 a0:=Tryz.isAgg0
 z0:=Tryz.sizeOf0
 v0:=Tryz.zeroValue0
 t3:=Xdv
 a3:=Tryz.isAgg3
 z3:=Tryz.sizeOf3
 v3:=Tryz.zeroValue3
 t4:=Tryz.underlying4
 a4:=Tryz.isAgg4
 z4:=Tryz.sizeOf4
 v4:=Tryz.zeroValue4
 t5:=Tryz.underlying5
 a5:=Tryz.isAgg5
 z5:=Tryz.sizeOf5
 v5:=Tryz.zeroValue5
 t9:=Tryz.underlying9
 a9:=Tryz.isAgg9
 z9:=Tryz.sizeOf9
 v9:=Tryz.zeroValue9
 t22:=Tryz.underlying71
 a22:=Tryz.isAgg71
 z22:=Tryz.sizeOf71
 v22:=Tryz.zeroValue71
 t25:=Tryz.underlying235
 a25:=Tryz.isAgg235
 z25:=Tryz.sizeOf235
 v25:=Tryz.zeroValue235
 t39:=Tryz.underlying145
 a39:=Tryz.isAgg145
 z39:=Tryz.sizeOf145
 v39:=Tryz.zeroValue145
 t45:=Tryz.underlying288
 a45:=Tryz.isAgg288
 z45:=Tryz.sizeOf288
 v45:=Tryz.zeroValue288
 t46:=Tryz.underlying289
 a46:=Tryz.isAgg289
 z46:=Tryz.sizeOf289
 v46:=Tryz.zeroValue289
 t50:=Tryz.underlying218
 a50:=Tryz.isAgg218
 z50:=Tryz.sizeOf218
 v50:=Tryz.zeroValue218
 t53:=Tryz.underlying295
 a53:=Tryz.isAgg295
 z53:=Tryz.sizeOf295
 v53:=Tryz.zeroValue295
 t55:=Tryz.underlying63
 a55:=Tryz.isAgg63
 z55:=Tryz.sizeOf63
 v55:=Tryz.zeroValue63
 t66:=Tryz.underlying308
 a66:=Tryz.isAgg308
 z66:=Tryz.sizeOf308
 v66:=Tryz.zeroValue308
 t70:=Tryz.underlying312
 a70:=Tryz.isAgg312
 z70:=Tryz.sizeOf312
 v70:=Tryz.zeroValue312
 t76:=Tryz.underlying315
 a76:=Tryz.isAgg315
 z76:=Tryz.sizeOf315
 v76:=Tryz.zeroValue315
 t77:=Tryz.underlying149
 a77:=Tryz.isAgg149
 z77:=Tryz.sizeOf149
 v77:=Tryz.zeroValue149 }
def Tryz.Rv:Go.Shelf.Ren:=⟨λ| 5=>234|8=>154|7=>244|19=>186|20=>187|10=>255|11=>256|12=>257|13=>258|14=>259|15=>260|16=>261|17=>262|18=>263|30=>267|31=>199|32=>200|33=>268|34=>269|35=>155|40=>288|n=>n,λ| 23=>22|25=>3|3=>3|32=>145|22=>22|0=>0|44=>295|46=>63|4=>4|36=>289|35=>288|41=>218|5=>5|9=>9|53=>308|57=>312|63=>315|64=>149|n=>n,λ| n=>n⟩
theorem Tryz.l234:Go.Proofs.SlLaysM.n5 Xcc Tryz.Rv:={
 mixed:=by kernel_rfl
 f5:=⟨Tryz.f234.name,by decide,Tryz.func234.trans (Xap some (by kernel_rfl))⟩
 f7:=⟨Tryz.f244.name,by decide,Tryz.func244.trans (Xap some (by kernel_rfl))⟩
 f8:=Tryz.func154.trans (Xap some (by kernel_rfl))
 f10:=⟨Tryz.f255.name,by decide,Tryz.func255.trans (Xap some (by kernel_rfl))⟩
 f11:=⟨Tryz.f256.name,by decide,Tryz.func256.trans (Xap some (by kernel_rfl))⟩
 f12:=⟨Tryz.f257.name,by decide,Tryz.func257.trans (Xap some (by kernel_rfl))⟩
 f13:=⟨Tryz.f258.name,by decide,Tryz.func258.trans (Xap some (by kernel_rfl))⟩
 f14:=⟨Tryz.f259.name,by decide,Tryz.func259.trans (Xap some (by kernel_rfl))⟩
 f15:=⟨Tryz.f260.name,by decide,Tryz.func260.trans (Xap some (by kernel_rfl))⟩
 f16:=⟨Tryz.f261.name,by decide,Tryz.func261.trans (Xap some (by kernel_rfl))⟩
 f17:=⟨Tryz.f262.name,by decide,Tryz.func262.trans (Xap some (by kernel_rfl))⟩
 f18:=⟨Tryz.f263.name,by decide,Tryz.func263.trans (Xap some (by kernel_rfl))⟩
 f19:=Tryz.func186.trans (Xap some (by kernel_rfl))
 f20:=Tryz.func187.trans (Xap some (by kernel_rfl))
 f30:=⟨Tryz.f267.name,by decide,Tryz.func267.trans (Xap some (by kernel_rfl))⟩
 f31:=Tryz.func199.trans (Xap some (by kernel_rfl))
 f32:=Tryz.func200.trans (Xap some (by kernel_rfl))
 f33:=⟨Tryz.f268.name,by decide,Tryz.func268.trans (Xap some (by kernel_rfl))⟩
 f34:=⟨Tryz.f269.name,by decide,Tryz.func269.trans (Xap some (by kernel_rfl))⟩
 f35:=⟨Tryz.f155.name,by decide,Tryz.func155.trans (Xap some (by kernel_rfl))⟩
 f40:=⟨Tryz.f288.name,by decide,Tryz.func288.trans (Xap some (by kernel_rfl))⟩
 t0:=Tryz.underlying0
 a0:=Tryz.isAgg0
 z0:=Tryz.sizeOf0
 v0:=Tryz.zeroValue0
 t3:=Xdv
 a3:=Tryz.isAgg3
 z3:=Tryz.sizeOf3
 v3:=Tryz.zeroValue3
 t4:=Tryz.underlying4
 a4:=Tryz.isAgg4
 z4:=Tryz.sizeOf4
 v4:=Tryz.zeroValue4
 t5:=Tryz.underlying5
 a5:=Tryz.isAgg5
 z5:=Tryz.sizeOf5
 v5:=Tryz.zeroValue5
 t9:=Tryz.underlying9
 a9:=Tryz.isAgg9
 z9:=Tryz.sizeOf9
 v9:=Tryz.zeroValue9
 t22:=Tryz.underlying22
 a22:=Tryz.isAgg22
 z22:=Tryz.sizeOf22
 v22:=Tryz.zeroValue22
 t23:=Tryz.underlying22
 a23:=Tryz.isAgg22
 z23:=Tryz.sizeOf22
 v23:=Tryz.zeroValue22
 t25:=Xdv
 a25:=Tryz.isAgg3
 z25:=Tryz.sizeOf3
 v25:=Tryz.zeroValue3
 t32:=Tryz.underlying145
 a32:=Tryz.isAgg145
 z32:=Tryz.sizeOf145
 v32:=Tryz.zeroValue145
 t35:=Tryz.underlying288
 a35:=Tryz.isAgg288
 z35:=Tryz.sizeOf288
 v35:=Tryz.zeroValue288
 t36:=Tryz.underlying289
 a36:=Tryz.isAgg289
 z36:=Tryz.sizeOf289
 v36:=Tryz.zeroValue289
 t41:=Tryz.underlying218
 a41:=Tryz.isAgg218
 z41:=Tryz.sizeOf218
 v41:=Tryz.zeroValue218
 t44:=Tryz.underlying295
 a44:=Tryz.isAgg295
 z44:=Tryz.sizeOf295
 v44:=Tryz.zeroValue295
 t46:=Tryz.underlying63
 a46:=Tryz.isAgg63
 z46:=Tryz.sizeOf63
 v46:=Tryz.zeroValue63
 t53:=Tryz.underlying308
 a53:=Tryz.isAgg308
 z53:=Tryz.sizeOf308
 v53:=Tryz.zeroValue308
 t57:=Tryz.underlying312
 a57:=Tryz.isAgg312
 z57:=Tryz.sizeOf312
 v57:=Tryz.zeroValue312
 t63:=Tryz.underlying315
 a63:=Tryz.isAgg315
 z63:=Tryz.sizeOf315
 v63:=Tryz.zeroValue315
 t64:=Tryz.underlying149
 a64:=Tryz.isAgg149
 z64:=Tryz.sizeOf149
 v64:=Tryz.zeroValue149 }
def Tryz.Rg:Go.Shelf.Ren:=⟨λ| 6=>245|15=>154|14=>264|28=>186|29=>187|20=>270|21=>271|22=>272|23=>273|24=>274|25=>275|26=>276|27=>277|46=>289|47=>199|48=>200|49=>290|50=>291|57=>295|n=>n,λ| 22=>69|24=>206|25=>340|3=>3|39=>145|0=>0|53=>295|55=>63|4=>4|46=>289|45=>288|50=>218|5=>5|9=>9|66=>308|70=>312|76=>315|77=>149|n=>n,λ| n=>n⟩
theorem Tryz.l245:Go.Proofs.SlLaysF0.n6 Xcc Tryz.Rg:={
 mixed:=by kernel_rfl
 f6:=⟨Tryz.f245.name,by decide,Tryz.func245.trans (Xap some (by kernel_rfl))⟩
 f14:=⟨Tryz.f264.name,by decide,Tryz.func264.trans (Xap some (by kernel_rfl))⟩
 f15:=Tryz.func154.trans (Xap some (by kernel_rfl))
 f20:=⟨Tryz.f270.name,by decide,Tryz.func270.trans (Xap some (by kernel_rfl))⟩
 f21:=⟨Tryz.f271.name,by decide,Tryz.func271.trans (Xap some (by kernel_rfl))⟩
 f22:=⟨Tryz.f272.name,by decide,Tryz.func272.trans (Xap some (by kernel_rfl))⟩
 f23:=⟨Tryz.f273.name,by decide,Tryz.func273.trans (Xap some (by kernel_rfl))⟩
 f24:=⟨Tryz.f274.name,by decide,Tryz.func274.trans (Xap some (by kernel_rfl))⟩
 f25:=⟨Tryz.f275.name,by decide,Tryz.func275.trans (Xap some (by kernel_rfl))⟩
 f26:=⟨Tryz.f276.name,by decide,Tryz.func276.trans (Xap some (by kernel_rfl))⟩
 f27:=⟨Tryz.f277.name,by decide,Tryz.func277.trans (Xap some (by kernel_rfl))⟩
 f28:=Tryz.func186.trans (Xap some (by kernel_rfl))
 f29:=Tryz.func187.trans (Xap some (by kernel_rfl))
 f46:=⟨Tryz.f289.name,by decide,Tryz.func289.trans (Xap some (by kernel_rfl))⟩
 f47:=Tryz.func199.trans (Xap some (by kernel_rfl))
 f48:=Tryz.func200.trans (Xap some (by kernel_rfl))
 f49:=⟨Tryz.f290.name,by decide,Tryz.func290.trans (Xap some (by kernel_rfl))⟩
 f50:=⟨Tryz.f291.name,by decide,Tryz.func291.trans (Xap some (by kernel_rfl))⟩
 f57:=⟨Tryz.f295.name,by decide,Tryz.func295.trans (Xap some (by kernel_rfl))⟩
 t0:=Tryz.underlying0
 a0:=Tryz.isAgg0
 z0:=Tryz.sizeOf0
 v0:=Tryz.zeroValue0
 t3:=Xdv
 a3:=Tryz.isAgg3
 z3:=Tryz.sizeOf3
 v3:=Tryz.zeroValue3
 t4:=Tryz.underlying4
 a4:=Tryz.isAgg4
 z4:=Tryz.sizeOf4
 v4:=Tryz.zeroValue4
 t5:=Tryz.underlying5
 a5:=Tryz.isAgg5
 z5:=Tryz.sizeOf5
 v5:=Tryz.zeroValue5
 t9:=Tryz.underlying9
 a9:=Tryz.isAgg9
 z9:=Tryz.sizeOf9
 v9:=Tryz.zeroValue9
 t22:=Tryz.underlying69
 a22:=Tryz.isAgg69
 z22:=Tryz.sizeOf69
 v22:=Tryz.zeroValue69
 t25:=Tryz.underlying340
 a25:=Tryz.isAgg340
 z25:=Tryz.sizeOf340
 v25:=Tryz.zeroValue340
 t39:=Tryz.underlying145
 a39:=Tryz.isAgg145
 z39:=Tryz.sizeOf145
 v39:=Tryz.zeroValue145
 t45:=Tryz.underlying288
 a45:=Tryz.isAgg288
 z45:=Tryz.sizeOf288
 v45:=Tryz.zeroValue288
 t46:=Tryz.underlying289
 a46:=Tryz.isAgg289
 z46:=Tryz.sizeOf289
 v46:=Tryz.zeroValue289
 t50:=Tryz.underlying218
 a50:=Tryz.isAgg218
 z50:=Tryz.sizeOf218
 v50:=Tryz.zeroValue218
 t53:=Tryz.underlying295
 a53:=Tryz.isAgg295
 z53:=Tryz.sizeOf295
 v53:=Tryz.zeroValue295
 t55:=Tryz.underlying63
 a55:=Tryz.isAgg63
 z55:=Tryz.sizeOf63
 v55:=Tryz.zeroValue63
 t66:=Tryz.underlying308
 a66:=Tryz.isAgg308
 z66:=Tryz.sizeOf308
 v66:=Tryz.zeroValue308
 t70:=Tryz.underlying312
 a70:=Tryz.isAgg312
 z70:=Tryz.sizeOf312
 v70:=Tryz.zeroValue312
 t76:=Tryz.underlying315
 a76:=Tryz.isAgg315
 z76:=Tryz.sizeOf315
 v76:=Tryz.zeroValue315
 t77:=Tryz.underlying149
 a77:=Tryz.isAgg149
 z77:=Tryz.sizeOf149
 v77:=Tryz.zeroValue149 }
def Tryz.Sn:Go.Shelf.Ren:=⟨λ| 6=>250|15=>154|14=>266|28=>186|29=>187|20=>280|21=>281|22=>282|23=>283|24=>284|25=>285|26=>286|27=>287|46=>292|47=>199|48=>200|49=>293|50=>294|57=>296|n=>n,λ| 22=>70|24=>208|25=>343|3=>3|39=>145|0=>0|53=>295|55=>63|4=>4|46=>289|45=>288|50=>218|5=>5|9=>9|66=>308|70=>312|76=>315|77=>149|n=>n,λ| n=>n⟩
theorem Tryz.l250:Go.Proofs.SlLaysF0.n6 Xcc Tryz.Sn:={
 mixed:=by kernel_rfl
 f6:=⟨Tryz.f250.name,by decide,Tryz.func250.trans (Xap some (by kernel_rfl))⟩
 f14:=⟨Tryz.f266.name,by decide,Tryz.func266.trans (Xap some (by kernel_rfl))⟩
 f15:=Tryz.func154.trans (Xap some (by kernel_rfl))
 f20:=⟨Tryz.f280.name,by decide,Tryz.func280.trans (Xap some (by kernel_rfl))⟩
 f21:=⟨Tryz.f281.name,by decide,Tryz.func281.trans (Xap some (by kernel_rfl))⟩
 f22:=⟨Tryz.f282.name,by decide,Tryz.func282.trans (Xap some (by kernel_rfl))⟩
 f23:=⟨Tryz.f283.name,by decide,Tryz.func283.trans (Xap some (by kernel_rfl))⟩
 f24:=⟨Tryz.f284.name,by decide,Tryz.func284.trans (Xap some (by kernel_rfl))⟩
 f25:=⟨Tryz.f285.name,by decide,Tryz.func285.trans (Xap some (by kernel_rfl))⟩
 f26:=⟨Tryz.f286.name,by decide,Tryz.func286.trans (Xap some (by kernel_rfl))⟩
 f27:=⟨Tryz.f287.name,by decide,Tryz.func287.trans (Xap some (by kernel_rfl))⟩
 f28:=Tryz.func186.trans (Xap some (by kernel_rfl))
 f29:=Tryz.func187.trans (Xap some (by kernel_rfl))
 f46:=⟨Tryz.f292.name,by decide,Tryz.func292.trans (Xap some (by kernel_rfl))⟩
 f47:=Tryz.func199.trans (Xap some (by kernel_rfl))
 f48:=Tryz.func200.trans (Xap some (by kernel_rfl))
 f49:=⟨Tryz.f293.name,by decide,Tryz.func293.trans (Xap some (by kernel_rfl))⟩
 f50:=⟨Tryz.f294.name,by decide,Tryz.func294.trans (Xap some (by kernel_rfl))⟩
 f57:=⟨Tryz.f296.name,by decide,Tryz.func296.trans (Xap some (by kernel_rfl))⟩
 t0:=Tryz.underlying0
 a0:=Tryz.isAgg0
 z0:=Tryz.sizeOf0
 v0:=Tryz.zeroValue0
 t3:=Xdv
 a3:=Tryz.isAgg3
 z3:=Tryz.sizeOf3
 v3:=Tryz.zeroValue3
 t4:=Tryz.underlying4
 a4:=Tryz.isAgg4
 z4:=Tryz.sizeOf4
 v4:=Tryz.zeroValue4
 t5:=Tryz.underlying5
 a5:=Tryz.isAgg5
 z5:=Tryz.sizeOf5
 v5:=Tryz.zeroValue5
 t9:=Tryz.underlying9
 a9:=Tryz.isAgg9
 z9:=Tryz.sizeOf9
 v9:=Tryz.zeroValue9
 t22:=Tryz.underlying70
 a22:=Tryz.isAgg70
 z22:=Tryz.sizeOf70
 v22:=Tryz.zeroValue70
 t25:=Tryz.underlying343
 a25:=Tryz.isAgg343
 z25:=Tryz.sizeOf343
 v25:=Tryz.zeroValue343
 t39:=Tryz.underlying145
 a39:=Tryz.isAgg145
 z39:=Tryz.sizeOf145
 v39:=Tryz.zeroValue145
 t45:=Tryz.underlying288
 a45:=Tryz.isAgg288
 z45:=Tryz.sizeOf288
 v45:=Tryz.zeroValue288
 t46:=Tryz.underlying289
 a46:=Tryz.isAgg289
 z46:=Tryz.sizeOf289
 v46:=Tryz.zeroValue289
 t50:=Tryz.underlying218
 a50:=Tryz.isAgg218
 z50:=Tryz.sizeOf218
 v50:=Tryz.zeroValue218
 t53:=Tryz.underlying295
 a53:=Tryz.isAgg295
 z53:=Tryz.sizeOf295
 v53:=Tryz.zeroValue295
 t55:=Tryz.underlying63
 a55:=Tryz.isAgg63
 z55:=Tryz.sizeOf63
 v55:=Tryz.zeroValue63
 t66:=Tryz.underlying308
 a66:=Tryz.isAgg308
 z66:=Tryz.sizeOf308
 v66:=Tryz.zeroValue308
 t70:=Tryz.underlying312
 a70:=Tryz.isAgg312
 z70:=Tryz.sizeOf312
 v70:=Tryz.zeroValue312
 t76:=Tryz.underlying315
 a76:=Tryz.isAgg315
 z76:=Tryz.sizeOf315
 v76:=Tryz.zeroValue315
 t77:=Tryz.underlying149
 a77:=Tryz.isAgg149
 z77:=Tryz.sizeOf149
 v77:=Tryz.zeroValue149 }
end Go.Proofs
namespace Go.Maps
end Go.Maps
namespace Go.AX.Q33
open Go Go.AX Go.Proofs Go.Maps Go.Sort Go.Shelf Go.RowKit
theorem Ym {wl:WL}{X:Type}{f:X->D}{cmp:X->X->Option Int}{g:Nat}(J :∀args w,(callFunc g args).run Tryz.prog w=.ok (.enter g args) w)(F :∀{a b r},cmp a b=some r->xV wl.low Tryz.prog g [.d (f a),.d (f b)] [] (.d (D.i r)) []){l r:List X}(h:Gf cmp l=some r)(H :∀x,(f x).isAgg=true:=by exact λ_=>rfl):xV wl Tryz.prog 123 [.own 0 (List.map f l).length,.fn g []] [.row 143 3 (List.map f l) .no] (.Ca []) [.row 143 3 (List.map f r) .no]:=
 Sr Tryz.l123 (rO Tryz.func123 (by kernel_rfl) (by kernel_rfl)) Tryz.isAgg143 Tryz.sizeOf143 J H F h
theorem Zx {wl:WL}{l r:O Int}(h:NQ l=some r):xV wl Xcc 234 [.own 0 (Xa5 D.i l).length] [.row 3 1 (Xa5 D.i l) .no] (.Ca []) [.row 3 1 (Xa5 D.i r) .no]:=
 oC Tryz.l234 (rO Tryz.func234 (by kernel_rfl) (by kernel_rfl)) h
theorem Y5 {wl:WL}{X:Type}{f:X->D}{cmp:X->X->Option Int}{g:Nat}(J :∀args w,(callFunc g args).run Tryz.prog w=.ok (.enter g args) w)(F :∀{a b r},cmp a b=some r->xV wl.low Tryz.prog g [.d (f a),.d (f b)] [] (.d (D.i r)) []){l r:List X}(h:Gf cmp l=some r)(H :∀x,(f x).isAgg=true:=by exact λ_=>rfl):xV wl Tryz.prog 245 [.own 0 (List.map f l).length,.fn g []] [.row 206 2 (List.map f l) .no] (.Ca []) [.row 206 2 (List.map f r) .no]:=
 Sr Tryz.l245 (rO Tryz.func245 (by kernel_rfl) (by kernel_rfl)) Tryz.isAgg206 Tryz.sizeOf206 J H F h
theorem YY {wl:WL}{X:Type}{f:X->D}{cmp:X->X->Option Int}{g:Nat}(J :∀args w,(callFunc g args).run Tryz.prog w=.ok (.enter g args) w)(F :∀{a b r},cmp a b=some r->xV wl.low Tryz.prog g [.d (f a),.d (f b)] [] (.d (D.i r)) []){l r:List X}(h:Gf cmp l=some r)(H :∀x,(f x).isAgg=true:=by exact λ_=>rfl):xV wl Tryz.prog 250 [.own 0 (List.map f l).length,.fn g []] [.row 208 3 (List.map f l) .no] (.Ca []) [.row 208 3 (List.map f r) .no]:=
 Sr Tryz.l250 (rO Tryz.func250 (by kernel_rfl) (by kernel_rfl)) Tryz.isAgg208 Tryz.sizeOf208 J H F h
end Go.AX.Q33
end
section
namespace Go.AX.Q33
open Go Go.AX Go.Proofs
variable {wl:Prop}
instance {a0:O oF}:CK (AW a0) 247 [ed a0,AV.fn 248 [],AV.fn 249 []] [] ed oN:=Wf 0 Tryz.f247 λh=>by unfold AW at h;exact Wg (.y 39 39 (.a (.f 9 2 oF.cW (λF _=>⟨[(0,y3 a0),(1,AV.fn 248 []),(2,AV.fn 249 []),(9,y3 a0),(10,yi (a0.length:Int)),(11,yi (F:Int))],[]⟩) (λ_ F J=>.g (.k (λH=>⟨[(34,yb H)],[]⟩)))) (λ_=>⟨[(0,y3 a0)],[]⟩))) h
instance {a0:O oF}:CK (EX a0) 240 [ed a0] [] ed oN:=Wf 0 Tryz.f240 λh=>by unfold EX at h;exact Wg .z h
instance FR {a0:O iX}:CK (Aw a0) 251 [AV.own 0 (Xa5 iX.cW a0).length] [.row 208 3 (Xa5 iX.cW a0) .no] (λr=>AV.own 1 (Xa5 iX.cW r).length) (λr=>[.gone,.row 208 3 (Xa5 iX.cW r) .no]):=Wf 0 Tryz.f251 λh=>by
 refine⟨rfl,?_⟩;unfold Aw at h;refine⟨a0.length,EW,?_⟩;refine Al ?_;refine CY h ?_ ?_<;>intro h
 ·exact Wg (.r .z) h
 refine Ag h (λ_=>⟨yO 0 iX.cW a0::dd 60 ([]),jb a0⟩) ?_ ?_
 ·intro _ h;revert h;refine BO (λv1=>⟨yO 0 iX.cW a0::X::X::yi v1::dd 57 ([]),jb a0⟩) ?_ ?_
  ·exact wk
  rintro _ v1 _ h p2;refine⟨a0.length,EW,?_⟩;refine Al ?_;refine HY h λh=>?_;refine Ag h (λ_=>⟨yO 0 iX.cW a0::X::X::yi v1::dd 57 ([]),jb a0⟩) ?_ ?_
  ·intro _ h;refine .inl (dO ?_);obtain⟨v3,g4,h⟩:=AM h;refine⟨rfl,Dw (f:=iX.cW) g4,?_⟩;refine⟨rfl,iX.cW v3,(FY (f:=iX.cW) g4),?_⟩;refine⟨_,rfl,?_⟩;obtain⟨v5,g6,h⟩:=AM h;refine⟨rfl,Dw (f:=iX.cW) g6,?_⟩;refine⟨rfl,iX.cW v5,(FY (f:=iX.cW) g6),?_⟩;refine cO ?_;refine Al ?_;refine HY h λh=>?_;(conv=>whnf);refine .inr (.inl ?_);obtain⟨_,g7,h⟩:=AM h;have ab:=Dc g7;refine⟨Hk (f:=iX.cW) g7,rfl,(Xa0 v1),(Xa0 (a0.length:Int)-Xa0 v1),rfl,(by rw[X1]),?_⟩;refine Ag h (λ(J,K)=>⟨yO 0 iX.cW K::X::X::yi J::dd 57 ([]),jb K⟩) ?_ ?_
   ·intro _ h;revert h;refine BO (λ(P,M,F)=>⟨yO 0 iX.cW F::X::X::yi P::AV.Fc 0 (Xa0 v1) (Xa0 (a0.length:Int)-Xa0 v1) (Xa5 iX.cW F).length::yi M::dd 55 ([]),jb F⟩) ?_ ?_
    ·exact wk
    rintro _ ⟨P,M,F⟩ _ h af;refine⟨(Xa0 (a0.length:Int)-Xa0 v1),rfl,?_⟩;refine Al ?_;refine HY h λh=>?_;refine Al ?_;refine .inl (dO ?_);obtain⟨a7,Q,h⟩:=AM h;refine⟨EW,KG Q,_,rfl,?_⟩;refine⟨rfl,iX.cW a7,(KP (f:=iX.cW) Q),?_⟩;refine⟨_,rfl,?_⟩;obtain⟨a8,U,h⟩:=AM h;refine⟨EW,KG U,_,rfl,?_⟩;refine⟨rfl,iX.cW a8,(KP (f:=iX.cW) U),?_⟩;refine cO ?_;refine Ag h (λ(V,H)=>⟨yO 0 iX.cW H::X::X::yi V::AV.Fc 0 (Xa0 v1) (Xa0 (a0.length:Int)-Xa0 v1) (Xa5 iX.cW H).length::yi M::dd 55 ([]),jb H⟩) ?_ ?_
    ·intro _ h;refine HY h λh=>?_;obtain⟨aa,Y,h⟩:=AM h;refine⟨EW,KG Y,_,rfl,?_⟩;refine⟨rfl,iX.cW aa,(KP (f:=iX.cW) Y),?_⟩;exact Wg .z h
    rintro⟨V,H⟩ h;exact Wg .z h
   rintro⟨J,K⟩ h;(conv=>whnf);refine .inr (.inl ?_);obtain⟨_,Z,h⟩:=AM h;have ae:=Dc Z;refine⟨Hk (f:=iX.cW) Z,rfl,(Xa0 J),(Xa0 (K.length:Int)-Xa0 J),rfl,(by rw[X1]),?_⟩;refine⟨EW,iX.cW (⟨0,0,0⟩:iX),rfl,Xa5 iX.cW (Xb7 (Xa0 J) K++Xaa (Xa0 (K.length:Int)-Xa0 J) (⟨0,0,0⟩:iX)++Xb8 ((Xa0 J)+(Xa0 (K.length:Int)-Xa0 J)) K),Xo,?_⟩;(conv=>whnf);refine .inr (.inr ?_);obtain⟨ag,a6,h⟩:=AM h;refine⟨QB (f:=iX.cW) a6,EW,_,Ko (f:=iX.cW) a6,?_⟩;exact Wg (.l (.r .z)) h
  rintro _ h;exact Wg .z h
 rintro _ h;exact Wg (.r .z) h
instance Jc {a0:iX}{a1:iX}:CK (B0 a0 a1) 242 [ed a0,ed a1] [] ed oN:=Wf 0 Tryz.f242 λh=>by unfold B0 at h;exact Wg .z h
instance {a0:iX}:CK (Cm a0) 253 [ed a0] [] ed oN:=Wf 0 Tryz.f253 λh=>by unfold Cm at h;exact Wg (.m .z) h
instance {a0:iX} {a1:iX}:CK (Bn a0 a1) 254 [ed a0,ed a1] [] ed oN:=Wf 0 Tryz.f254 λh=>by unfold Bn at h;exact Wg .z h
instance {a0:O iX}:CK (AT a0) 252 [ed a0,AV.fn 253 [],AV.fn 254 []] [] ed oN:=Wf 0 Tryz.f252 λh=>by unfold AT at h;exact Wg (.y 39 39 (.a (.f 9 3 iX.cW (λF _=>⟨[(0,y4 a0),(1,AV.fn 253 []),(2,AV.fn 254 []),(9,y4 a0),(10,yi (a0.length:Int)),(11,yi (F:Int))],[]⟩) (λ_ F J=>.g (.k (λH=>⟨[(34,yb H)],[]⟩)))) (λ_=>⟨[(0,y4 a0)],[]⟩))) h
instance {a0:O iX}:CK (CU a0) 243 [ed a0] [] ed oN:=Wf 0 Tryz.f243 λh=>by unfold CU at h;exact Wg .z h
instance {a0:Int} {a1:Int} {F:Int}:CK (CE a0 a1 F) 121 [ed a0,ed a1,ed F] [] ed oN:=Wf 0 Tryz.f121 λh=>by unfold CE at h;exact Wg (.y 15 15 (.k (λv1=>⟨[(6,yb v1)],[]⟩))) h
instance {a0:O S}:CK (Bo a0) 122 [ed a0] [] ed oN:=Wf 0 Tryz.f122 λh=>by
 refine⟨rfl,?_⟩;unfold Bo at h;refine⟨?_,λF=>?_⟩
 ·exact Wg .z h
 obtain rfl:a0=[]:=(by simpa using F);replace h:=pK h;exact Wg .z h
instance M7 {a0:gL}{a1:gL}:CK (DI a0 a1) 124 [ed a0,ed a1] [] ed oN:=Wf 0 Tryz.f124 λh=>by unfold DI at h;exact Wg .z h
instance {a0:O gL}:CK (Aq a0) 151 [ed a0,AV.fn 118 []] [] ed oN:=Wf 0 Tryz.f151 λh=>by unfold Aq at h;exact Wg (.y 19 19 (.a (.f0 6 3 gL.cW (λF _=>⟨[(0,y7 a0),(1,AV.fn 118 []),(6,y7 a0),(7,yi (a0.length:Int)),(8,yi (F:Int))],[]⟩)) (λ_=>⟨[],[]⟩))) h
instance Bf {a0:O gL}:CK (Ab a0) 114 [ed a0,AV.fn 118 []] [] ed oN:=Wf 0 Tryz.f114 λh=>by unfold Ab at h;exact Wg .z h
end Go.AX.Q33
end
