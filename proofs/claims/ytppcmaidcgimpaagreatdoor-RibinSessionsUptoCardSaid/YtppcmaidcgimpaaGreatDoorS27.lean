/-
  Texts of one proof, packed.
-/
import Derived.Test.YtppcmaidcgimpaaGreatDoorS15
import Derived.Test.YtppcmaidcgimpaaGreatDoorS18
import Derived.Test.YtppcmaidcgimpaaGreatDoorS26
import Derived.Test.YtppcmaidcgimpaaGreatDoorS8
import Derived.IntWalk
import Derived.Shelf.Lays
import Derived.Shelf.SlIter.Nil
import Derived.Shelf.SlIterI.Nil
import Derived.Shelf.SlSortCmp.NoneTotal
import Derived.Shelf.SortM.Plain
import Derived.Shelf.SortM.SortNone
set_option linter.all false
set_option maxRecDepth 100000
set_option maxHeartbeats 4000000
open List renaming length_map→X6,length_append→X10,getElem?_eq_getElem→X14,length_drop→X16,length_take→X17,length_replicate→X19,length_set→X20
open Option.some renaming injEq→X23,inj→X24
open Prod.mk renaming injEq→X25
open Nat renaming le_of_ble_eq_true→X28,mul_le_mul_right→X30,add_mul→X31
open Int renaming toNat→Xi
open List renaming map→Xj,replicate→Xal,range→Xb2
open Go renaming undef→Xbn,Program→Xcn
open Go.Proofs.Tryz renaming prog→Xai,underlying3→Xd2
open Array renaming range→Xc4
section
namespace Go.AX
open Go.Proofs Go.Sort Go.Shelf Go.RowKit
def ja {F:Array A}{v u:A}(J:F.size=2)(h:F.getD 0 Xbn=v)(H:F.getD 1 Xbn=u):F=#[v,u]:=by
 match F,J with
 | ⟨[a,b]⟩,_=>simp at h H;rw[h,H]
def HK {α:Type}[Inhabited α](enc:α->I A)(k:Nat)(w:B)(F off n:Nat)(d:Array α)(os:Array Obj)(K:F<w.heap.size) : (∀b,b<w.heap.size->b≠F->(sortWorldK enc k w F off n d os).heap[b]?=w.heap[b]?)/\w.heap.size<=(sortWorldK enc k w F off n d os).heap.size/\ (∀H e fr,w.heap[F]?=some (.cells H e fr)->(sortWorldK enc k w F off n d os).heap[F]?=some (.cells (putCells id off (flatK enc k d) H) e fr))/\ (sortWorldK enc k w F off n d os).os=w.os/\(sortWorldK enc k w F off n d os).output=w.output/\(sortWorldK enc k w F off n d os).tape=w.tape/\w.drawn<=(sortWorldK enc k w F off n d os).drawn:=by
 have J:(sortWorldK enc k w F off n d os).heap=(w.heap.modify F (onCells (putCells id off (flatK enc k d))))++os:=rfl;refine⟨λb M P=>?_,?_,λH e fr h=>?_,rfl,rfl,rfl,Nat.le_add_right _ _⟩
 ·rw[J,Xb3 (by simpa using M),Array.getElem?_modify,Xk (Ne.symm P)]
 ·rw[J];simp
 rw[J,Xb3 (by simpa using K),Array.getElem?_modify,Xl rfl,h];rfl
def jv {W w':B}(hp :∀b,b<W.heap.size->w'.heap[b]?=W.heap[b]?)(sz:W.heap.size<=w'.heap.size)(os:w'.os=W.os)(out:w'.output=W.output)(tape:w'.tape=W.tape)(dr:W.drawn<=w'.drawn) : ∃q J,w'=grow (W.drewN q) J:=by
 refine⟨w'.drawn-W.drawn,w'.heap.extract W.heap.size w'.heap.size,?_⟩;obtain⟨H,V,M,Y,u1⟩:=w';obtain⟨F,Z,P,o2,u2⟩:=W;simp only at hp sz os out tape dr;subst os out tape;have K:H=F++H.extract F.size H.size:=by
  apply Array.ext_getElem?;intro i;by_cases Q:i<F.size
  ·rw[Xb3 Q];exact hp i Q
  rw[Array.getElem?_append_right (by omega),Array.getElem?_extract];by_cases U:i<H.size
  ·rw[Xl (by omega),show F.size+(i-F.size)=i by omega]
  rw[Xk (by omega),Array.getElem?_eq_none (by omega)]
 have hd:M=P+(M-P):=by omega
 unfold grow World.drewN;simp only;congr 1
def V5 {wl:WL}{P:Xcn}{ρ:Ren}{X:Type}{f:X->D}{cmp:X->X->O Int}{g k e:Nat}(L:SlLaysF0.n6 P ρ)(hf:jX P (ρ.f 6))(aE :∀w,(isAgg (ρ.t 24)).run P w=.ok true w)(zE :∀w,(Go.sizeOf (ρ.t 24)).run P w=.ok k w) (eg :∀args w,(callFunc g args).run P w=.ok (.enter g args) w) (ax :∀x,(f x).isAgg=true) (ay :∀{a b r},cmp a b=some r->A0 wl.low P g [.d (f a),.d (f b)] [] (.i r) []) {l r:I X} (h:GM cmp l=some r):A0 wl P (ρ.f 6) [.own 0 (Xj f l).length,.fn g []] [.row e k (Xj f l) .no] (.qT []) [.row e k (Xj f r) .no]:=by
 refine⟨hf,λw S φ gb hg ak hs hr hn m=>?_⟩;have r0:=(hr 0 (by simp)).1;have r1:=(hr 1 (by simp)).1;simp only[Xao,List.getElem_cons_succ] at r0 r1;have hv:=ja hs rfl rfl;generalize ak.getD 0 Xbn=v0 at r0 hv;generalize ak.getD 1 Xbn=v1 at r1 hv;cases r1 with|fn _ _ bj _ bk _ _=>
 obtain rfl:bj=#[]:=Array.eq_empty_of_size_eq_zero (by simpa using bk);cases r0 with|own _ _ _ kk c a0 bl a7 h1 hb=>
 have ao:qt [OB.row e k (Xj f l) .no] 0=some (.row e k (Xj f l) .no):=rfl;obtain⟨_,a8⟩:=h1 _ _ _ _ ao;have a8:=a8 rfl;have az:=m.obj 0 _ ao;obtain⟨g0,g1,g2,g3⟩:=az;have bm :∀r',qt [OB.row e k (Xj f r') .no]=qn (qt [OB.row e k (Xj f l) .no]) 0 (some (.row e k (Xj f r') .no)):=by
  intro r';funext q;match q with
  | 0=>simp[qt]
  | q+1=>simp[qt,qn]
 by_cases hl:0<l.length;rotate_left
 ·
  have bn:l=[]:=Xa7 (by omega);subst bn;obtain⟨hp,_⟩:=J3 h;obtain rfl:r=[]:=hp.eq_nil;obtain⟨p,F,bo⟩ :∃p F,v0=.slice p 0 F:=by rw[bl,a7];exact⟨_,_,rfl⟩
  rw[hv,bo];refine (AnyF.slices_SortFunc_none L p F _ w).mono λe' w' ⟨he,hw⟩=>⟨_,he,S,φ,hw▸m,hw▸.refl _ _ _ _,.qT [] #[] (λ_=>Xbn) rfl (λi H=>by simp at H) (λi H=>by simp at H),λq hq=>by simp[AV.refs,AV.refs.refsL] at hq⟩
 rcases g3 with ⟨_,al⟩|⟨b,F,vs,f0,f1,f2,f3,f4,f5,f6,f7,f8⟩
 ·simp at al;subst al;simp at hl
 obtain⟨b0,ba⟩:=Ue h hl;have ae:Ur cmp l=true:=by
  unfold GM at h;split at h
  ·assumption
  simp at h
 obtain⟨an,bi,_⟩:=Om ae hl;have bb:v0=.slice (some ⟨b,F.2,none⟩) l.length F.1:=by
  rcases a8 with ⟨Y,_⟩|⟨K,c3,Y,ap⟩
  ·rw[f1] at Y;simp at Y
  rw[f1] at Y;simp only[X23,X25] at Y;obtain⟨rfl,rfl⟩:=Y;rw[ap];simp
 have af:=(m.ow 0 b F (by simp[qt]) f1).1;let Z:Nat->Nat:=λi=>min i (l.length-1);have ag :∀i,Z i<l.length:=λi=>by simp only[Z];omega
 let J:Nat->I A:=λi=>(Xb2 k).map λj=>f0 (Z i) j;have aq :∀x,(J x).length=k:=λx=>by simp[J]
 have M :∀i (H:i<l.length),(f l[i]).cells.length=k:=λi H=>by have:=g1 i (by simpa using H);simpa using this
 have a1 :∀i (H:i<l.length) j (Q:j<k),∃hj':j<(f l[i]).cells.length,qf S w ((f l[i]).cells[j]'hj') (f0 i j)/\((f l[i]).cells[j]'hj').isAgg=false:=by
  intro i H j Q;have hj':j<(f l[i]).cells.length:=by rw[M i H];exact Q
  refine⟨hj',?_,?_⟩
  ·have:=f7 i (by simpa using H) j (by simpa using hj');simpa using this
  have:=g2 i (by simpa using H) j (by simpa using hj');simpa using this
 have bc :∀x,∀v∈J x,v.oneCell'=true:=by intro x v hv;obtain⟨j,Q,rfl⟩:=Xaz.1 hv;obtain⟨hj',h2,h3⟩:=a1 (Z x) (ag x) j (by simpa using Q);exact h2.one h3
 have aa :∀(d:Array Nat) t,t<d.size*k->(flatK J k d)[t]! = f0 (Z d[t/k]!) (t%k):=by intro d t ht;have a7:0<k:=g0;rw[get_flatK _ _ _ _ ht];have:=Nat.mod_lt t a7;simp[J,this]
 have hH:HoldsK J k w b F.2 (Xc4 l.length):=by
  intro t ht;have bp:t<l.length*k:=by simpa using ht
  have a7:0<k:=g0;have hq:t/k<l.length:=Nat.div_lt_of_lt_mul (by rwa [Xbe]);rw[aa _ t (by simpa using bp)];have h1:(Xc4 l.length)[t/k]! = t/k:=by simp[hq]
  have h2:Z (t/k)=t/k:=by simp only[Z];omega
  have h3:=f6 (t/k) (t%k) (by simpa using hq) (Nat.mod_lt t a7);have h4:t/k*k+t%k=t:=by rw[Xbe];exact Nat.div_add_mod t k
  rw[h4] at h3;rw[h1,h2];refine⟨?_,?_⟩
  ·simp only[World.cell?,f2,id];exact h3
  simp[World.frozen?,f2]
 have ar :∀(n:Nat) (d:Array Nat) (os:Array Obj),OY S w S (sortWorldK J k w b F.2 n d os):=by intro n d os K o hS;obtain⟨h1,_⟩:=HK J k w b F.2 n d os af;have bq:K≠b:=λhe=>f8.1 o (by simp) (he▸hS);exact⟨hS,CE (h1 K (m.bS K o hS) bq) o⟩
 have ab :∀{W:B},OY S w S W->∀i (H:i<l.length),qf S W (f l[i]) (.agg ((Xb2 k).map λj=>f0 i j).toArray):=by
  intro W hK i H;have ha:=ax l[i];cases U:f l[i] with
  | agg cs=>
   have ah:cs.length=k:=by have:=M i H;rw[U] at this;exact this
   refine .agg cs _ (λj=>f0 i j) (by simp[ah]) (λj Q=>by simp[ah▸Q]) (λj Q=>?_) λj Q=>?_
   ·obtain⟨hj',_,h3⟩:=a1 i H j (ah▸Q);simp only[U,D.cells] at h3;exact h3
   obtain⟨hj',h2,_⟩:=a1 i H j (ah▸Q);simp only[U,D.cells] at h2;exact h2.mono hK
  | val v=>rw[U] at ha;simp[D.isAgg] at ha
  | nil sz=>rw[U] at ha;simp[D.isAgg] at ha
  | qY sz es=>rw[U] at ha;simp[D.isAgg] at ha
 have br :∀x,∃(H:Z x<l.length),J x=(Xb2 k).map λj=>f0 (Z x) j:=λx=>⟨ag x,rfl⟩;have au:CmpLays P g #[] J k (tP cmp l) b F.2 (Xc4 l.length).size w:=by
  intro q os dk c4 x y;obtain⟨w1,w2,w3,w4,w5,w6,w7⟩:=HK J k w b F.2 q dk os af;have hK:=ar q dk os;generalize hW:sortWorldK J k w b F.2 q dk os=W at *;have hx:=ag x;have hy:=ag y;obtain⟨c1,_⟩:=PM ae;obtain⟨rr,bd⟩:=c1 l[Z x] (Wu hx) l[Z y] (Wu hy);have bu:tP cmp l x y=rr:=by have e1:ua l x=some l[Z x]:=X14 hx;have e2:ua l y=some l[Z y]:=X14 hy;unfold tP;rw[e1,e2];simp[bd]
  have ai :∀r,qt [] r=none:=λr=>by simp[qt]
  have bw:rQ wl.low gb (IT (λ_:Nat=>(none:O (Nat×Rp))) ([]:I OB).length) S W:=by
   have e :∀K,gb K->W.heap[K]?=w.heap[K]?:=λK V=>w1 K (hg.lt K V) λhe=>hg.pb K V ⟨0,F,by simp,he▸f1⟩;refine⟨wl.ext _ _ _ e hg.gf,λK V=>Xaj (hg.lt K V) w2,?_,λK o V hc=>hg.st K o V ?_⟩
   ·rintro K V ⟨r,c,h1,_⟩;simp at h1
   rw[<- CE (e K V) o];exact hc
  refine ((ay bd).2 W S (λ_=>none) gb bw (#[.agg (J x).toArray,.agg (J y).toArray]++#[]) (by simp) (λi H=>?_) (λ_ _=>rfl) ⟨λr o ho=>by rw[ai] at ho;simp at ho,λr _ _ _ _ hr=>absurd (ai r) hr,λr o ho=>by rw[ai] at ho;simp at ho,λ_ _ h=>h,λ_ _ _=>rfl,λK o hS=>Xaj (m.bS K o hS) w2,λ_ _ h _ _=>h,λ_ _ _=>rfl,Xa2 _,λr _ _ hr=>absurd (ai r) hr,⟨rfl,rfl,rfl,.inr (Xa2 _)⟩⟩).mono λe' w' he=>?_
  ·refine⟨?_,?_⟩
   ·match i,H with
    | 0,_=>exact .d _ _ (ab hK (Z x) hx)
    | 1,_=>exact .d _ _ (ab hK (Z y) hy)
   match i,H with
   | 0,_=>exact A5 _ _
   | 1,_=>exact A5 _ _
  obtain⟨v,rfl,S',φ',mm,_,ap,_⟩:=he;refine⟨by rw[ap.int,bu],?_⟩;have bx :∀K,¬ IT (λ_:Nat=>(none:O (Nat×Rp))) ([]:I OB).length K:=by rintro K ⟨r,c,h1,_⟩;simp at h1
  refine jv (λK V=>mm.fr K V (bx K)) mm.sz mm.os.1 mm.os.2.1 mm.os.2.2.1 ?_;rcases mm.os.2.2.2 with h|h
  ·exact h.elim
  exact h
 have hc:=AnyQ.slices_SortFunc_eq L k aE zE J aq bc (tP cmp l) (Y0 ae hl) g #[] b F.2 F.1 (Xc4 l.length) w eg au hH af (by
  have:=(PM ae).2.2.2.2
  simp;omega)
 rw[hv,bb];have be:(Xc4 l.length).size=l.length:=by simp
 rw[be] at hc;refine hc.mono λe' w' ⟨he,n,os,hw⟩=>?_;have hd:pdq (ltOf (tP cmp l)) (Xc4 l.length) 0 l.length (Lib.bitLen l.length) true true=Gf cmp l:=rfl;rw[hd] at hw;obtain⟨w1,w2,w3,w4,w5,w6,w7⟩:=HK J k w b F.2 n (Gf cmp l) os af;rw[<- hw] at w1 w2 w3 w4 w5 w6 w7;have bf:=w3 _ _ _ f2;have aj :∀i (H:i<r.length),∃(hp:(Gf cmp l)[i]!<l.length),r[i]=l[(Gf cmp l)[i]!]:=by intro i H;obtain⟨p1,p2⟩:=ba i (by omega);rw[X14 H,X14 p1] at p2;exact⟨p1,X24 p2⟩
 obtain⟨m2,k2⟩:=m.tQ (es':=Xj f r) (cur':=putCells id F.2 (flatK J k (Gf cmp l)) vs) (w':=w') ao f1 f2 (by simp[b0])
  (λi H=>by
   have a6:i<r.length:=by simpa using H
   obtain⟨hp,he⟩:=aj i a6;simp only[Xam,he]
   exact M _ hp)
  (λi H j Q=>by
   have a6:i<r.length:=by simpa using H
   obtain⟨hp,he⟩:=aj i a6;simp only[Xam,he] at Q⊢;obtain⟨hj',_,h3⟩:=a1 _ hp j (by rw[M _ hp] at Q;exact Q)
   exact h3)
  bf (by simp[putCells]) (λK h1 h2=>w1 K h1 h2) w2 ⟨w4,w5,w6,w7⟩ (λi j=>f0 (Gf cmp l)[i]! j)
  (λi j H Q=>by
   have a6:i<r.length:=by simpa using H
   obtain⟨hp,he⟩:=aj i a6;have bz:i<l.length:=by omega
   have c0:i*k+j<l.length*k:=by have:=X30 k (show i+1<=l.length from bz);rw[X31,Nat.one_mul] at this;omega
   have bg:F.2+(i*k+j)<vs.size:=by
    have h3:l.length<=F.1:=by simpa using f3
    have:=X30 k h3;omega
   have e1:(i*k+j)/k=i:=by rw[Xbe,Nat.mul_add_div g0,Nat.div_eq_of_lt Q,Xcc]
   have e2:(i*k+j)%k=j:=by rw[Xbe,Nat.mul_add_mod,Xbd Q]
   have U:=aa (Gf cmp l) (i*k+j) (by rw[an];exact c0);rw[e1,e2] at U;have bh:Z (Gf cmp l)[i]! = (Gf cmp l)[i]!:=by simp only[Z];omega
   rw[bh] at U;simp only[putCells,Array.getElem?_mapIdx,Array.getElem?_eq_getElem bg,Xbf];rw[Xl ⟨by omega,by rw[size_flatK,an];omega⟩,show F.2+(i*k+j)-F.2=i*k+j by omega,U]
   rfl)
  (λi H j Q=>by
   have a6:i<r.length:=by simpa using H
   obtain⟨hp,he⟩:=aj i a6;simp only[Xam,he] at Q⊢;obtain⟨hj',h2,_⟩:=a1 _ hp j (by rw[M _ hp] at Q;exact Q)
   exact h2)
 rw[<- bm r] at m2 k2;exact⟨_,he,S,φ,m2,k2,.qT [] #[] (λ_=>Xbn) rfl (λi H=>by simp at H) (λi H=>by simp at H),λq hq=>by simp[AV.refs,AV.refs.refsL] at hq⟩
end Go.AX
end
section
namespace Go.Proofs
open Go.Shelf
def Tryz.uw:Go.Shelf.Ren:=⟨λ| 6=>82|15=>161|14=>160|28=>225|29=>226|20=>217|21=>218|22=>219|23=>220|24=>221|25=>222|26=>223|27=>224|46=>279|47=>280|48=>281|49=>282|50=>283|57=>313|n=>n,λ| 22=>28|24=>67|25=>113|3=>3|39=>86|0=>0|53=>262|55=>30|4=>4|46=>256|45=>255|50=>107|5=>5|9=>9|66=>284|70=>288|76=>303|77=>114|n=>n,λ| n=>n⟩
theorem Tryz.xq:Go.Proofs.SlLaysF0.n6 Xai Tryz.uw:={
 mixed:=by kernel_rfl
 f6:=⟨Tryz.f82.name,by decide,Tryz.func82.trans (Xae some (by kernel_rfl))⟩
 f14:=⟨Tryz.f160.name,by decide,Tryz.func160.trans (Xae some (by kernel_rfl))⟩
 f15:=Tryz.func161.trans (Xae some (by kernel_rfl))
 f20:=⟨Tryz.f217.name,by decide,Tryz.func217.trans (Xae some (by kernel_rfl))⟩
 f21:=⟨Tryz.f218.name,by decide,Tryz.func218.trans (Xae some (by kernel_rfl))⟩
 f22:=⟨Tryz.f219.name,by decide,Tryz.func219.trans (Xae some (by kernel_rfl))⟩
 f23:=⟨Tryz.f220.name,by decide,Tryz.func220.trans (Xae some (by kernel_rfl))⟩
 f24:=⟨Tryz.f221.name,by decide,Tryz.func221.trans (Xae some (by kernel_rfl))⟩
 f25:=⟨Tryz.f222.name,by decide,Tryz.func222.trans (Xae some (by kernel_rfl))⟩
 f26:=⟨Tryz.f223.name,by decide,Tryz.func223.trans (Xae some (by kernel_rfl))⟩
 f27:=⟨Tryz.f224.name,by decide,Tryz.func224.trans (Xae some (by kernel_rfl))⟩
 f28:=Tryz.func225.trans (Xae some (by kernel_rfl))
 f29:=Tryz.func226.trans (Xae some (by kernel_rfl))
 f46:=⟨Tryz.f279.name,by decide,Tryz.func279.trans (Xae some (by kernel_rfl))⟩
 f47:=Tryz.func280.trans (Xae some (by kernel_rfl))
 f48:=Tryz.func281.trans (Xae some (by kernel_rfl))
 f49:=⟨Tryz.f282.name,by decide,Tryz.func282.trans (Xae some (by kernel_rfl))⟩
 f50:=⟨Tryz.f283.name,by decide,Tryz.func283.trans (Xae some (by kernel_rfl))⟩
 f57:=⟨Tryz.f313.name,by decide,Tryz.func313.trans (Xae some (by kernel_rfl))⟩
 t0:=Tryz.underlying0
 a0:=Tryz.isAgg0
 z0:=Tryz.sizeOf0
 v0:=Tryz.zeroValue0
 t3:=Xd2
 a3:=Tryz.isAgg3
 z3:=Tryz.sizeOf3
 v3:=Tryz.zeroValue3
 t4:=Tryz.underlying4
 a4:=Tryz.isAgg4
 z4:=Tryz.sizeOf4
 v4:=Tryz.zeroValue4
 t5:=Tryz.underlying5
 a5:=Tryz.isAgg5
 z5:=Tryz.sizeOf5
 v5:=Tryz.zeroValue5
 t9:=Tryz.underlying9
 a9:=Tryz.isAgg9
 z9:=Tryz.sizeOf9
 v9:=Tryz.zeroValue9
 t22:=Tryz.underlying28
 a22:=Tryz.isAgg28
 z22:=Tryz.sizeOf28
 v22:=Tryz.zeroValue28
 t25:=Tryz.underlying113
 a25:=Tryz.isAgg113
 z25:=Tryz.sizeOf113
 v25:=Tryz.zeroValue113
 t39:=Tryz.underlying86
 a39:=Tryz.isAgg86
 z39:=Tryz.sizeOf86
 v39:=Tryz.zeroValue86
 t45:=Tryz.underlying255
 a45:=Tryz.isAgg255
 z45:=Tryz.sizeOf255
 v45:=Tryz.zeroValue255
 t46:=Tryz.underlying256
 a46:=Tryz.isAgg256
 z46:=Tryz.sizeOf256
 v46:=Tryz.zeroValue256
 t50:=Tryz.underlying107
 a50:=Tryz.isAgg107
 z50:=Tryz.sizeOf107
 v50:=Tryz.zeroValue107
 t53:=Tryz.underlying262
 a53:=Tryz.isAgg262
 z53:=Tryz.sizeOf262
 v53:=Tryz.zeroValue262
 t55:=Tryz.underlying30
 a55:=Tryz.isAgg30
 z55:=Tryz.sizeOf30
 v55:=Tryz.zeroValue30
 t66:=Tryz.underlying284
 a66:=Tryz.isAgg284
 z66:=Tryz.sizeOf284
 v66:=Tryz.zeroValue284
 t70:=Tryz.underlying288
 a70:=Tryz.isAgg288
 z70:=Tryz.sizeOf288
 v70:=Tryz.zeroValue288
 t76:=Tryz.underlying303
 a76:=Tryz.isAgg303
 z76:=Tryz.sizeOf303
 v76:=Tryz.zeroValue303
 t77:=Tryz.underlying114
 a77:=Tryz.isAgg114
 z77:=Tryz.sizeOf114
 v77:=Tryz.zeroValue114 }
def Tryz.tO:Go.Shelf.Ren:=⟨λ| 6=>242|15=>161|14=>294|28=>225|29=>226|20=>321|21=>322|22=>323|23=>324|24=>325|25=>326|26=>327|27=>328|46=>343|47=>280|48=>281|49=>344|50=>345|57=>358|n=>n,λ| 22=>35|24=>96|25=>271|3=>3|39=>86|0=>0|53=>262|55=>30|4=>4|46=>256|45=>255|50=>107|5=>5|9=>9|66=>284|70=>288|76=>303|77=>114|n=>n,λ| n=>n⟩
theorem Tryz.wv:Go.Proofs.SlLaysF0.n6 Xai Tryz.tO:={
 mixed:=by kernel_rfl
 f6:=⟨Tryz.f242.name,by decide,Tryz.func242.trans (Xae some (by kernel_rfl))⟩
 f14:=⟨Tryz.f294.name,by decide,Tryz.func294.trans (Xae some (by kernel_rfl))⟩
 f15:=Tryz.func161.trans (Xae some (by kernel_rfl))
 f20:=⟨Tryz.f321.name,by decide,Tryz.func321.trans (Xae some (by kernel_rfl))⟩
 f21:=⟨Tryz.f322.name,by decide,Tryz.func322.trans (Xae some (by kernel_rfl))⟩
 f22:=⟨Tryz.f323.name,by decide,Tryz.func323.trans (Xae some (by kernel_rfl))⟩
 f23:=⟨Tryz.f324.name,by decide,Tryz.func324.trans (Xae some (by kernel_rfl))⟩
 f24:=⟨Tryz.f325.name,by decide,Tryz.func325.trans (Xae some (by kernel_rfl))⟩
 f25:=⟨Tryz.f326.name,by decide,Tryz.func326.trans (Xae some (by kernel_rfl))⟩
 f26:=⟨Tryz.f327.name,by decide,Tryz.func327.trans (Xae some (by kernel_rfl))⟩
 f27:=⟨Tryz.f328.name,by decide,Tryz.func328.trans (Xae some (by kernel_rfl))⟩
 f28:=Tryz.func225.trans (Xae some (by kernel_rfl))
 f29:=Tryz.func226.trans (Xae some (by kernel_rfl))
 f46:=⟨Tryz.f343.name,by decide,Tryz.func343.trans (Xae some (by kernel_rfl))⟩
 f47:=Tryz.func280.trans (Xae some (by kernel_rfl))
 f48:=Tryz.func281.trans (Xae some (by kernel_rfl))
 f49:=⟨Tryz.f344.name,by decide,Tryz.func344.trans (Xae some (by kernel_rfl))⟩
 f50:=⟨Tryz.f345.name,by decide,Tryz.func345.trans (Xae some (by kernel_rfl))⟩
 f57:=⟨Tryz.f358.name,by decide,Tryz.func358.trans (Xae some (by kernel_rfl))⟩
 t0:=Tryz.underlying0
 a0:=Tryz.isAgg0
 z0:=Tryz.sizeOf0
 v0:=Tryz.zeroValue0
 t3:=Xd2
 a3:=Tryz.isAgg3
 z3:=Tryz.sizeOf3
 v3:=Tryz.zeroValue3
 t4:=Tryz.underlying4
 a4:=Tryz.isAgg4
 z4:=Tryz.sizeOf4
 v4:=Tryz.zeroValue4
 t5:=Tryz.underlying5
 a5:=Tryz.isAgg5
 z5:=Tryz.sizeOf5
 v5:=Tryz.zeroValue5
 t9:=Tryz.underlying9
 a9:=Tryz.isAgg9
 z9:=Tryz.sizeOf9
 v9:=Tryz.zeroValue9
 t22:=Tryz.underlying35
 a22:=Tryz.isAgg35
 z22:=Tryz.sizeOf35
 v22:=Tryz.zeroValue35
 t25:=Tryz.underlying271
 a25:=Tryz.isAgg271
 z25:=Tryz.sizeOf271
 v25:=Tryz.zeroValue271
 t39:=Tryz.underlying86
 a39:=Tryz.isAgg86
 z39:=Tryz.sizeOf86
 v39:=Tryz.zeroValue86
 t45:=Tryz.underlying255
 a45:=Tryz.isAgg255
 z45:=Tryz.sizeOf255
 v45:=Tryz.zeroValue255
 t46:=Tryz.underlying256
 a46:=Tryz.isAgg256
 z46:=Tryz.sizeOf256
 v46:=Tryz.zeroValue256
 t50:=Tryz.underlying107
 a50:=Tryz.isAgg107
 z50:=Tryz.sizeOf107
 v50:=Tryz.zeroValue107
 t53:=Tryz.underlying262
 a53:=Tryz.isAgg262
 z53:=Tryz.sizeOf262
 v53:=Tryz.zeroValue262
 t55:=Tryz.underlying30
 a55:=Tryz.isAgg30
 z55:=Tryz.sizeOf30
 v55:=Tryz.zeroValue30
 t66:=Tryz.underlying284
 a66:=Tryz.isAgg284
 z66:=Tryz.sizeOf284
 v66:=Tryz.zeroValue284
 t70:=Tryz.underlying288
 a70:=Tryz.isAgg288
 z70:=Tryz.sizeOf288
 v70:=Tryz.zeroValue288
 t76:=Tryz.underlying303
 a76:=Tryz.isAgg303
 z76:=Tryz.sizeOf303
 v76:=Tryz.zeroValue303
 t77:=Tryz.underlying114
 a77:=Tryz.isAgg114
 z77:=Tryz.sizeOf114
 v77:=Tryz.zeroValue114 }
def Tryz.tM:Go.Shelf.Ren:=⟨λ| 160=>284|232=>315|231=>314|227=>316|234=>318|233=>317|236=>320|235=>319|228=>339|271=>342|151=>341|197=>340|120=>357|152=>356|260=>355|137=>364|119=>365|224=>366|225=>367|217=>394|266=>405|n=>n,λ| 9=>9|4=>4|3=>3|5=>5|117=>308|116=>307|0=>0|124=>311|21=>21|105=>332|46=>86|119=>347|139=>350|138=>349|n=>n,λ| 3=>1|4=>2|n=>n⟩
theorem Tryz.wm:Go.Proofs.Lays.n160 Xai Tryz.tM:={
 mixed:=by kernel_rfl
 f119:=Tryz.func365.trans (Xae some (by kernel_rfl))
 f120:=Tryz.func357.trans (Xae some (by kernel_rfl))
 f137:=Tryz.func364.trans (Xae some (by kernel_rfl))
 f151:=Tryz.func341.trans (Xae some (by kernel_rfl))
 f152:=Tryz.func356.trans (Xae some (by kernel_rfl))
 f160:=Tryz.func284.trans (Xae some (by kernel_rfl))
 f197:=Tryz.func340.trans (Xae some (by kernel_rfl))
 f217:=Tryz.func394.trans (Xae some (by kernel_rfl))
 f224:=Tryz.func366.trans (Xae some (by kernel_rfl))
 f225:=Tryz.func367.trans (Xae some (by kernel_rfl))
 f227:=Tryz.func316.trans (Xae some (by kernel_rfl))
 f228:=Tryz.func339.trans (Xae some (by kernel_rfl))
 f231:=Tryz.func314.trans (Xae some (by kernel_rfl))
 f232:=Tryz.func315.trans (Xae some (by kernel_rfl))
 f233:=Tryz.func317.trans (Xae some (by kernel_rfl))
 f234:=Tryz.func318.trans (Xae some (by kernel_rfl))
 f235:=Tryz.func319.trans (Xae some (by kernel_rfl))
 f236:=Tryz.func320.trans (Xae some (by kernel_rfl))
 f260:=Tryz.func355.trans (Xae some (by kernel_rfl))
 f266:=Tryz.func405.trans (Xae some (by kernel_rfl))
 f271:=Tryz.func342.trans (Xae some (by kernel_rfl))
 t0:=Tryz.underlying0
 a0:=Tryz.isAgg0
 z0:=Tryz.sizeOf0
 v0:=Tryz.zeroValue0
 t3:=Xd2
 a3:=Tryz.isAgg3
 z3:=Tryz.sizeOf3
 v3:=Tryz.zeroValue3
 t4:=Tryz.underlying4
 a4:=Tryz.isAgg4
 z4:=Tryz.sizeOf4
 v4:=Tryz.zeroValue4
 t5:=Tryz.underlying5
 a5:=Tryz.isAgg5
 z5:=Tryz.sizeOf5
 v5:=Tryz.zeroValue5
 t9:=Tryz.underlying9
 a9:=Tryz.isAgg9
 z9:=Tryz.sizeOf9
 v9:=Tryz.zeroValue9
 t21:=Tryz.underlying21
 a21:=Tryz.isAgg21
 z21:=Tryz.sizeOf21
 v21:=Tryz.zeroValue21
 t46:=Tryz.underlying86
 a46:=Tryz.isAgg86
 z46:=Tryz.sizeOf86
 v46:=Tryz.zeroValue86
 t105:=Tryz.underlying332
 a105:=Tryz.isAgg332
 z105:=Tryz.sizeOf332
 v105:=Tryz.zeroValue332
 t116:=Tryz.underlying307
 a116:=Tryz.isAgg307
 z116:=Tryz.sizeOf307
 t117:=Tryz.underlying308
 a117:=Tryz.isAgg308
 z117:=Tryz.sizeOf308
 v117:=Tryz.zeroValue308
 t119:=Tryz.underlying347
 a119:=Tryz.isAgg347
 z119:=Tryz.sizeOf347
 t124:=Tryz.underlying311
 a124:=Tryz.isAgg311
 z124:=Tryz.sizeOf311
 v124:=Tryz.zeroValue311
 t138:=Tryz.underlying349
 a138:=Tryz.isAgg349
 z138:=Tryz.sizeOf349
 v138:=Tryz.zeroValue349
 t139:=Tryz.underlying350
 a139:=Tryz.isAgg350
 z139:=Tryz.sizeOf350
 v139:=Tryz.zeroValue350
 g3:=by kernel_rfl
 g4:=by kernel_rfl }
end Go.Proofs
namespace Go.Maps
end Go.Maps
namespace Go.AX.Q25
open Go Go.AX Go.Proofs Go.Maps Go.Sort Go.Shelf Go.RowKit
theorem YQ {wl:WL}{X:Type}{f:X->D}{cmp:X->X->Option Int}{g:Nat}(J :∀args w,(callFunc g args).run Tryz.prog w=.ok (.enter g args) w)(F :∀{a b r},cmp a b=some r->A0 wl.low Tryz.prog g [.d (f a),.d (f b)] [] (.d (D.i r)) []){l r:List X}(h:GM cmp l=some r)(H :∀x,(f x).isAgg=true:=by exact λ_=>rfl):A0 wl Tryz.prog 82 [.own 0 (List.map f l).length,.fn g []] [.row 67 4 (List.map f l) .no] (.qT []) [.row 67 4 (List.map f r) .no]:=
 V5 Tryz.xq (jj Tryz.func82 (by kernel_rfl) (by kernel_rfl)) Tryz.isAgg67 Tryz.sizeOf67 J H F h
theorem Ph {wl:WL}{X:Type}{f:X->D}{cmp:X->X->Option Int}{g:Nat}(J :∀args w,(callFunc g args).run Tryz.prog w=.ok (.enter g args) w)(F :∀{a b r},cmp a b=some r->A0 wl.low Tryz.prog g [.d (f a),.d (f b)] [] (.d (D.i r)) []){l r:List X}(h:GM cmp l=some r)(H :∀x,(f x).isAgg=true:=by exact λ_=>rfl):A0 wl Tryz.prog 242 [.own 0 (List.map f l).length,.fn g []] [.row 96 3 (List.map f l) .no] (.qT []) [.row 96 3 (List.map f r) .no]:=
 V5 Tryz.wv (jj Tryz.func242 (by kernel_rfl) (by kernel_rfl)) Tryz.isAgg96 Tryz.sizeOf96 J H F h
theorem YG {wl:WL}{s cut r:T}(h:Zl s cut=some r):A0 wl Xai 284 [.d (D.s s),.d (D.s cut)] [] (.d (D.s r)) []:=
 iC Tryz.wm (jj Tryz.func284 (by kernel_rfl) (by kernel_rfl)) (by kernel_rfl) h
end Go.AX.Q25
end
section
namespace Go.AX.Q25
open Go Go.AX Go.Proofs
variable {wl:Prop}
instance {F:I ls}:CK (AT F) 213 [ed F,AV.fn 214 [],AV.fn 215 []] [] ed oN:=Wf 0 Tryz.f213 λh=>by unfold AT at h;exact Wg (.y 39 39 (.a (.f 9 3 ls.fv (λH _=>⟨[(0,y5 F),(1,AV.fn 214 []),(2,AV.fn 215 []),(9,y5 F),(10,yi (F.length:Int)),(11,yi (H:Int))],[]⟩) (λ_ H K=>.g (.k (λJ=>⟨[(34,yb J)],[]⟩)))) (λ_=>⟨[(0,y5 F)],[]⟩))) h
instance {F:I ls}:CK (Bi F) 156 [ed F] [] ed oN:=Wf 0 Tryz.f156 λh=>by unfold Bi at h;exact Wg .z h
instance {F:Int}:CK (Da F) 216 [ed F] [] ed oN:=Wf 0 Tryz.f216 λh=>by unfold Da at h;exact Wg (.y 15 15 (.k (λH=>⟨[(2,yb H)],[]⟩))) h
instance {F:I gF}:CK (Ci F) 157 [ed F] [] ed oN:=Wf 0 Tryz.f157 λh=>by unfold Ci at h;exact Wg (.y 52 52 (.a (.f 5 3 gF.fv (λH _=>⟨[(0,y6 F),(5,y6 F),(6,yi (F.length:Int)),(7,yi (H:Int))],[]⟩) (λ_ H K=>.g (.k (λJ=>⟨[(47,yb J)],[]⟩)))) (λ_=>⟨[(0,y6 F)],[]⟩))) h
instance Mc {F:gE}:CK (Be F) 77 [ed F] [] ed oN:=Wf 0 Tryz.f77 λh=>by unfold Be at h;exact Wg (.y 51 51 (.k (λH=>⟨[(2,yb H)],[]⟩))) h
instance SG {F:iA}:CK (Ef F) 26 [ed F] [] ed oN:=Wf 0 Tryz.f26 λh=>by unfold Ef at h;exact Wg (.y 104 104 (.d (λH=>⟨[(1,yr 1 0),(34,yb H)],[(1,yB (iA.av F))]⟩) λH=>.b .z (.a (.f 36 18 fT.fv (λJ _=>⟨[(34,X),(36,AV.d (D.l 18 fT.fv F.fT)),(37,yi (F.fT.length:Int)),(38,yi (J:Int))],[]⟩) (λ_ J M=>.g (.k (λK=>⟨[(100,yb K)],[]⟩)))) (λ_=>⟨[(34,X)],[]⟩)))) h
instance {F:fI}:CK (H8 F) 90 [ed F] [] ed oN:=Wf 0 Tryz.f90 λh=>by unfold H8 at h;exact Wg .z h
instance {F:rc}:CK (II F) 93 [ed F] [] ed oN:=Wf 0 Tryz.f93 λh=>by unfold II at h;exact Wg (.y 18 18 (.k (λH=>⟨[(2,yb H)],[]⟩))) h
instance {F:Int}:CK (IG F) 95 [ed F] [] ed oN:=Wf 0 Tryz.f95 λh=>by unfold IG at h;exact Wg .z h
instance {F:Addr}:CK (Jn F) 97 [ed F] [] ed oN:=Wf 0 Tryz.f97 λh=>by unfold Jn at h;exact Wg .z h
instance {F:oB}:CK (ID F) 96 [ed F] [] ed oN:=Wf 0 Tryz.f96 λh=>by unfold ID at h;exact Wg (.y 26 26 (.k (λH=>⟨[(2,yb H)],[]⟩))) h
instance {F:Int}:CK (Ox F) 235 [ed F] [] ed oN:=Wf 0 Tryz.f235 λh=>by unfold Ox at h;exact Wg .z h
instance {F:Int} {H:Int} {J:Int}:CK (Iw F H J) 285 [ed F,ed H,ed J] [] ed oN:=Wf 0 Tryz.f285 λh=>by unfold Iw at h;exact Wg (.y 15 15 (.k (λK=>⟨[(6,yb K)],[]⟩))) h
instance {F:T}:CK (HW F) 237 [ed F] [] ed oN:=Wf 0 Tryz.f237 λh=>by refine⟨rfl,?_⟩;unfold HW at h;(conv=>whnf);refine A7 h (λ_ g=>YG g) λ_ h=>?_;exact Wg (.y 13 13 (.k (λH=>⟨[(2,yb H)],[]⟩))) h
instance {F:T}:CK (O0 F) 236 [ed F] [] ed oN:=Wf 0 Tryz.f236 λh=>by unfold O0 at h;exact Wg .z h
instance {F:I Int}:CK (Bc F) 167 [ed F,AV.fn 235 []] [] ed oN:=Wf 0 Tryz.f167 λh=>by unfold Bc at h;exact Wg (.y 19 19 (.a (.f0 6 1 D.i (λH _=>⟨[(0,y2 F),(1,AV.fn 235 []),(6,y2 F),(7,yi (F.length:Int)),(8,yi (H:Int))],[]⟩)) (λ_=>⟨[],[]⟩))) h
instance {F:I Int}:CK (BW F) 94 [ed F,AV.fn 235 []] [] ed oN:=Wf 0 Tryz.f94 λh=>by unfold BW at h;exact Wg .z h
instance {F:I T}:CK (BH F) 286 [ed F,AV.fn 236 []] [] ed oN:=Wf 0 Tryz.f286 λh=>by unfold BH at h;exact Wg (.y 19 19 (.a (.f0 6 1 D.s (λH _=>⟨[(0,y7 F),(1,AV.fn 236 []),(6,y7 F),(7,yi (F.length:Int)),(8,yi (H:Int))],[]⟩)) (λ_=>⟨[],[]⟩))) h
instance {F:I T}:CK (BD F) 238 [ed F,AV.fn 236 []] [] ed oN:=Wf 0 Tryz.f238 λh=>by unfold BD at h;exact Wg .z h
instance {F:Set}:CK (VM F) 169 [ed F] [] ed oN:=Wf 0 Tryz.f169 λh=>by unfold VM at h;exact Wg (.y 34 34 (.k (λH=>⟨[(2,yb H)],[]⟩))) h
instance {F:fI}:CK (PE F) 170 [ed F] [] ed oN:=Wf 0 Tryz.f170 λh=>by unfold PE at h;exact Wg .z h
instance {F:qS}:CK (Og F) 99 [ed F] [] ed oN:=Wf 0 Tryz.f99 λh=>by unfold Og at h;exact Wg (.y 73 73 (.c (.f 10 3 Set.fv (λK M=>⟨[(1,yr 1 0),(3,AV.mp 8),(10,AV.d (D.l 3 Set.fv F.pk)),(11,yi (F.pk.length:Int)),(12,yi (K:Int))],[(1,yB (qS.av F)),(8,some (OB.map 9 4 (Bh D.s D.b M)))]⟩) (λM K Q=>.g (.k (λU=>⟨[(5,yr 5 0),(24,yb U)],[(5,yB (Set.av Q))]⟩)))) (λ_=>⟨[(1,yr 1 0)],[(1,yB (qS.av F))]⟩) λ_=>.c (.f 30 6 oB.fv (λP _=>⟨[(30,AV.d (D.l 6 oB.fv F.oX)),(31,yi (F.oX.length:Int)),(32,yi (P:Int))],[]⟩) (λ_ P V=>.g (.k (λH=>⟨[(61,yb H)],[]⟩)))) (λ_=>⟨[],[]⟩) λ_=>.k (λJ=>⟨[(1,X),(2,yb J)],[(1,N)]⟩))) h
instance {F:I fI}:CK (As F) 162 [ed F,AV.fn 90 []] [] ed oN:=Wf 0 Tryz.f162 λh=>by unfold As at h;exact Wg (.y 19 19 (.a (.f0 6 4 fI.fv (λH _=>⟨[(0,y8 F),(1,AV.fn 90 []),(6,y8 F),(7,yi (F.length:Int)),(8,yi (H:Int))],[]⟩)) (λ_=>⟨[],[]⟩))) h
instance {F:I fI}:CK (Ac F) 91 [ed F,AV.fn 90 []] [] ed oN:=Wf 0 Tryz.f91 λh=>by unfold Ac at h;exact Wg .z h
instance {F:I rc}:CK (A4 F) 166 [ed F,AV.fn 93 []] [] ed oN:=Wf 0 Tryz.f166 λh=>by unfold A4 at h;exact Wg (.y 19 19 (.a (.f0 6 2 rc.fv (λH _=>⟨[(0,y9 F),(1,AV.fn 93 []),(6,y9 F),(7,yi (F.length:Int)),(8,yi (H:Int))],[]⟩)) (λ_=>⟨[],[]⟩))) h
instance {F:I rc}:CK (Aw F) 92 [ed F,AV.fn 93 []] [] ed oN:=Wf 0 Tryz.f92 λh=>by unfold Aw at h;exact Wg .z h
instance {F:I Int}:CK (BN F) 167 [ed F,AV.fn 95 []] [] ed oN:=Wf 0 Tryz.f167 λh=>by unfold BN at h;exact Wg (.y 19 19 (.a (.f0 6 1 D.i (λH _=>⟨[(0,y2 F),(1,AV.fn 95 []),(6,y2 F),(7,yi (F.length:Int)),(8,yi (H:Int))],[]⟩)) (λ_=>⟨[],[]⟩))) h
instance {F:I Int}:CK (BE F) 94 [ed F,AV.fn 95 []] [] ed oN:=Wf 0 Tryz.f94 λh=>by unfold BE at h;exact Wg .z h
instance {F:I oB}:CK (Aq F) 168 [ed F,AV.fn 96 []] [] ed oN:=Wf 0 Tryz.f168 λh=>by unfold Aq at h;exact Wg (.y 19 19 (.a (.f0 6 6 oB.fv (λH _=>⟨[(0,tI F),(1,AV.fn 96 []),(6,tI F),(7,yi (F.length:Int)),(8,yi (H:Int))],[]⟩)) (λ_=>⟨[],[]⟩))) h
instance {F:I oB}:CK (Am F) 98 [ed F,AV.fn 96 []] [] ed oN:=Wf 0 Tryz.f98 λh=>by unfold Am at h;exact Wg .z h
instance QT {F:qI}:CK (Jy F) 48 [ed F] [] ed oN:=Wf 0 Tryz.f48 λh=>by unfold Jy at h;exact Wg (.y 117 117 (.d (λH=>⟨[(1,yr 1 0),(38,yb H)],[(1,yB (qI.av F))]⟩) λH=>.b .z (.d (λJ=>⟨[(38,X),(88,yb J)],[]⟩) λJ=>.b .z (.d (λK=>⟨[(88,X),(98,yb K)],[]⟩) λK=>.b .z (.d (λM=>⟨[(98,X),(106,yb M)],[]⟩) λM=>.b .z (.k (λP=>⟨[(1,X),(2,yb P),(106,X)],[(1,N)]⟩))))))) h
instance {F:fI}:CK (IF F) 100 [ed F] [] ed oN:=Wf 0 Tryz.f100 λh=>by unfold IF at h;exact Wg .z h
instance {F:gE}:CK (Jf F) 171 [ed F] [] ed oN:=Wf 2 Tryz.f171 λh=>by unfold Jf at h;exact Wg (.y 56 58 (.c (.i Tryz.f239 56 .z) (λ_=>⟨[(1,yr 1 0),(4,AV.d (D.agg [D.i (-1),D.nil 2,D.b false,D.u64 (0:j),D.u64 (0:j),D.i (-1),D.i (-1),D.i (-1),D.nil 2,D.nil 3,D.nil 3]))],[(1,yB (gE.av F))]⟩) λ_=>.k (λH=>⟨[(1,X),(2,yb H),(4,X)],[(1,N)]⟩))) h
instance {F:fI} {H:qC}:CK (Is F H) 172 [ed F,.ref 0 0] [.box (qC.av H)] (λr=>.d (D.b r.1)) (λr=>[.box (qC.av r.2)]):=Wf 0 Tryz.f172 λh=>by unfold Is at h;exact Wg .z h
instance {H:I fI} {F:qC}:CK (Av H F) 162 [ed H,AV.fn 172 [.ref 0 0]] [.box (qC.av F)] (λr=>.d (D.i r.1)) (λr=>[.box (qC.av r.2)]):=Wf 0 Tryz.f162 λh=>by unfold Av at h;exact Wg (.y 19 20 (.a (.f0 6 4 fI.fv (λJ K=>⟨[(0,y8 H),(1,AV.fn 172 [yr 0 0]),(6,y8 H),(7,yi (H.length:Int)),(8,yi (J:Int))],[(0,yB (qC.av K))]⟩)) (λM=>⟨[],[(0,yB (qC.av M))]⟩))) h
instance {H:I fI} {F:qC}:CK (Ao H F) 91 [ed H,AV.fn 172 [.ref 0 0]] [.box (qC.av F)] (λr=>.d (D.b r.1)) (λr=>[.box (qC.av r.2)]):=Wf 0 Tryz.f91 λh=>by unfold Ao at h;exact Wg .z h
instance {F:qC}:CK (KF F) 101 [ed F] [] ed oN:=Wf 0 Tryz.f101 λh=>by unfold KF at h;exact Wg (.b .z (.y 35 35 (.k (λH=>⟨[(2,yb H)],[]⟩)))) h
instance {F:I gF}:CK (IE F) 173 [ed F] [] e2 oN:=Wf 0 Tryz.f173 λh=>by unfold IE at h;exact Wg (.y 80 80 (.c (.f 11 3 gF.fv (λM _=>⟨[(0,y6 F),(11,y6 F),(12,yi (F.length:Int)),(13,yi (M:Int))],[]⟩) (λ_ M V=>.g (.k (λU=>⟨[(32,yb U)],[]⟩)))) (λ_=>⟨[(0,y6 F)],[]⟩) λ_=>.a (.f 34 3 gF.fv (λP J=>⟨[(0,X),(6,yO 6 D.u8 J),(34,y6 F),(35,yi (F.length:Int)),(36,yi (P:Int))],[(6,yR 5 1 D.u8 J)]⟩) (λJ P K=>.g (.k (λH=>⟨[(6,yO 6 D.u8 H),(8,yr 8 0)],[(6,yR 5 1 D.u8 H),(8,yB (gF.av K))]⟩)))) (λQ=>⟨[(0,X),(6,yO 6 D.u8 Q)],[(6,yR 5 1 D.u8 Q)]⟩))) h
instance {F:Addr}:CK (FN F) 241 [ed F] [] ed oN:=Wf 0 Tryz.f241 λh=>by
 refine⟨rfl,?_⟩;unfold FN at h;(conv=>whnf);refine A7 h (λ_=>TO.ok) λ_ h=>?_;refine rf ?_;refine EQ h ?_ ?_<;>intro h
 ·exact Wg .z h
 refine A8 h (λH=>⟨X::yr 1 0::X::yi H::dd 34 ([]),N::yB (Addr.av F)::nn 36 ([])⟩) ?_ ?_
 ·intro _ h;exact Wg .z h
 rintro H h;obtain⟨_,M,h⟩:=Aa h;refine⟨mJ M (X28 rfl),D.u8 (0:S),rfl,(Xj D.u8 (Xal (Xi H) (0:S))),List.map_replicate.symm,?_⟩;exact Wg (.y 38 38 (.a (.w0 (u3 λP Q J=>⟨[(1,yr 1 0),(4,yO 12 D.u8 J),(5,yi P)],[(1,yB (Addr.av Q)),(12,yR 5 1 D.u8 J)]⟩)) (λK=>⟨[(4,yO 12 D.u8 K)],[(12,yR 5 1 D.u8 K)]⟩))) h
instance {H:I S} {F:I fI} {J:C}:CK (HY H F J) 175 [AV.own 0 (Xj D.u8 H).length,ed F,ed J] [.row 5 1 (Xj D.u8 H) .no] (λr=>AV.own 0 (Xj D.u8 r).length) (λr=>[.row 5 1 (Xj D.u8 r) .no]):=Wf 0 Tryz.f175 λh=>by unfold HY at h;exact Wg (.y 37 38 (.a (.f 9 4 fI.fv (λM K=>⟨[(0,yO 0 D.u8 K),(2,yb J),(9,y8 F),(10,yi (F.length:Int)),(11,yi (M:Int))],[(0,yR 5 1 D.u8 K)]⟩) (λK M U=>.g (.k (λP=>⟨[(0,yO 0 D.u8 P)],[(0,yR 5 1 D.u8 P)]⟩)))) (λQ=>⟨[(0,yO 0 D.u8 Q)],[(0,yR 5 1 D.u8 Q)]⟩))) h
instance {H:I S} {F:I Int}:CK (E9 H F) 289 [AV.own 0 (Xj D.u8 H).length,ed F] [.row 5 1 (Xj D.u8 H) .no] (λr=>AV.own 0 (Xj D.u8 r).length) (λr=>[.row 5 1 (Xj D.u8 r) .no]):=Wf 0 Tryz.f289 λh=>by unfold E9 at h;exact Wg (.y 29 30 (.a (.f0 7 1 D.i (λM J=>⟨[(0,yO 0 D.u8 J),(7,y2 F),(8,yi (F.length:Int)),(9,yi (M:Int))],[(0,yR 5 1 D.u8 J)]⟩)) (λK=>⟨[(0,yO 0 D.u8 K)],[(0,yR 5 1 D.u8 K)]⟩))) h
instance {F:I oA}:CK (GA F) 288 [ed F] [] ed oN:=Wf 0 Tryz.f288 λh=>by unfold GA at h;exact Wg (.y 28 28 (.a (.f 7 2 oA.fv (λJ H=>⟨[(3,yO 3 D.u8 H),(7,y3 F),(8,yi (F.length:Int)),(9,yi (J:Int))],[(3,yR 5 1 D.u8 H)]⟩) (λH J M=>.g (.k (λP=>⟨[(5,yr 5 0),(6,yv P)],[(5,yB (oA.av M))]⟩)))) (λK=>⟨[(3,yO 3 D.u8 K)],[(3,yR 5 1 D.u8 K)]⟩))) h
instance Ix {F:I oF}:CK (EP F) 290 [ed F] [] ed oN:=Wf 0 Tryz.f290 λh=>by unfold EP at h;exact Wg (.y 23 23 (.a (.f0 6 2 oF.fv (λK H=>⟨[(3,yO 3 D.u8 H),(6,y4 F),(7,yi (F.length:Int)),(8,yi (K:Int))],[(3,yR 5 1 D.u8 H)]⟩)) (λJ=>⟨[(3,yO 3 D.u8 J)],[(3,yR 5 1 D.u8 J)]⟩))) h
instance Me {F:I ls}:CK (HL F) 291 [ed F] [] ed oN:=Wf 0 Tryz.f291 λh=>by unfold HL at h;exact Wg (.y 23 23 (.a (.f0 6 3 ls.fv (λK H=>⟨[(3,yO 3 D.u8 H),(6,y5 F),(7,yi (F.length:Int)),(8,yi (K:Int))],[(3,yR 5 1 D.u8 H)]⟩)) (λJ=>⟨[(3,yO 3 D.u8 J)],[(3,yR 5 1 D.u8 J)]⟩))) h
instance {F:I S}:CK (EA F) 292 [ed F] [] ed oN:=Wf 0 Tryz.f292 λh=>by
 refine⟨rfl,?_⟩;unfold EA at h;refine⟨?_,λH=>?_⟩
 ·exact Wg .z h
 obtain rfl:F=[]:=(by simpa using H);replace h:=iL h;exact Wg .z h
instance Ku {F:gF}{H:gF}:CK (Bt F H) 293 [ed F,ed H] [] ed oN:=Wf 0 Tryz.f293 λh=>by unfold Bt at h;exact Wg .z h
instance EX {F:I Int}:CK (DW F) 289 [.d (D.nil 1),ed F] [] ed oN:=Wf 0 Tryz.f289 λh=>by unfold DW at h;exact Wg (.y 29 29 (.a (.f0 7 1 D.i (λK H=>⟨[(0,yO 26 D.u8 H),(7,y2 F),(8,yi (F.length:Int)),(9,yi (K:Int))],[(26,yR 5 1 D.u8 H)]⟩)) (λJ=>⟨[(0,yO 26 D.u8 J)],[(26,yR 5 1 D.u8 J)]⟩))) h
instance Ob {F:gF}{H:gF}:CK (I0 F H) 243 [ed F,ed H] [] ed oN:=Wf 0 Tryz.f243 λh=>by unfold I0 at h;exact Wg .z h
instance MB {F:I fI}{H:C}:CK (Ey F H) 175 [.d (D.nil 1),ed F,ed H] [] ed oN:=Wf 0 Tryz.f175 λh=>by unfold Ey at h;exact Wg (.y 37 37 (.a (.f 9 4 fI.fv (λK J=>⟨[(0,yO 25 D.u8 J),(2,yb H),(9,y8 F),(10,yi (F.length:Int)),(11,yi (K:Int))],[(25,yR 5 1 D.u8 J)]⟩) (λJ K Q=>.g (.k (λM=>⟨[(0,yO 25 D.u8 M)],[(25,yR 5 1 D.u8 M)]⟩)))) (λP=>⟨[(0,yO 25 D.u8 P)],[(25,yR 5 1 D.u8 P)]⟩))) h
end Go.AX.Q25
end
