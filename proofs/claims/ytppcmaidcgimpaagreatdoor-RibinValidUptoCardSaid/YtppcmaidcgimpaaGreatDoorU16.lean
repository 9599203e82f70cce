/-
  Texts of one proof, packed.
-/
import Derived.Test.YtppcmaidcgimpaaGreatDoorU14
import Derived.Test.YtppcmaidcgimpaaGreatDoorU15
import Derived.Test.YtppcmaidcgimpaaGreatDoorU8
import Derived.Laws.Externs
import Derived.Laws.IdiomCopy
import Derived.Laws.NewBlocks
import Derived.Lib.AppendZeros
import Derived.Lib.AppendZerosOnto
import Derived.Lib.JoinLaws
import Derived.Lib.Overlaps
import Derived.Lib.SliceRun
import Derived.Lib.Walk
import Derived.Shelf.RegionOpenPlain
import Derived.Shelf.SlIter.Nil
import Derived.Shelf.SlSortCmp.Insertion
import Derived.Shelf.Spec.SlicesInsert
import Derived.Sort.AssemblyPlain
import Derived.WalkKit
set_option linter.all false
set_option maxRecDepth 100000
set_option maxHeartbeats 4000000
open List renaming length_map→X10,length_append→X11,mem_singleton→X14,getElem?_eq_getElem→X15,length_drop→X17,length_take→X18,mem_cons_of_mem→X19,length_replicate→X20,length_set→X21
open Option.some renaming injEq→X24,inj→X25
open Prod.mk renaming injEq→X26
open Bool renaming and_eq_true→X27
open Nat renaming mul_le_mul_right→X31
open List renaming map→Xa1,range→Xbv
open Go.Builtin renaming zeroCells→Xao,append_→Xcg
open Go renaming run_underlying→Xa7,maxLen→Xb3,Operand→Xbq,undef→Xck,execOp→Xc7,Program→Xcv,typeInfo→Xer
open Go.World renaming cell?_setCells_out→Xbc,cell?_setCells_in→Xd9
open Array renaming range→Xeb
open Go.Region renaming wanted→Xcz
open Go.WideElems renaming rg→Xd6
open Go.WideShapes renaming sorted_perm→Xdo
open Go.Shelf renaming Ren→Xe9
open Go.Fence renaming wide→Xef
section
namespace Go.AX
open Go.Proofs Go.Maps Go.Sort Go.Shelf Go.RowKit
def SK {V:Type}(m:I (T×V)):O (I T):=
 if (m.map (·.1)).Nodup/\(m.all λp=>decide (p.1.size<=Xb3))=true/\m.length<=1000000000000 then some (((m.map (·.1.data.toList)).mergeSort λx y=>decide (x<=y)).map λl=>⟨l.toArray⟩) else none
def Uy {wl:WL}{P:Xcv}{H J:Xe9}(LK:SlLaysZ.n7 P H)(LS:SlLaysZ.n6 P J)(hf:bW P (J.f 6))(Z :∀m,AnyZ.SortsIn P J Xef m) (e9 :∀args w,(callFunc (J.f 9) args).run P w=.ok (.enter (J.f 9) args) w) (eg :∀args w,(callFunc (H.f 10) args).run P w=.ok (.enter (H.f 10) args) w) {V:Type} {ev:V->D} {m:I (T×V)} {r:I T} (h:SK m=some r) {k e:Nat} : Ao wl.high P (J.f 6) [.it (H.f 10) 0] [.map k e (Am D.s ev m)] (.own 1 (Xa1 D.s r).length) [.map k e (Am D.s ev m),.row (J.t 26) 1 (Xa1 D.s r) .no]:=by
 unfold SK at h;split at h;rotate_left
 ·simp at h
 rename_i a1;obtain⟨aj,ak,aq⟩:=a1;obtain rfl:=X25 h;refine⟨hf,λw S φ gb hg aa hs hr hn mm=>?_⟩;have r0:=(hr 0 (by simp)).1;simp only[Xaz] at r0;generalize hv:aa.getD 0 Xck=v at r0;have hv:=YP hs hv;cases r0 with|it _ _ b c B ab hb au hS a6=>
 rw[hv];obtain⟨b',c',arr,M,q1,q2,⟨q3,q4⟩,q5,q6⟩:=mm.obj 0 _ (show vi [OB.map k e (Am D.s ev m)] 0=some _ from rfl);rw[ab] at q1;simp only[X24,X26] at q1;obtain⟨rfl,rfl⟩:=q1;have w8:arr.size=m.length:=by rw[q3];simp[Am]
 have ae :∀i (hi:i<m.length),arr[i]?.map (·.key)=some (.string m[i].1):=by intro i hi;obtain⟨x,g1,⟨u,g2,g3,_⟩,_⟩:=q6 i (by simpa[Am] using hi);simp only[Am,Xb2] at g2;rw[g1];simp only[Xbf,g3];injection g2 with g2;rw[<- g2]
 have K:arr.toList.map (·.key)=m.map λp=>Value.string p.1:=by
  apply List.ext_getElem?;intro i;by_cases hi:i<m.length
  ·have:=ae i hi;simp only[Xd3,Array.getElem?_toList,X15 hi,Xbf];exact this
  rw[Xc1 (by simp;omega),Xc1 (by simp;omega)]
 let R:A->O (DataW Unit×I MemPlace):=λ_=>some (.nil,[]);have hu:P.underlying (H.t 26)=some .string:=LK.t26;have af :∀x∈arr.toList,∃n:T,x.key=.string n/\keyOf P (H.t 26) x.key=some (.string n.data.toList):=by
  intro x hx;have:x.key∈arr.toList.map (·.key):=Xaf.2 ⟨x,hx,rfl⟩;rw[K] at this;obtain⟨p,hp,he⟩:=Xaf.1 this;have hw:p.1.size<=Xb3:=by have:=Xa0.1 ak p hp;simpa using this
  exact⟨p.1,he.symm,by rw[<- he];simp[keyOf,hu,mapKey,hw]⟩
 have F:WideElems.Fit P (H.t 26) R arr M:=by
  refine⟨by unfold Xb3;omega,⟨q4.1,q4.2,?_⟩,λx hx=>?_⟩
  ·rw[K];have:(m.map λp=>Value.string p.1)=(m.map (·.1)).map Value.string:=by simp
   rw[this];exact List.pairwise_map.2 (aj.imp λh e=>h (by injection e))
  obtain⟨n,_,h2⟩:=af x hx;exact⟨_,by simp[WideElems.rd,h2,R];rfl⟩
 have hD :∃D0:DataW Unit,w.ownsMap P (H.t 26) R b arr.size D0/\(strKeys D0).Perm (m.map (·.1.data.toList))/\Maps.size D0=m.length:=by
  refine⟨_,⟨arr,M,q2,F,Xam _,rfl⟩,?_,?_⟩
  ·have h1:=(Xdo (arr.toList.map (Xd6 P (H.t 26) R))).map λp=>strOf p.1;refine h1.trans ?_;have:(arr.toList.map (Xd6 P (H.t 26) R)).map (λp=>strOf p.1)=m.map (·.1.data.toList):=by
    have h2:arr.toList.map (λx=>(Xd6 P (H.t 26) R x).1)=(arr.toList.map (·.key)).map λv=>match v with|.string n=>Lit.string n.data.toList|_=>.bool false:=by rw[List.map_map];apply List.map_congr_left;intro x hx;obtain⟨n,g1,g2⟩:=af x hx;rw[g1] at g2;simp[Xd6,WideElems.rd,g2,R,g1]
    have h3:(arr.toList.map (Xd6 P (H.t 26) R)).map (λp=>strOf p.1)=(arr.toList.map (λx=>(Xd6 P (H.t 26) R x).1)).map strOf:=by simp
    rw[h3,h2,K];simp[strOf,Function.comp_def]
   rw[this]
  have:=(Xdo (arr.toList.map (Xd6 P (H.t 26) R))).length_eq;simp only[X10,Xan] at this;simp only[Maps.size];omega
 obtain⟨D0,ag,a7,al⟩:=hD;have ax:=(mm.ow 0 b c (by simp[vi]) ab).1;have an:=mm.bS B 0 hS;have ah:SeqGives Xef 2 P (H.f 10) #[.pointer (some ⟨B,0,none⟩)] encStr (λss=>ss.Perm (strKeys D0)) (Maps.size D0) w:=
  AnyZ.keys_gives (ρ:=H) { LK with } Xef _ trivial rfl (by omega) B b arr.size D0 w an a6 ag
 have cS:=AnyZ.sorted_in LS Xef 5 trivial trivial trivial trivial rfl (by omega) (Z _) e9 (H.f 10) #[.pointer (some ⟨B,0,none⟩)] trivial eg _ _ (by unfold Xb3;omega) (by omega) w ah;refine (callsIn_wide.1 cS).mono λe' w' ⟨v,ss,he,ao,U,ar,Q⟩=>?_;have ai:(ss.mergeSort λx y=>decide (x<=y))=(m.map (·.1.data.toList)).mergeSort λx y=>decide (x<=y):=mergeSort_of_perm (ao.trans a7);obtain⟨m1,k1⟩:=mm.grow (w':=w') (.below Q);have a8:((m.map (·.1.data.toList)).mergeSort λx y=>decide (x<=y)).length=ss.length:=by rw[<- ai,List.length_mergeSort]
 rw[ai] at U
 obtain⟨φ',m2,k2,Y⟩:=m1.yQ 1 (by simp[vi]) (e:=J.t 26) (v:=v) (xs:=(((m.map (·.1.data.toList)).mergeSort λx y=>decide (x<=y)).map encStr)) (base:=w.heap.size) (λx hx=>by
   obtain⟨n,_,rfl⟩:=Xaf.1 hx
   rfl) (by rw[X10,a8];exact U) (Xam _) (λr' b' c' h1 h2=>(mm.ow r' b' c' h1 h2).1) (λb' o' h=>mm.bS b' o' h)
 have ap:vd (vi [OB.map k e (Am D.s ev m)]) 1 (some (.row (J.t 26) 1 ((((m.map (·.1.data.toList)).mergeSort λx y=>decide (x<=y)).map encStr).map .val) .no)) =
   vi [OB.map k e (Am D.s ev m),.row (J.t 26) 1 (Xa1 D.s (((m.map (·.1.data.toList)).mergeSort λx y=>decide (x<=y)).map λl=>(⟨l.toArray⟩:T))) .no]:=by
  funext q;match q with
  | 0=>rfl
  | 1=>simp[vd,vi,Function.comp_def]
  | q+2=>simp[vd,vi]
 rw[ap] at m2 k2 Y;refine⟨v,he,S,φ',m2,k1.trans k2,?_,λq hq=>?_⟩
 ·simpa using Y
 simp only[AV.refs,X14] at hq;rw[hq];simp[vi]
end Go.AX
end
section
namespace Go.AX
open Go.Sort
def xO {X:Type}(cmp:X->X->O Int)(a b:X):C:=match cmp a b with
 | some r=>decide (r<0)
 | none=>false
def Xj {X:Type}(cmp:X->X->O Int)(l:I X):C:=
 (l.all λa=>l.all λb=>(cmp a b).isSome)&&(l.all λa=>!xO cmp a a) &&
 (l.all λa=>l.all λb=>l.all λc=>!(xO cmp a b) || !(xO cmp b c) || xO cmp a c) &&
 (l.all λa=>l.all λb=>l.all λc=>xO cmp a b || xO cmp b c || !(xO cmp a c))&&decide (l.length<=1000000000)
def Bx {X:Type}(l:I X)(i:Nat):O X:=l[min i (l.length-1)]?
def zT {X:Type}(cmp:X->X->O Int)(l:I X)(i j:Nat):Int:=match Bx l i,Bx l j with
 | some a,some b=>(cmp a b).getD 0
 | _,_=>0
def IZ {X:Type}(cmp:X->X->O Int)(l:I X):Array Nat:=Sort.pdq (Proofs.ltOf (zT cmp l)) (Xeb l.length) 0 l.length (Lib.bitLen l.length) true true
def Gv {X:Type}(cmp:X->X->O Int)(l:I X):O (I X):=match Xj cmp l with
 | true=>some ((IZ cmp l).toList.filterMap λi=>l[i]?)
 | false=>none
section
variable {X:Type} {cmp:X->X->O Int} {l:I X}
def MS (h:0<l.length)(i:Nat) :∃x∈l,Bx l i=some x:=by
 have F:min i (l.length-1)<l.length:=by omega
 exact⟨l[min i (l.length-1)],Xae F,by unfold Bx;exact X15 F⟩
def SU (h:Xj cmp l=true):(∀a∈l,∀b∈l,∃r,cmp a b=some r)/\(∀a∈l,xO cmp a a=false)/\ (∀a∈l,∀b∈l,∀c∈l,xO cmp a b=true->xO cmp b c=true->xO cmp a c=true)/\(∀a∈l,∀b∈l,∀c∈l,xO cmp a b=false->xO cmp b c=false->xO cmp a c=false)/\l.length<=1000000000:=by
 simp only[Xj,X27,Xa0,Wd] at h;obtain⟨⟨⟨⟨P,Q⟩,U⟩,V⟩,Y⟩:=h;refine⟨λa F b H=>Option.isSome_iff_exists.1 (P a F b H),λa F=>by simpa using Q a F,λa F b H c J K M=>?_,λa F b H c J K M=>?_,Y⟩
 ·have:=U a F b H c J;simpa[K,M] using this
 have:=V a F b H c J;simpa[K,M] using this
def fJ (K :∀a∈l,∀b∈l,∃r,cmp a b=some r)(M :∀a∈l,xO cmp a a=false) (P :∀a∈l,∀b∈l,∀c∈l,xO cmp a b=true->xO cmp b c=true->xO cmp a c=true) (Q :∀a∈l,∀b∈l,∀c∈l,xO cmp a b=false->xO cmp b c=false->xO cmp a c=false) (U:l.length<=1000000000):Xj cmp l=true:=by
 simp only[Xj,X27,Xa0,Wd];refine⟨⟨⟨⟨λa F b H=>Option.isSome_iff_exists.2 (K a F b H),λa F=>by simp[M a F]⟩,λa F b H c J=>?_⟩,λa F b H c J=>?_⟩,U⟩
 ·cases g1:xO cmp a b
  ·simp
  cases g2:xO cmp b c
  ·simp
  simp[P a F b H c J g1 g2]
 cases g1:xO cmp a b
 ·cases g2:xO cmp b c
  ·simp[Q a F b H c J g1 g2]
  simp
 simp
def I9 (i j:Nat)(a b:X)(F:Bx l i=some a)(H:Bx l j=some b):Proofs.ltOf (zT cmp l) i j=xO cmp a b:=by unfold Proofs.ltOf zT xO;rw[F,H];cases h:cmp a b<;>simp[h]
def eI (h:Xj cmp l=true)(H:0<l.length):SWO (Proofs.ltOf (zT cmp l)):=by
 obtain⟨_,U,V,Y,_⟩:=SU h;refine⟨λx=>?_,λx y z=>?_,λx y z=>?_⟩
 ·obtain⟨a,J,F⟩:=MS H x;rw[I9 x x a a F F];exact U a J
 ·obtain⟨a,J,F⟩:=MS H x;obtain⟨b,P,K⟩:=MS H y;obtain⟨c,Q,M⟩:=MS H z;rw[I9 _ _ _ _ F K,I9 _ _ _ _ K M,I9 _ _ _ _ F M];exact V a J b P c Q
 obtain⟨a,J,F⟩:=MS H x;obtain⟨b,P,K⟩:=MS H y;obtain⟨c,Q,M⟩:=MS H z;rw[I9 _ _ _ _ F K,I9 _ _ _ _ K M,I9 _ _ _ _ F M];exact Y a J b P c Q
def Rj (h:Xj cmp l=true)(K:0<l.length):(IZ cmp l).size=l.length/\(IZ cmp l).toList.Perm (Xbv l.length)/\∀i j,i<j->j<l.length->Proofs.ltOf (zT cmp l) (IZ cmp l)[j]! (IZ cmp l)[i]! = false:=by
 obtain⟨⟨H,_,M⟩,P⟩:=pdq_sorts (Proofs.ltOf (zT cmp l)) (eI h K) (Xeb l.length) 0 l.length (Lib.bitLen l.length) true true (Xd7 _) (by simp) (Or.inl rfl);have H:(IZ cmp l).size=l.length:=by simpa[IZ] using H
 refine⟨H,?_,λi j J Q=>P i j (Xd7 _) J Q⟩;have e1:((IZ cmp l).extract 0 l.length)=IZ cmp l:=by rw[<- H];exact Array.extract_size
 have e2:((Xeb l.length).extract 0 l.length)=Xeb l.length:=by
  have:(Xeb l.length).size=l.length:=by simp
  conv=>lhs;arg 3;rw[<- this]
  exact Array.extract_size
 have F:((IZ cmp l).extract 0 l.length).toList.Perm ((Xeb l.length).extract 0 l.length).toList:=M;rw[e1,e2] at F;simpa using F
def Tc (l:I X):(Xbv l.length).filterMap (λi=>l[i]?)=l:=by
 have :∀(n:Nat),n<=l.length->(Xbv n).filterMap (λi=>l[i]?)=l.take n:=by
  intro n;induction n with
  | zero=>intro _;simp
  | succ n H=>
   intro J;have F:n<l.length:=by omega
   rw[List.range_succ,List.filterMap_append,H (by omega),Xbz];simp[X15 F]
 rw[this _ (Xam _),Xcj]
def XM {r:I X}(h:Gv cmp l=some r)(Z:0<l.length):r.length=l.length/\∀i,i<l.length->(IZ cmp l)[i]!<l.length/\r[i]?=l[(IZ cmp l)[i]!]?:=by
 unfold Gv at h;split at h
 ·rename_i hs;obtain⟨Q,h2,h3⟩:=Rj hs Z;obtain rfl:=X25 h;have U :∀i∈(IZ cmp l).toList,i<l.length:=λi H=>by simpa using h2.mem_iff.1 H
  have key :∀(q:I Nat),(∀i∈q,i<l.length)->(q.filterMap λi=>l[i]?).length=q.length/\∀j (K:j<q.length),(q.filterMap λi=>l[i]?)[j]?=l[q[j]]?:=by
   intro q;induction q with
   | nil=>intro _;exact⟨rfl,λj K=>by simp at K⟩
   | cons x q ih=>
    intro V;obtain⟨M,P⟩:=ih λi H=>V i (X19 _ H);have Y:=V x (Xcd ..);have e:(x::q).filterMap (λi=>l[i]?)=l[x]::q.filterMap λi=>l[i]?:=by rw[List.filterMap_cons,X15 Y]
    rw[e];refine⟨by simp[M],λj K=>?_⟩;cases j with
    | zero=>simp[X15 Y]
    | succ j=>simpa using P j (by simpa using K)
  obtain⟨M,P⟩:=key (IZ cmp l).toList U;refine⟨by rw[M];simpa using Q,λi H=>?_⟩;have F:i<(IZ cmp l).toList.length:=by simpa[Q] using H
  have J:(IZ cmp l)[i]! = (IZ cmp l).toList[i]:=by rw[getElem!_pos _ i (by simpa using F)];simp
  rw[J];exact⟨U _ (Xae F),P i F⟩
 simp at h
def M3 {r:I X}(h:Gv cmp l=some r):r.Perm l/\r.Pairwise λa b=>xO cmp b a=false:=by
 by_cases M:0<l.length
 ·have h0:=h;obtain⟨P,F⟩:=XM h M;unfold Gv at h;split at h
  ·rename_i V;obtain⟨h1,Y,Z⟩:=Rj V M;obtain rfl:=X25 h;refine⟨?_,?_⟩
   ·have:=Y.filterMap λi=>l[i]?;rwa [Tc] at this
   rw[Xcy];intro i j hi hj J;have K:i<l.length:=by omega
   have H:j<l.length:=by omega
   obtain⟨Q,U⟩:=F i K;obtain⟨q1,q2⟩:=F j H;rw[X15 hi,X15 Q] at U;rw[X15 hj,X15 q1] at q2;have:=Z i j J H;rw[I9 (cmp:=cmp) (l:=l) _ _ _ _ (by unfold Bx;rw[Xcw (by omega)];exact X15 q1) (by unfold Bx;rw[Xcw (by omega)];exact X15 Q)] at this;rw[X25 U,X25 q2];exact this
  simp at h
 have:l=[]:=Xar (by omega);subst this;unfold Gv at h;split at h
 ·obtain rfl:=X25 h;have:(IZ cmp ([]:I X)).toList.filterMap (λi=>([]:I X)[i]?)=[]:=by simp
  rw[this];exact⟨.refl _,.nil⟩
 simp at h
def OX {r:I X}(h:Gv cmp l=some r):r.length=l.length:=(M3 h).1.length_eq
def Vv (h:Xj cmp l=true) :∃r,Gv cmp l=some r:=by unfold Gv;rw[h];exact⟨_,rfl⟩
end
end Go.AX
end
section
namespace Go.AX
open Go.Shelf Go.RowKit Go.Lib Go.Proofs
def OR {P:Xcv}(w:B)(dT sT ty F k n:Nat)(b o H M:Nat)(a:Addr)(J Q:Nat)(K:I A) (hu:P.underlying dT=some (.slice F)) (hs:(P.info? F).map (·.size)=some k) (hn:n=Nat.min J H) (U:K.length=n*k) (V :∀j v,K[j]?=some v->w.cell? (a.add j)=some v) (hc :∀j,j<K.length->(w.cell? ⟨b,o+j,none⟩).isSome=true) (hf :∀j,j<K.length->w.frozen? ⟨b,o+j,none⟩=false) (h1 :∀v∈K,v.oneCell'=true) : (Builtin.copy_ #[dT,sT] ty #[.slice (some ⟨b,o,none⟩) H M,.slice (some a) J Q]).run P w=.ok (goInt n) (w.setCells b o K):=by
 have hl:=run_loadCells_list (P:=P) w a K V;have Y:=run_storeCells_cells (P:=P) b o K 0 w (by simpa using hc) (by simpa using hf) h1;cases Z:P.info? F with
 | none=>simp[Z] at hs
 | some i=>
  have hi:i.size=k:=by simpa[Z] using hs
  rw[U] at hl;simp[Builtin.copy_,Xa7 hu,Builtin.lenOf,Builtin.firstCells,sizeOf,Xer,Z,hi,<- hn,hl,Y]
def E8 (b:Nat) :∀(H:I A) (o:Nat) (w:B) {F:Array A} {e:Nat} {fr:Nat×Nat},w.heap[b]?=some (.cells F e fr)-> ∃cur',(w.setCells b o H).heap[b]?=some (.cells cur' e fr)/\cur'.size=F.size/\(∀k,k≠b->(w.setCells b o H).heap[k]?=w.heap[k]?)/\(w.setCells b o H).heap.size=w.heap.size/\ (w.setCells b o H).os=w.os/\(w.setCells b o H).output=w.output/\(w.setCells b o H).tape=w.tape/\(w.setCells b o H).drawn=w.drawn
 | [],_,w,F,_,_,h=>⟨F,h,rfl,λ_ _=>rfl,rfl,rfl,rfl,rfl,rfl⟩
 | v::r,o,w,F,e,fr,h=>by
  have K:(w.setCell ⟨b,o,none⟩ v).heap[b]?=some (.cells (F.setIfInBounds o v) e fr):=by simp[World.setCell,Array.getElem?_modify,h]
  obtain⟨M,P,Q,U,V,Y,Z,g7,g8⟩:=E8 b r (o+1) _ K;rw[World.setCells];refine⟨M,P,by simpa using Q,λk J=>(U k J).trans ?_,V.trans (by simp[World.setCell]),Y,Z,g7,g8⟩;simp[World.setCell,Array.getElem?_modify,Ne.symm J]
def Mem.FJ {E:Env}{w:B}{S:Sc}{φ:Nat->O (Nat×Rp)}{ob:Nat->O OB}(m:Mem E w S φ ob){r e sz:Nat}{es es':I D}(Y:ob r=some (.row e sz es .no)){w':B}{b:Nat}{c:Rp}{F:Array A} (H:φ r=some (b,c)\/w.heap.size<=b) (Z:es.length<es'.length) (hc:w'.heap[b]?=some (.cells F e (0,0))) (hl:es'.length<=c.1) (hm:c.1<=Xb3) (K:c.2+c.1*sz<=F.size) (hw :∀k,k<w.heap.size->(∀c,φ r≠some (k,c))->w'.heap[k]?=w.heap[k]?) (hs:w.heap.size<=w'.heap.size) (a1:w'.os=w.os/\w'.output=w.output/\w'.tape=w.tape/\w.drawn<=w'.drawn) (h1 :∀i (P:i<es'.length),es'[i].cells.length=sz) (h2 :∀i (P:i<es'.length) j (hj:j<es'[i].cells.length),es'[i].cells[j].isAgg=false) (f:Nat->Nat->A) (hf :∀i j,i<es'.length->j<sz->F[c.2+(i*sz+j)]?=some (f i j)) (hr :∀i (P:i<es'.length) j (hj:j<es'[i].cells.length),vm S w es'[i].cells[j] (f i j)) : Mem E w' S (vd φ r (some (b,c))) (vd ob r (some (.row e sz es' .no)))/\Kept w S φ ob w' S (vd φ r (some (b,c))) (vd ob r (some (.row e sz es' .no))):=by
 obtain⟨g0,g1,g2,g3⟩:=m.obj r _ Y;have M :∀b2 Q o,φ r=some (b2,Q)->¬ S b2 o:=by
  intro b2 Q o U;rcases g3 with ⟨J,_⟩|⟨b',a7,vs,g,J,f2,f3,f4,f5,f6,f7,f8⟩
  ·rw[U] at J;cases J
  rw[U] at J;simp only[X24,X26] at J;obtain⟨rfl,rfl⟩:=J;exact f8.1 o (by simp)
 refine m.set r _ (.row e sz es' .no) w' (some (b,c)) Y hw hs a1 (λb2 Q o U V=>absurd V (M b2 Q o U)) (H.imp (λh=>h.symm) λh=>⟨b,c,rfl,h,xq hc⟩)
  (.inr (.inl ⟨e,sz,es,.no,es',.no,Y,gM _ _ _,by omega,λh=>by omega⟩)) (λr' a6=>by simp[OB.refs] at a6) λhk=>?_
 refine⟨g0,h1,h2,.inr ⟨b,c,F,f,gM _ _ _,hc,hl,hm,K,hf,λi P j hj=>(hr i P j hj).mono hk.k,λo _ V=>?_,λ_ _ _ _ h=>nomatch h⟩⟩;rcases H with h|h
 ·exact M b c o h V
 have:=m.bS b o V;omega
def Wy {F:Array A}{v u x:A}(K:F.size=3)(h:F.getD 0 Xck=v)(J:F.getD 1 Xck=u)(H:F.getD 2 Xck=x):F=#[v,u,x]:=by
 match F,K with
 | ⟨[a,b,c]⟩,_=>simp at h J H;rw[h,J,H]
def xe (es:I D)(i:Nat)(x:D):I D:=es.take i++x::es.drop i
def Zd {es:I D}{i:Nat}(x:D)(F:i<=es.length):(xe es i x).length=es.length+1:=by simp[xe];omega
def Uk {es:I D}{i:Nat}{x:D}(H:i<=es.length)(q:Nat)(J:q<(xe es i x).length):(xe es i x)[q]=if h:q<i then es[q] else if F:q=i then x else es[q-1]'(by rw[Zd x H] at J;omega):=by
 unfold xe at J⊢;rw[Xdk];by_cases h:q<i
 ·rw[dif_pos (by simp;omega),dif_pos h,Xbe]
 rw[dif_neg (by simp;omega),dif_neg h];simp only[X18,Xcw H];by_cases F:q=i
 ·subst F;simp
 rw[dif_neg F,List.getElem_cons,dif_neg (by omega),Xbi];congr 1;omega
def Qe {q i k j:Nat}(h:q<i)(F:j<k):q*k+j<i*k:=by have:=X31 k (show q+1<=i from h);rw[Xe1] at this;omega
def Vx (f g:Nat->Nat->A)(i q j:Nat):A:=if q<i then f q j else if q=i then g 0 j else f (q-1) j
def Xc {k n i b off:Nat}{f g:Nat->Nat->A}(hi:i<=n)(W:B)(P :∀t,t<n*k+k->(W.cell? ⟨b,off+t,none⟩).isSome=true)(V :∀q j,q<i->j<k->W.cell? ⟨b,off+(q*k+j),none⟩=some (f q j)) : (∀q j,q<n+1->j<k->(((W.setCells b (off+(i*k+k)) ((flat n k f).drop (i*k))).setCells b (off+i*k) (flat 1 k g)).cell? ⟨b,off+(q*k+j),none⟩=some (Vx f g i q j)))/\ (∀q j,q<n+1->j<k->(((W.setCells b (off+i*k) (flat 1 k g)).setCells b (off+(i*k+k)) ((flat n k f).drop (i*k))).cell? ⟨b,off+(q*k+j),none⟩=some (Vx f g i q j))):=by
 have a1:((flat n k f).drop (i*k)).length=n*k-i*k:=by rw[X17,oE]
 have a6:(flat 1 k g).length=k:=by rw[oE,Nat.one_mul]
 have Y:i*k<=n*k:=X31 _ hi;have Z :∀(Q:I A) (o:Nat) (t:Nat),o+Q.length<=n*k+k->t<n*k+k->((W.setCells b (off+o) Q).cell? ⟨b,off+t,none⟩).isSome=true:=λQ o t ho K=>
  isSome_setCells b Q (off+o) W (λj F=>by rw[Xal];exact P _ (by omega)) _ (P t K)
 have H :∀j (F:j<k),(flat 1 k g)[j]'(by omega)=g 0 j:=λj F=>by have:=flat_get (n:=1) g (i:=0) Nat.zero_lt_one F;rw[Nat.zero_mul,Xbk,X15 (by omega)] at this;exact X25 this
 have J :∀q j,i<q->q<n+1->j<k->∃t,∃K:t<((flat n k f).drop (i*k)).length,q*k+j=i*k+k+t/\((flat n k f).drop (i*k))[t]=f (q-1) j:=by
  intro q j U a7 F;obtain⟨p,rfl⟩ :∃p,q=p+1:=⟨q-1,by omega⟩;have e1:(p+1)*k=p*k+k:=Xe1 p k;have e2:i*k<=p*k:=X31 _ (by omega);have e3:=Qe (show p<n by omega) F;refine⟨p*k+j-i*k,by omega,by omega,?_⟩;have:=flat_get (n:=n) f (i:=p) (by omega) F;rw[Xbi];have e4:i*k+(p*k+j-i*k)=p*k+j:=by omega
  have h5:(flat n k f)[i*k+(p*k+j-i*k)]?=some (f p j):=by rw[e4];exact this
  rw[X15 (by rw[oE];omega)] at h5;exact X25 h5
 constructor
 ·intro q j U F;unfold Vx;by_cases h1:q<i
  ·have:=Qe h1 F;rw[Wr h1,Xbc _ _ _ _ _ (λ_ _=>.inl (by dsimp only;omega)),Xbc _ _ _ _ _ (λ_ _=>.inl (by dsimp only;omega))];exact V q j h1 F
  rw[Wm h1];by_cases M:q=i
  ·subst M
   rw[Wr rfl,show off+(q*k+j)=off+q*k+j by omega,Xd9 b (flat 1 k g) (off+q*k) _ (λt K=>by
    rw[Xal]
    exact Z _ _ _ (by omega) (by omega)) j (by omega),H j F]
  rw[Wm M];obtain⟨t,K,e,h⟩:=J q j (by omega) U F
  rw[e,Xbc _ _ _ _ _ (λ_ _=>.inr (by dsimp only;omega)),show off+(i*k+k+t)=off+(i*k+k)+t by omega,Xd9 b _ (off+(i*k+k)) _ (λt K=>by
   rw[Xal]
   exact P _ (by omega)) t K,h]
 intro q j U F;unfold Vx;by_cases h1:q<i
 ·have:=Qe h1 F;rw[Wr h1,Xbc _ _ _ _ _ (λ_ _=>.inl (by dsimp only;omega)),Xbc _ _ _ _ _ (λ_ _=>.inl (by dsimp only;omega))];exact V q j h1 F
 rw[Wm h1];by_cases M:q=i
 ·subst M
  rw[Wr rfl,Xbc _ _ _ _ _ (λ_ _=>.inl (by dsimp only;omega)),show off+(q*k+j)=off+q*k+j by omega,Xd9 b (flat 1 k g) (off+q*k) _ (λt K=>by
   rw[Xal]
   exact P _ (by omega)) j (by omega),H j F]
 rw[Wm M];obtain⟨t,K,e,h⟩:=J q j (by omega) U F
 rw[e,show off+(i*k+k+t)=off+(i*k+k)+t by omega,Xd9 b _ (off+(i*k+k)) _ (λt K=>by
  rw[Xal]
  exact Z _ _ _ (by omega) (by omega)) t K,h]
def U3 {E:Env}{w:B}{S:Sc}{φ:Nat->O (Nat×Rp)}{ob:Nat->O OB}(m:Mem E w S φ ob){r e k:Nat}{es:I D}(Q:ob r=some (.row e k es .no)){v:A}(Z:gT S w φ ob (.own r es.length) v) : 0<k/\(∀i (U:i<es.length),es[i].cells.length=k)/\(∀i (U:i<es.length) j (hj:j<es[i].cells.length),es[i].cells[j].isAgg=false)/\ ((φ r=none/\es=[]/\∃a,v=.slice a 0 0) \/∃b cap H,∃f:Nat->Nat->A,φ r=some (b,cap)/\v=.slice (some ⟨b,cap.2,none⟩) es.length cap.1/\w.heap[b]?=some (.cells H e (0,0))/\es.length<=cap.1/\cap.1<=Xb3/\cap.2+cap.1*k<=H.size/\ (∀i j,i<es.length->j<k->H[cap.2+(i*k+j)]?=some (f i j))/\(∀i (U:i<es.length) j (hj:j<es[i].cells.length),vm S w es[i].cells[j] (f i j))/\∀o,¬ S b o):=by
 obtain⟨g0,g1,g2,V⟩:=m.obj r _ Q;refine⟨g0,g1,g2,?_⟩;cases Z with|own _ _ _ kk c a0 a1 a6 h1 hb=>
 have K:=(h1 _ _ _ _ Q).2 rfl;rcases K with ⟨J,Y,p3⟩|⟨b,cap,J,Y⟩
 ·rcases V with ⟨F,P⟩|⟨b',M,H,f,F,_⟩
  ·exact .inl ⟨J,P,p3⟩
  rw[J] at F;cases F
 rcases V with ⟨F,P⟩|⟨b',M,H,f,F,P,f3,f4,f5,f6,f7,f8⟩
 ·rw[J] at F;cases F
 rw[J] at F;simp only[X24,X26] at F;obtain⟨rfl,rfl⟩:=F;exact .inr ⟨b,cap,H,f,J,Y,P,f3,f4,f5,f6,f7,λo=>f8.1 o (by simp)⟩
def Qd {S:Sc}{w:B}{n k:Nat}{f:Nat->Nat->A}{es:I D}(M:es.length=n)(P :∀i (J:i<es.length),es[i].cells.length=k)(Q :∀i (J:i<es.length) j (F:j<es[i].cells.length),es[i].cells[j].isAgg=false) (U :∀i (J:i<es.length) j (F:j<es[i].cells.length),vm S w es[i].cells[j] (f i j)) (V:0<k) :∀v∈flat n k f,v.oneCell'=true:=by
 intro v K;unfold flat at K;obtain⟨t,Y,rfl⟩:=Xaf.1 K;have Z:t<n*k:=by simpa using Y
 have H:t/k<es.length:=by rw[M];exact Nat.div_lt_of_lt_mul (by rwa [Xct])
 have F:t%k<es[t/k].cells.length:=by rw[P _ H];exact Nat.mod_lt _ V
 exact (U _ H _ F).one (Q _ H _ F)
def XB {n k:Nat}{f g:Nat->Nat->A}(Z:Array A){q j:Nat}(J:q<n+1)(F:j<k):((flat n k f++flat 1 k g).toArray++Z)[q*k+j]?=some (Vx f g n q j):=by
 have H:=Qe J F;rw[Xe1] at H;rw[Xco (by simp only[List.size_toArray,X11,oE];omega),List.getElem?_toArray];unfold Vx;by_cases h1:q<n
 ·rw[Wr h1,Xai (by rw[oE];exact Qe h1 F)];exact flat_get f h1 F
 obtain rfl:q=n:=by omega
 rw[Wm h1,Wr rfl,Xap (by rw[oE];omega),oE,show q*k+j-q*k=j by omega];have:=flat_get (n:=1) g (i:=0) Nat.zero_lt_one F;rwa [Nat.zero_mul,Xbk] at this
def RU {P:Xcv}{F:Array z}{o:z}{a:Act}{w:B}{K:Act->B->Prop}{Q:Exit->Act->B->Prop}{E:Prop} (hg:o.guard=none) (d x:Xbq) (J M:TypeId) (H:o.op=Op.call { callee:=Callee.builtin Builtin.append,args:=#[d,x],argTypes:=#[J,M] })
  (v u:A) (V:a.eval d=v) (Y:a.eval x=u) {U:A} {w':B} (Z:(Xcg #[J,M] o.type #[v,u]).run P w=.ok U w') (hK:K (a.put o.dst U) w') :
  if Xcz o (yielded F a.tmps)=true then Oper.wp P o a w K Q else E:=by
 have hw:Xcz o (yielded F a.tmps)=true:=by simp[Xcz,hg]
 rw[Wr hw];unfold Oper.wp;simp[Xc7,H,resolve,invoke,builtin,V,Y,Z,Result.andThen];exact hK
def dJ {P:Xcv}(w:B)(t e ty:TypeId)(z:A)(J:P.underlying t=some (.slice e))(K :∀w,(zeroValue e).run P w=.ok z w)(b o n c:Nat)(V:0<n)(M :∀v∈(Xao z.cells n).toList,v.oneCell'=true) (Q :∀j,j<n*z.cells.size->(w.cell? ⟨b,o+j,none⟩).isSome=true) (U :∀j,j<n*z.cells.size->w.frozen? ⟨b,o+j,none⟩=false) : (Builtin.clear_ #[t] ty #[.slice (some ⟨b,o,none⟩) n c]).run P w=.ok (.tuple #[]) (w.setCells b o (Xao z.cells n).toList):=by
 have H:(Xao z.cells n).toList.length=n*z.cells.size:=by rw[Xan];simp[Xao]
 have F:=run_storeCells_cells (P:=P) b o (Xao z.cells n).toList 0 w (by rw[H];simpa using Q) (by rw[H];simpa using U) M;simp only[Xd4] at F;obtain⟨m,rfl⟩ :∃m,n=m+1:=⟨n-1,by omega⟩;simp[Builtin.clear_,Xa7 J,K,F]
def SI (es:I D)(i:Nat):I D:=es.take i++es.drop (i+1)
def Y9 {es:I D}{i:Nat}(F:i<es.length):(SI es i).length=es.length-1:=by simp[SI];omega
def UY {es:I D}{i:Nat}(H:i<es.length)(q:Nat)(F:q<(SI es i).length):(SI es i)[q]=if h:q<i then es[q] else es[q+1]'(by rw[Y9 H] at F;omega):=by
 unfold SI at F⊢;rw[Xdk];by_cases h:q<i
 ·rw[dif_pos (by simp;omega),dif_pos h,Xbe]
 rw[dif_neg (by simp;omega),dif_neg h,Xbi];congr 1;simp only[X18];omega
def oq (f:Nat->Nat->A)(F:I A)(n i q j:Nat):A:=if q<i then f q j else if q<n then f (q+1) j else F.getD j Xck
def iM {k n i b off:Nat}{f:Nat->Nat->A}{H:I A}(hz:H.length=k)(Q:i<=n)(W:B)(J :∀t,t<n*k+k->(W.cell? ⟨b,off+t,none⟩).isSome=true)(U :∀q j,q<i->j<k->W.cell? ⟨b,off+(q*k+j),none⟩=some (f q j)) : ∀q j,q<n+1->j<k->((W.setCells b (off+i*k) ((flat (n+1) k f).drop (i*k+k))).setCells b (off+n*k) H).cell? ⟨b,off+(q*k+j),none⟩=some (oq f H n i q j):=by
 have e2:(n+1)*k=n*k+k:=Xe1 n k;have M:i*k<=n*k:=X31 _ Q;have V:((flat (n+1) k f).drop (i*k+k)).length=n*k-i*k:=by rw[X17,oE,e2];omega
 intro q j Y F;unfold oq;have Z:=Qe Y F;rw[e2] at Z;by_cases h1:q<i
 ·have:=Qe h1 F;rw[Wr h1,Xbc _ _ _ _ _ (λ_ _=>.inl (by dsimp only;omega)),Xbc _ _ _ _ _ (λ_ _=>.inl (by dsimp only;omega))];exact U q j h1 F
 rw[Wm h1];by_cases K:q<n
 ·have a1:=Qe K F;have a6:i*k<=q*k:=X31 _ (by omega)
  rw[Wr K,Xbc _ _ _ _ _ (λ_ _=>.inl (by dsimp only;omega)),show off+(q*k+j)=off+i*k+(q*k+j-i*k) by omega,Xd9 b _ (off+i*k) _ (λt ht=>by
   rw[Xal]
   exact J _ (by omega)) (q*k+j-i*k) (by omega),Xbi]
  have P:(flat (n+1) k f)[i*k+k+(q*k+j-i*k)]?=some (f (q+1) j):=by rw[show i*k+k+(q*k+j-i*k)=(q+1)*k+j by rw[Xe1];omega];exact flat_get f (by omega) F
  rw[X15 (by rw[oE];omega)] at P;exact P
 obtain rfl:q=n:=by omega
 rw[Wm K,show off+(q*k+j)=off+q*k+j by omega,Xd9 b H (off+q*k) _ (λt ht=>by
  rw[Xal]
  exact isSome_setCells b _ _ W (λj F=>by rw[Xal];exact J _ (by omega)) _ (J _ (by omega))) j (by omega)]
 simp[List.getD,X15 (show j<H.length by omega)]
def bH {α:Type}(b:Nat)(l:I α)(i:Int)(x:α):O (I α):=if 0<=i/\i<=(l.length:Int)/\(l.length+1)*b<=140737488355328/\l.length+1<=140737488355328 then some (l.take i.toNat++x::l.drop i.toNat) else none
def dU {α:Type}(l:I α)(i j:Int):O (I α):=if 0<=i/\i<(l.length:Int)/\j=i+1 then some (l.take i.toNat++l.drop (i.toNat+1)) else none
def mX {α:Type}{b:Nat}{l r:I α}{i:Int}{x:α}(h:bH b l i x=some r) :∃k:Nat,i=(k:Int)/\k<=l.length/\(l.length+1)*b<=140737488355328/\l.length+1<=140737488355328/\r.length=l.length+1/\∀f:α->D,r.map f=xe (l.map f) k (f x):=by
 unfold bH at h;split at h
 ·rename_i F;obtain⟨k,rfl⟩ :∃k:Nat,i=(k:Int):=⟨i.toNat,by omega⟩;cases h;refine⟨k,rfl,by omega,F.2.2.1,F.2.2.2,by simp;omega,λf=>?_⟩;simp[xe,List.map_take,List.map_drop]
 cases h
def kU {α:Type}{l r:I α}{i j:Int}(h:dU l i j=some r) :∃k:Nat,i=(k:Int)/\j=(k:Int)+1/\k<l.length/\r.length=l.length-1/\∀f:α->D,r.map f=SI (l.map f) k:=by
 unfold dU at h;split at h
 ·rename_i F;obtain⟨k,rfl⟩ :∃k:Nat,i=(k:Int):=⟨i.toNat,by omega⟩;cases h;refine⟨k,rfl,F.2.2,by omega,by simp;omega,λf=>?_⟩;simp[SI,List.map_take,List.map_drop]
 cases h
end Go.AX
end
