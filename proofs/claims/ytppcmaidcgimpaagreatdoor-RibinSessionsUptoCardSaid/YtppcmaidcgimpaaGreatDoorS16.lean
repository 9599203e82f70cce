/-
  Texts of one proof, packed.
-/
import Derived.Test.YtppcmaidcgimpaaGreatDoorS15
import Derived.Test.YtppcmaidcgimpaaGreatDoorS8
import Derived.Laws.Externs
import Derived.Laws.IdiomCopy
import Derived.Laws.NewBlocks
import Derived.Lib.AppendZeros
import Derived.Lib.AppendZerosOnto
import Derived.Lib.JoinLaws
import Derived.Lib.Overlaps
import Derived.Lib.SliceRun
import Derived.Lib.Walk
import Derived.Shelf.RegionOpenPlain
import Derived.Shelf.Spec.SlicesInsert
import Derived.WalkKit
set_option linter.all false
set_option maxRecDepth 100000
set_option maxHeartbeats 4000000
open List renaming length_map→X6,length_append→X10,getElem?_eq_getElem→X14,length_drop→X16,length_take→X17,length_replicate→X19,length_set→X20
open Option.some renaming injEq→X23,inj→X24
open Prod.mk renaming injEq→X25
open Nat renaming mul_le_mul_right→X30
open Go renaming maxLen→Xb6,undef→Xbn
open Go.World renaming cell?_setCells_out→Xcd
section
namespace Go.AX
open Go.Shelf Go.RowKit Go.Lib Go.Proofs
def Jm (b:Nat) :∀(H:I A) (o:Nat) (w:B) {F:Array A} {e:Nat} {fr:Nat×Nat},w.heap[b]?=some (.cells F e fr)-> ∃cur',(w.setCells b o H).heap[b]?=some (.cells cur' e fr)/\cur'.size=F.size/\(∀k,k≠b->(w.setCells b o H).heap[k]?=w.heap[k]?)/\(w.setCells b o H).heap.size=w.heap.size/\ (w.setCells b o H).os=w.os/\(w.setCells b o H).output=w.output/\(w.setCells b o H).tape=w.tape/\(w.setCells b o H).drawn=w.drawn
 | [],_,w,F,_,_,h=>⟨F,h,rfl,λ_ _=>rfl,rfl,rfl,rfl,rfl,rfl⟩
 | v::r,o,w,F,e,fr,h=>by
  have K:(w.setCell ⟨b,o,none⟩ v).heap[b]?=some (.cells (F.setIfInBounds o v) e fr):=by simp[World.setCell,Array.getElem?_modify,h]
  obtain⟨M,P,Q,U,V,Y,Z,g7,g8⟩:=Jm b r (o+1) _ K;rw[World.setCells];refine⟨M,P,by simpa using Q,λk J=>(U k J).trans ?_,V.trans (by simp[World.setCell]),Y,Z,g7,g8⟩;simp[World.setCell,Array.getElem?_modify,Ne.symm J]
def Mem.vA {E:Env}{w:B}{S:Sc}{φ:Nat->O (Nat×Rp)}{ob:Nat->O OB}(m:Mem E w S φ ob){r e sz:Nat}{es es':I D}(Y:ob r=some (.row e sz es .no)){w':B}{b:Nat}{c:Rp}{F:Array A} (H:φ r=some (b,c)\/w.heap.size<=b) (Z:es.length<es'.length) (hc:w'.heap[b]?=some (.cells F e (0,0))) (hl:es'.length<=c.1) (hm:c.1<=Xb6) (K:c.2+c.1*sz<=F.size) (hw :∀k,k<w.heap.size->(∀c,φ r≠some (k,c))->w'.heap[k]?=w.heap[k]?) (hs:w.heap.size<=w'.heap.size) (a1:w'.os=w.os/\w'.output=w.output/\w'.tape=w.tape/\w.drawn<=w'.drawn) (h1 :∀i (P:i<es'.length),es'[i].cells.length=sz) (h2 :∀i (P:i<es'.length) j (hj:j<es'[i].cells.length),es'[i].cells[j].isAgg=false) (f:Nat->Nat->A) (hf :∀i j,i<es'.length->j<sz->F[c.2+(i*sz+j)]?=some (f i j)) (hr :∀i (P:i<es'.length) j (hj:j<es'[i].cells.length),qf S w es'[i].cells[j] (f i j)) : Mem E w' S (qn φ r (some (b,c))) (qn ob r (some (.row e sz es' .no)))/\Kept w S φ ob w' S (qn φ r (some (b,c))) (qn ob r (some (.row e sz es' .no))):=by
 obtain⟨g0,g1,g2,g3⟩:=m.obj r _ Y;have M :∀b2 Q o,φ r=some (b2,Q)->¬ S b2 o:=by
  intro b2 Q o U;rcases g3 with ⟨J,_⟩|⟨b',a7,vs,g,J,f2,f3,f4,f5,f6,f7,f8⟩
  ·rw[U] at J;cases J
  rw[U] at J;simp only[X23,X25] at J;obtain⟨rfl,rfl⟩:=J;exact f8.1 o (by simp)
 refine m.set r _ (.row e sz es' .no) w' (some (b,c)) Y hw hs a1 (λb2 Q o U V=>absurd V (M b2 Q o U)) (H.imp (λh=>h.symm) λh=>⟨b,c,rfl,h,sg hc⟩)
  (.inr (.inl ⟨e,sz,es,.no,es',.no,Y,gL _ _ _,by omega,λh=>by omega⟩)) (λr' a6=>by simp[OB.refs] at a6) λhk=>?_
 refine⟨g0,h1,h2,.inr ⟨b,c,F,f,gL _ _ _,hc,hl,hm,K,hf,λi P j hj=>(hr i P j hj).mono hk.k,λo _ V=>?_,λ_ _ _ _ h=>nomatch h⟩⟩;rcases H with h|h
 ·exact M b c o h V
 have:=m.bS b o V;omega
def aR {F:Array A}{v u x:A}(K:F.size=3)(h:F.getD 0 Xbn=v)(J:F.getD 1 Xbn=u)(H:F.getD 2 Xbn=x):F=#[v,u,x]:=by
 match F,K with
 | ⟨[a,b,c]⟩,_=>simp at h J H;rw[h,J,H]
def rE (es:I D)(i:Nat)(x:D):I D:=es.take i++x::es.drop i
def Wj {es:I D}{i:Nat}(x:D)(F:i<=es.length):(rE es i x).length=es.length+1:=by simp[rE];omega
def RD {es:I D}{i:Nat}{x:D}(H:i<=es.length)(q:Nat)(J:q<(rE es i x).length):(rE es i x)[q]=if h:q<i then es[q] else if F:q=i then x else es[q-1]'(by rw[Wj x H] at J;omega):=by
 unfold rE at J⊢;rw[Xbp];by_cases h:q<i
 ·rw[Xdw (by simp;omega),Xdw h,Xb7]
 rw[Xdu (by simp;omega),Xdu h];simp only[X17,Xda H];by_cases F:q=i
 ·subst F;simp
 rw[Xdu F,List.getElem_cons,Xdu (by omega),Xb8];congr 1;omega
def Wx {q i k j:Nat}(h:q<i)(F:j<k):q*k+j<i*k:=by have:=X30 k (show q+1<=i from h);rw[Nat.succ_mul] at this;omega
def S3 (f g:Nat->Nat->A)(i q j:Nat):A:=if q<i then f q j else if q=i then g 0 j else f (q-1) j
def dE {k n i b off:Nat}{f g:Nat->Nat->A}(hi:i<=n)(W:B)(P :∀t,t<n*k+k->(W.cell? ⟨b,off+t,none⟩).isSome=true)(V :∀q j,q<i->j<k->W.cell? ⟨b,off+(q*k+j),none⟩=some (f q j)) : (∀q j,q<n+1->j<k->(((W.setCells b (off+(i*k+k)) ((flat n k f).drop (i*k))).setCells b (off+i*k) (flat 1 k g)).cell? ⟨b,off+(q*k+j),none⟩=some (S3 f g i q j)))/\ (∀q j,q<n+1->j<k->(((W.setCells b (off+i*k) (flat 1 k g)).setCells b (off+(i*k+k)) ((flat n k f).drop (i*k))).cell? ⟨b,off+(q*k+j),none⟩=some (S3 f g i q j))):=by
 have a1:((flat n k f).drop (i*k)).length=n*k-i*k:=by rw[X16,n4]
 have a6:(flat 1 k g).length=k:=by rw[n4,Nat.one_mul]
 have Y:i*k<=n*k:=X30 _ hi;have Z :∀(Q:I A) (o:Nat) (t:Nat),o+Q.length<=n*k+k->t<n*k+k->((W.setCells b (off+o) Q).cell? ⟨b,off+t,none⟩).isSome=true:=λQ o t ho K=>
  isSome_setCells b Q (off+o) W (λj F=>by rw[Xaq];exact P _ (by omega)) _ (P t K)
 have H :∀j (F:j<k),(flat 1 k g)[j]'(by omega)=g 0 j:=λj F=>by have:=flat_get (n:=1) g (i:=0) Nat.zero_lt_one F;rw[Xdg,Xaa,X14 (by omega)] at this;exact X24 this
 have J :∀q j,i<q->q<n+1->j<k->∃t,∃K:t<((flat n k f).drop (i*k)).length,q*k+j=i*k+k+t/\((flat n k f).drop (i*k))[t]=f (q-1) j:=by
  intro q j U a7 F;obtain⟨p,rfl⟩ :∃p,q=p+1:=⟨q-1,by omega⟩;have e1:(p+1)*k=p*k+k:=Nat.succ_mul p k;have e2:i*k<=p*k:=X30 _ (by omega);have e3:=Wx (show p<n by omega) F;refine⟨p*k+j-i*k,by omega,by omega,?_⟩;have:=flat_get (n:=n) f (i:=p) (by omega) F;rw[Xb8];have e4:i*k+(p*k+j-i*k)=p*k+j:=by omega
  have h5:(flat n k f)[i*k+(p*k+j-i*k)]?=some (f p j):=by rw[e4];exact this
  rw[X14 (by rw[n4];omega)] at h5;exact X24 h5
 constructor
 ·intro q j U F;unfold S3;by_cases h1:q<i
  ·have:=Wx h1 F;rw[Xl h1,Xcd _ _ _ _ _ (λ_ _=>.inl (by dsimp only;omega)),Xcd _ _ _ _ _ (λ_ _=>.inl (by dsimp only;omega))];exact V q j h1 F
  rw[Xk h1];by_cases M:q=i
  ·subst M
   rw[Xl rfl,show off+(q*k+j)=off+q*k+j by omega,World.cell?_setCells_in b (flat 1 k g) (off+q*k) _ (λt K=>by
    rw[Xaq]
    exact Z _ _ _ (by omega) (by omega)) j (by omega),H j F]
  rw[Xk M];obtain⟨t,K,e,h⟩:=J q j (by omega) U F
  rw[e,Xcd _ _ _ _ _ (λ_ _=>.inr (by dsimp only;omega)),show off+(i*k+k+t)=off+(i*k+k)+t by omega,World.cell?_setCells_in b _ (off+(i*k+k)) _ (λt K=>by
   rw[Xaq]
   exact P _ (by omega)) t K,h]
 intro q j U F;unfold S3;by_cases h1:q<i
 ·have:=Wx h1 F;rw[Xl h1,Xcd _ _ _ _ _ (λ_ _=>.inl (by dsimp only;omega)),Xcd _ _ _ _ _ (λ_ _=>.inl (by dsimp only;omega))];exact V q j h1 F
 rw[Xk h1];by_cases M:q=i
 ·subst M
  rw[Xl rfl,Xcd _ _ _ _ _ (λ_ _=>.inl (by dsimp only;omega)),show off+(q*k+j)=off+q*k+j by omega,World.cell?_setCells_in b (flat 1 k g) (off+q*k) _ (λt K=>by
   rw[Xaq]
   exact P _ (by omega)) j (by omega),H j F]
 rw[Xk M];obtain⟨t,K,e,h⟩:=J q j (by omega) U F
 rw[e,show off+(i*k+k+t)=off+(i*k+k)+t by omega,World.cell?_setCells_in b _ (off+(i*k+k)) _ (λt K=>by
  rw[Xaq]
  exact Z _ _ _ (by omega) (by omega)) t K,h]
def Wc {E:Env}{w:B}{S:Sc}{φ:Nat->O (Nat×Rp)}{ob:Nat->O OB}(m:Mem E w S φ ob){r e k:Nat}{es:I D}(Q:ob r=some (.row e k es .no)){v:A}(Z:gM S w φ ob (.own r es.length) v) : 0<k/\(∀i (U:i<es.length),es[i].cells.length=k)/\(∀i (U:i<es.length) j (hj:j<es[i].cells.length),es[i].cells[j].isAgg=false)/\ ((φ r=none/\es=[]/\∃a,v=.slice a 0 0) \/∃b cap H,∃f:Nat->Nat->A,φ r=some (b,cap)/\v=.slice (some ⟨b,cap.2,none⟩) es.length cap.1/\w.heap[b]?=some (.cells H e (0,0))/\es.length<=cap.1/\cap.1<=Xb6/\cap.2+cap.1*k<=H.size/\ (∀i j,i<es.length->j<k->H[cap.2+(i*k+j)]?=some (f i j))/\(∀i (U:i<es.length) j (hj:j<es[i].cells.length),qf S w es[i].cells[j] (f i j))/\∀o,¬ S b o):=by
 obtain⟨g0,g1,g2,V⟩:=m.obj r _ Q;refine⟨g0,g1,g2,?_⟩;cases Z with|own _ _ _ kk c a0 a1 a6 h1 hb=>
 have K:=(h1 _ _ _ _ Q).2 rfl;rcases K with ⟨J,Y,p3⟩|⟨b,cap,J,Y⟩
 ·rcases V with ⟨F,P⟩|⟨b',M,H,f,F,_⟩
  ·exact .inl ⟨J,P,p3⟩
  rw[J] at F;cases F
 rcases V with ⟨F,P⟩|⟨b',M,H,f,F,P,f3,f4,f5,f6,f7,f8⟩
 ·rw[J] at F;cases F
 rw[J] at F;simp only[X23,X25] at F;obtain⟨rfl,rfl⟩:=F;exact .inr ⟨b,cap,H,f,J,Y,P,f3,f4,f5,f6,f7,λo=>f8.1 o (by simp)⟩
def Ro {S:Sc}{w:B}{n k:Nat}{f:Nat->Nat->A}{es:I D}(M:es.length=n)(P :∀i (J:i<es.length),es[i].cells.length=k)(Q :∀i (J:i<es.length) j (F:j<es[i].cells.length),es[i].cells[j].isAgg=false) (U :∀i (J:i<es.length) j (F:j<es[i].cells.length),qf S w es[i].cells[j] (f i j)) (V:0<k) :∀v∈flat n k f,v.oneCell'=true:=by
 intro v K;unfold flat at K;obtain⟨t,Y,rfl⟩:=Xaz.1 K;have Z:t<n*k:=by simpa using Y
 have H:t/k<es.length:=by rw[M];exact Nat.div_lt_of_lt_mul (by rwa [Xbe])
 have F:t%k<es[t/k].cells.length:=by rw[P _ H];exact Nat.mod_lt _ V
 exact (U _ H _ F).one (Q _ H _ F)
def UT {n k:Nat}{f g:Nat->Nat->A}(Z:Array A){q j:Nat}(J:q<n+1)(F:j<k):((flat n k f++flat 1 k g).toArray++Z)[q*k+j]?=some (S3 f g n q j):=by
 have H:=Wx J F;rw[Nat.succ_mul] at H;rw[Xb3 (by simp only[Xb9,X10,n4];omega),Xct];unfold S3;by_cases h1:q<n
 ·rw[Xl h1,Xa6 (by rw[n4];exact Wx h1 F)];exact flat_get f h1 F
 obtain rfl:q=n:=by omega
 rw[Xk h1,Xl rfl,Xab (by rw[n4];omega),n4,show q*k+j-q*k=j by omega];have:=flat_get (n:=1) g (i:=0) Nat.zero_lt_one F;rwa [Xdg,Xaa] at this
def jF {α:Type}(b:Nat)(l:I α)(i:Int)(x:α):O (I α):=if i=(l.length:Int)/\(l.length+1)*b<=140737488355328/\l.length+1<=140737488355328 then some (l++[x]) else none
def oI {α:Type}(l:I α)(i j:Int):O (I α):=none
def gx {α:Type}{b:Nat}{l r:I α}{i:Int}{x:α}(h:jF b l i x=some r):i=(l.length:Int)/\(l.length+1)*b<=140737488355328/\l.length+1<=140737488355328/\r=l++[x]:=by
 unfold jF at h;split at h
 ·rename_i q;cases h;exact⟨q.1,q.2.1,q.2.2,rfl⟩
 cases h
end Go.AX
end
