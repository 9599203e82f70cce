/-
  Texts of one proof, packed.
-/
import Derived.Test.YthbbpeeghmpcfaaGreatDoorR29
set_option linter.all false
set_option maxRecDepth 100000
set_option maxHeartbeats 4000000
open List renaming length_map→X1,length_append→X2,length_cons→X3,mem_singleton→X11,getElem?_eq_getElem→X12,getElem?_eq_some_iff→X13,length_drop→X14,length_take→X15,mem_cons_of_mem→X16,length_replicate→X17,length_set→X18,length_singleton→X19,mem_append→X20
open Option.some renaming injEq→X21,inj→X22
open Bool renaming and_eq_true→X24
open Nat renaming mul_le_mul_right→X28,add_mul→X29
open Option renaming bind→Xx
open ByteArray renaming empty→Xbe
open List.Pairwise renaming nil→Xdm
section
namespace Go.AX.Q33
open Go Go.AX Go.AX.Cw
def W0 (p:tF)(n:Int):Int:=match p.B4.find? λx=>x.tb==n with
 | some x=>x.Value
 | none=>0
def R7 (p:tF)(n:Int):Hl p n=some (W0 p n):=by
 unfold Hl W0;rw[AB]
 have go :∀(t:O B4) (i:Nat),AL (σ:=Unit) (λ_=>some (0:Int)) (λF H K _=>if (H.tb==n)=true then some H.Value else F ()) t i ()=some (match t.find? λx=>x.tb==n with
   | some x=>x.Value
   | none=>0):=by
  intro t;induction t with
  | nil=>intro i;rfl
  | cons x t J=>
   intro i;rw[A6];cases e:x.tb==n
   ·rw[List.find?_cons_of_neg (by simpa using e),Xa1 (by decide)];exact J (i+1)
   rw[List.find?_cons_of_pos (by simpa using e)];rfl
 exact go p.B4 0
def nc (a:gH):Int:=if a.o3=-1 then 3 else a.o3
def mf (a:gH):Int:=if a.AF=-1 then 0 else a.AF
def rT (p:tF)(r:mu):O Int:=[-(W0 p r.zQ),Za r.gH.Path,nc r.gH,mf r.gH,r.zQ]
def Sb:O Int->O Int->Int->Int×Int
 | a::s,b::t,k=>if a<b then (-1,k+1) else if b<a then (1,k+1) else Sb s t (k+1)
 | _,_,_=>(0,0)
def X7 (p:tF):Prop:=∀n,-1000<=W0 p n/\W0 p n<=1000
def tP {p:tF}(H:X7 p)(r:mu):IZ p r=some ⟨-(W0 p r.zQ),Za r.gH.Path,nc r.gH,mf r.gH,r.zQ⟩:=by
 unfold IZ nc mf;have J:=H r.zQ;have e:AG (0-W0 p r.zQ)=-(W0 p r.zQ):=by rw[AK (by omega)];omega
 rw[AB];by_cases h1:r.gH.o3=-1
 ·rw[Xa2 (by simpa using h1),Xa2 h1];show AC _ _=_;rw[AB];by_cases F:r.gH.AF=-1
  ·rw[Xa2 (by simpa using F),Xa2 F];dsimp only;rw[R7,AA,Dh,AA,e]
  rw[Xa1 (by simpa using F),Xa1 F];dsimp only;rw[R7,AA,Dh,AA,e]
 rw[Xa1 (by simpa using h1),Xa1 h1];show AC _ _=_;rw[AB];by_cases F:r.gH.AF=-1
 ·rw[Xa2 (by simpa using F),Xa2 F];dsimp only;rw[R7,AA,Dh,AA,e]
 rw[Xa1 (by simpa using F),Xa1 F];dsimp only;rw[R7,AA,Dh,AA,e]
def YI {l:O Int}{i:Nat}(h:i<l.length):l.drop i=l[i]::l.drop (i+1):=by rw[Xbt h]
def mC {xs ys:O Int}(Y:xs.length=5)(Z:ys.length=5) : Ad (σ:=Int) (λH F=>if (decide (F<5)) then Xx (gN xs F) λM=>Xx (gN ys F) λP=>if (decide (M<P)) then some ((-1),(AG (F+1))) else Xx (gN xs F) λQ=>Xx (gN ys F) λU=>if (decide (Q>U)) then some (1,(AG (F+1))) else H (AG (F+1)) else some (0,0) ) xv 0=some (Sb xs ys 0):=by
 refine (Bq (λv:Int=>0<=v/\v<=5) (λv=>(5-v).toNat) (λv=>some (Sb (xs.drop v.toNat) (ys.drop v.toNat) v)) ?_ xv 0 ⟨by omega,by omega⟩ (BE (by omega))).trans (by simp);intro next v hv V
 obtain⟨v,rfl⟩ :∃n:Nat,v=(n:Int):=⟨v.toNat,by omega⟩;rw[Xax];by_cases h:v<5
 ·have ex:v<xs.length:=by omega
  have K:v<ys.length:=by omega
  rw[Xa2 (by simp;omega),Ae ex,AA,Ae K,AA,YI ex,YI K,AK (by omega)];unfold Sb;by_cases h1:xs[v]<ys[v]
  ·rw[Xa2 (by simpa using h1),Xa2 h1]
  rw[Xa1 (by simpa using h1),Xa1 h1,AA,AA];by_cases J:ys[v]<xs[v]
  ·rw[Xa2 (by simpa using J),Xa2 J]
  rw[Xa1 (by simpa using J),Xa1 J,V _ ⟨by omega,by omega⟩ (by omega)];have e:((v:Int)+1).toNat=v+1:=by omega
  rw[e]
 rw[Xa1 (by simp;omega),List.drop_eq_nil_of_le (by omega),List.drop_eq_nil_of_le (by omega)];rfl
def sx (p:tF)(a b:mu):Int×Int:=Sb (rT p a) (rT p b) 0
def jv {p:tF}(F:X7 p)(a b:mu):Fq p a b=some (sx p a b):=by unfold Fq sx;rw[tP F,AA,tP F,AA,AB];exact mC (xs:=rT p a) (ys:=rT p b) rfl rfl
def RH (p:tF)(l:O mu):O mu->Nat->Nat->Nat
 | [],_,k=>k
 | x::t,i,k=>RH p l t (i+1) (if (sx p x (l.getD k PA)).1<0 then i else k)
def ZF {p:tF}{l:O mu} :∀(t:O mu) (i k:Nat),i+t.length<=l.length->k<l.length->RH p l t i k<l.length
 | [],_,_,_,h=>h
 | x::t,i,k,h,hk=>by
  unfold RH;refine ZF t (i+1) _ (by simp at h;omega) ?_;split
  ·simp at h;omega
  exact hk
def oz (p:tF)(l:O mu):Nat:=RH p l l 0 0
def Yk {p:tF}{l:O mu}(h:l≠[]):oz p l<l.length:=ZF l 0 0 (by omega) (Xbi.2 h)
def uU {p:tF}(K:X7 p){l:O mu}(V:l.length<=1000000):Iz p l=some ((oz p l:Int),decide ((l.length:Int)>0)):=by
 unfold Iz;rw[AB];refine (Rx (λt i (s:Int)=>i+t.length=l.length/\(t≠[]->0<l.length)/\∃k:Nat,s=(k:Int)/\(k<l.length\/t=[])) (λt i s=>some ((RH p l t i s.toNat:Int),decide ((l.length:Int)>0))) ?_ ?_ l 0 0 ⟨by omega,λh=>Xbi.2 h,0,rfl,?_⟩).trans ?_
 ·rintro i s ⟨_,_,k,rfl,_⟩;rfl
 ·rintro next x t i s ⟨J,Y,k,rfl,M⟩ P
  have F:k<l.length:=M.resolve_right (by simp);rw[Ae F,AA,jv K,AA];dsimp only;rw[Ic];have e:l.getD k PA=l[k]:=by simp[F]
  have Q:i<l.length:=by simp at J;omega
  have step :∀m:Nat,m<l.length->next (m:Int)=some ((RH p l t (i+1) m:Int),decide ((l.length:Int)>0)):=λm U=>
   P (m:Int) ⟨by simp at J;omega,λ_=>by omega,m,rfl,.inl U⟩
  show _=some ((RH p l (x::t) i k:Int),_);unfold RH;rw[e];by_cases H:(sx p x l[k]).1<0
  ·rw[Xa2 (by simpa using H),Xa2 H,step i Q]
  rw[Xa1 (by simpa using H),Xa1 H,step k F]
 ·cases l with
  | nil=>exact .inr rfl
  | cons x t=>exact .inl (by simp)
 rfl
def Km (s:ur)(n:Int):C Nat:=s.gD.findIdx? λx=>x.tb==n
def atV (s:ur)(n:Int):Int:=match Km s n with
 | some i=>(i:Int)
 | none=>-1
def t8 (s:ur)(n:Int):I8 s n=some (atV s n):=by
 unfold I8 atV Km;rw[AB]
 have go :∀(t:O tF) (i:Nat),AL (σ:=Unit) (λ_=>some (-1:Int)) (λF H J _=>if (H.tb==n)=true then some (J:Int) else F ()) t i ()=some (match t.findIdx? λx=>x.tb==n with
   | some k=>((i+k:Nat):Int)
   | none=>-1):=by
  intro t;induction t with
  | nil=>intro i;rfl
  | cons x t K=>
   intro i;rw[A6,List.findIdx?_cons];cases e:x.tb==n
   ·rw[Xa1 (by decide)];refine (K (i+1)).trans ?_;cases t.findIdx? λx=>x.tb==n with
    | none=>rfl
    | some k=>
     have:i+1+k=i+(k+1):=by omega
     simp[this]
   simp
 refine (go s.gD 0).trans ?_;cases s.gD.findIdx? λx=>x.tb==n<;>simp
def zE:mu×Int×Int:=(PA,0,1)
def Ny (own:Int)(r:mu)(p:tF):mu×Int×Int:=(Dp own r p).getD zE
def LH (own:Int)(q:tF)(p:fI)(b:rv):O mu:=
 if (Gu b p).2=true then (if ((Ny own (Gu b p).1 q).2.2==0&&(Ny own (Gu b p).1 q).2.1==0)=true then [(Ny own (Gu b p).1 q).1] else []) else []
def I3 (s:ur)(n:Int)(p:fI):O mu:=match Km s n with
 | none=>[]
 | some i=>if (s.oT.getD i ⟨⟨0,Xbe,0,0,[]⟩,false,[],0⟩).Up=true then s.oT.flatMap (LH s.oX.DH (s.gD.getD i ⟨0,false,false,false,0,[],[]⟩) p) else []
def pU (s:ur):Prop:=∀q∈s.gD,∀b∈s.oT,∀p,(Gu b p).2=true->Dp s.oX.DH (Gu b p).1 q=some (Ny s.oX.DH (Gu b p).1 q)
def V2 (own:Int)(q:tF)(p:fI)(b:rv):(LH own q p b).length<=1:=by
 unfold LH;split
 ·split<;>simp
 simp
def stK (own:Int)(q:tF)(p:fI)(v:O mu)(b:rv):O mu:=v++LH own q p b
def iK (m:Nat)(v:O mu):Prop:=v.length+m<=1000
def wL {ρ:Type}{own:Int}{q:tF}{p:fI}{next:O mu->C ρ}{body:(O mu->C ρ)->rv->Nat->O mu->C ρ}{t:O rv}{l:O mu}(F:iK t.length l) (H :∀next x j l m,x∈t->iK (m+1) l->body next x j l=next (stK own q p l x)):AL next body t 0 l=next (t.foldl (stK own q p) l):=by refine OW (stK own q p) iK t 0 l ?_ H F;intro x _ m l h;have:=V2 own q p x;have J:l.length+(m+1)<=1000:=h;show (l++LH own q p x).length+m<=1000;rw[X2];omega
def tD (own:Int)(q:tF)(p:fI) :∀(t:O rv) (v:O mu),t.foldl (stK own q p) v=v++t.flatMap (LH own q p)
 | [],v=>by simp
 | b::t,v=>by rw[Xaj,tD own q p t];unfold stK;rw[Xat,Xb9]
def qX (b:rv)(p:fI):EC b p=some (Gu b p):=kG b p
def Ws {s:ur}{n:Int}{p:fI}(V:s.oT.length=s.gD.length)(Y:s.oT.length<=64)(M:pU s):D6 s n p=some (I3 s n p):=by
 unfold D6 I3;rw[t8,AA];unfold atV;cases K:Km s n with
 | none=>dsimp only;rw[AB,Xa2 (by decide)];rfl
 | some i=>
  dsimp only;have F:i<s.gD.length:=by unfold Km at K;obtain⟨h,_⟩:=Xcx.1 K;exact h
  have H:i<s.oT.length:=by omega
  rw[AB,Xa1 (by simp),Ae H,AA,Xa8,X12 H,Xaz,Xa8,X12 F,Xaz];cases hu:s.oT[i].Up
  ·rfl
  show (if false=true then _ else _)=_;rw[Xa1 (by decide),Xa2 rfl,AB];refine (wL (own:=s.oX.DH) (q:=s.gD[i]) (p:=p) (by show [].length+_<=1000;simp;omega) ?_).trans ?_
  ·intro next b j v m P Q
   have U:v.length+(m+1)<=1000:=Q;rw[AB,qX,AA];show (match Gu b p with|(v11,v12)=>_)=next (v++LH s.oX.DH s.gD[i] p b)
   have J:=M s.gD[i] (Xad F) b P p;unfold LH;generalize Gu b p=a at J⊢;obtain⟨r,ok⟩:=a;dsimp only at J⊢;cases ok
   ·rw[Xa2 (by rfl),Xa1 (by decide),Xb1]
   rw[Xa1 (by decide),Xa2 rfl,Ae F,AA,J rfl,AA];generalize Ny s.oX.DH r s.gD[i]=x;obtain⟨y,c,d⟩:=x;dsimp only;rw[AB];cases Z:d==0
   ·rw[Xa1 (by decide)];show AC _ _=_;rw[AB,Xa1 (by decide)];simp
   rw[Xa2 rfl];show AC _ _=_;rw[AB];cases hc:c==0
   ·simp
   rw[Xa2 (by rfl),AD (by decide) (by simp;omega),AA];simp
  show some (List.foldl (stK s.oX.DH s.gD[i] p) [] s.oT)=_;rw[tD,Xah]
structure M0 (s:ur):Prop where
 l:s.oT.length=s.gD.length
 n:s.oT.length<=64
 h :∀b∈s.oT,b.gT.length<=256
 x:pU s
 v :∀q∈s.gD,X7 q
def O7 (s:ur)(n:Int)(p:fI):mu×I:=match Km s n with
 | none=>(PA,false)
 | some i=>if I3 s n p=[] then (PA,false) else ((I3 s n p).getD (oz (s.gD.getD i ⟨0,false,false,false,0,[],[]⟩) (I3 s n p)) PA,true)
def Y2 {s:ur}{n:Int}{i:Nat}(h:Km s n=some i):i<s.gD.length:=by unfold Km at h;obtain⟨h,_⟩:=Xcx.1 h;exact h
def pG {s:ur}{n:Int}{p:fI}(h:s.oT.length<=64):(I3 s n p).length<=64:=by
 unfold I3;split
 ·simp
 split
 ·have :∀(t:O rv) (own:Int) (q:tF),(t.flatMap (LH own q p)).length<=t.length:=by
   intro t own q;induction t with
   | nil=>simp
   | cons b t F=>have:=V2 own q p b;rw[Xat,X2,X3];omega
  exact Xay (this _ _ _) h
 simp
def sU {s:ur}(h:M0 s)(n:Int)(p:fI):Hr s n p=some (O7 s n p):=by
 unfold Hr O7;rw[Ws h.l h.n h.x,AA];cases J:Km s n with
 | none=>
  have:I3 s n p=[]:=by unfold I3;rw[J]
  rw[this];rfl
 | some i=>
  have F:=Y2 J;dsimp only;by_cases H:I3 s n p=[]
  ·rw[H,Xa2 rfl];rfl
  have K:0<(I3 s n p).length:=Xbi.2 H;have M:=pG (n:=n) (p:=p) h.n;have P:=Yk (p:=s.gD[i]) H;rw[Xa1 (by simp;omega),Xa1 H,t8,AA];unfold atV;rw[J];dsimp only;rw[Ae F,AA,uU (h.v _ (Xad F)) (by omega),AA];dsimp only;rw[Ae P,AA];simp[F,P]
def IL (s:ur)(n:Int):O mu:=(UD s).filterMap λp=>if (O7 s n p).2=true then some (O7 s n p).1 else none
def QO :∀(t:O rv) {l:O fI},LY l->(∀b∈t,b.gT.length<=256)->(t.foldl K0 l).length<=l.length+256*t.length
 | [],l,_,_=>by simp
 | b::t,l,h,F=>by obtain⟨a1,J,_⟩:=LS b h;have:=QO t a1 λc H=>F c (X16 _ H);have:=F b (by simp);rw[Xaj,X3];omega
def Sh (s:ur)(n:Int)(v:O mu)(p:fI):O mu:=v++(if (O7 s n p).2=true then some (O7 s n p).1 else none).toList
def iA (m:Nat)(v:O mu):Prop:=v.length+m<=100000
def wv {ρ:Type}{s:ur}{n:Int}{next:O mu->C ρ}{body:(O mu->C ρ)->fI->Nat->O mu->C ρ}{t:O fI}{l:O mu}(F:iA t.length l) (H :∀next x j l m,x∈t->iA (m+1) l->body next x j l=next (Sh s n l x)):AL next body t 0 l=next (t.foldl (Sh s n) l):=by refine OW (Sh s n) iA t 0 l ?_ H F;intro x _ m l h;have J:l.length+(m+1)<=100000:=h;show (l++_).length+m<=100000;rw[X2];split<;>simp<;>omega
def pW (s:ur)(n:Int) :∀(t:O fI) (v:O mu),t.foldl (Sh s n) v=v++t.filterMap λp=>if (O7 s n p).2=true then some (O7 s n p).1 else none
 | [],v=>by simp
 | p::t,v=>by
  rw[Xaj,pW s n t];unfold Sh;rw[Xcd];by_cases h:(O7 s n p).2=true
  ·rw[Xa2 h];simp
  rw[Xa1 h];simp
def wK {s:ur}(h:M0 s)(n:Int):J2 s n=some (IL s n):=by
 unfold J2;rw[dW h.n h.h,AA,AB];have F:(UD s).length<=256*s.oT.length:=by have:=QO s.oT (l:=[]) Xdm h.h;show (List.foldl K0 [] s.oT).length<=_;simpa using this
 have M:=h.n;refine (wv (s:=s) (n:=n) (by show [].length+_<=100000;simp;omega) ?_).trans ?_
 ·intro next p j v m P J
  have K:v.length+(m+1)<=100000:=J;cases H:O7 s n p with
  | mk r ok=>
   have e:Sh s n v p=v++(if ok=true then some r else none).toList:=by unfold Sh;rw[H]
   rw[sU h,H,AA,e];dsimp only;rw[AB];cases ok
   ·simp
   rw[Xa2 rfl,AD (by decide) (by simp;omega),AA];rfl
 show some (List.foldl (Sh s n) [] (UD s))=_;rw[pW,Xah];rfl
def EU (s:ur):Ct:=⟨s,s.gD.map λq=>IL s q.tb⟩
def stF (s:ur)(v:O (O mu))(q:tF):O (O mu):=v++[IL s q.tb]
def iF (m:Nat)(v:O (O mu)):Prop:=v.length+m<=1000
def lJ {s:ur}(h:M0 s):F9 s=some (EU s):=by
 unfold F9 EU;rw[AB];have go :∀(t:O tF) (v:O (O mu)),t.foldl (stF s) v=v++t.map λq=>IL s q.tb:=by
  intro t;induction t with
  | nil=>intro v;simp
  | cons q t H=>intro v;rw[Xaj,H];unfold stF;simp
 have P:=h.l;have Q:=h.n;refine (OW (K:=λJ=>some (⟨s,J⟩:Ct)) (stF s) iF s.gD 0 [] ?_ ?_ (by show [].length+_<=1000;simp;omega)).trans ?_
 ·intro q _ m v F;have M:v.length+(m+1)<=1000:=F;show (v++[IL s q.tb]).length+m<=1000;simp;omega
 ·intro next q j v m _ F
  have M:v.length+(m+1)<=1000:=F;rw[wK h,AA,AD (by decide) (by simp;omega),AA];rfl
 rw[go,Xah]
def io {α ρ:Type}{K:O α->C ρ}{body:(O α->C ρ)->α->Nat->O α->C ρ}{t:O α}(P:t.length<=100000) (F :∀next x j v,x∈t->v.length+1<=100000->body next x j v=next (v++[x])):AL K body t 0 []=K t:=by
 have h:=OW (K:=K) (body:=body) (λ(v:O α) x=>v++[x]) (λm v=>v.length+m<=100000) t 0 [] (λx _ m v h=>by
  have H:v.length+(m+1)<=100000:=h;show (v++[x]).length+m<=100000
  simp;omega) (λnext x j v m J h=>F next x j v J (by have H:v.length+(m+1)<=100000:=h;omega)) (by show [].length+_<=100000;simp;omega)
 rw[h];congr 1;have go :∀(t v:O α),t.foldl (λv x=>v++[x]) v=v++t:=by
  intro t;induction t with
  | nil=>intro v;simp
  | cons x t M=>intro v;rw[Xaj,M];simp
 simpa using go t []
structure SzF (f:oX):Prop where
 a:f.Bb.length<=100000
 b:f.wg.length<=100000
 c:f.tv.length<=100000
 d:f.zq.length<=100000
 e:f.sI.length<=100000
 o:f.zu.r9.length<=100000
 s:f.zu.tE.length<=100000
 t :∀x∈f.zu.tE,x.qv.length<=100000/\x.tE.length<=100000
def vw {f:oX}(h:SzF f):D8 f=some f:=by
 unfold D8;have:=h.a;have:=h.b;have:=h.c;have:=h.d;have:=h.e;have:=h.o;rw[AD (by decide) (by simp;omega),AA,AD (by decide) (by simp;omega),AA,AD (by decide) (by simp;omega),AA,AD (by decide) (by simp;omega),AA, AD (by decide) (by simp;omega),AA,AD (by decide) (by simp;omega),AA,AB];refine (io h.s ?_).trans rfl;intro next x j v F H
 obtain⟨J,K⟩:=h.t x F;rw[AD (by decide) (by simp;omega),AA,AD (by decide) (by simp;omega),AA,AD (by decide) (by simp;omega),AA]
structure SzP (p:tF):Prop where
 d:p.El.length<=100000
 p:p.B4.length<=100000
def SA {p:tF}(h:SzP p):F8 p=some p:=by unfold F8;have:=h.d;have:=h.p;rw[AD (by decide) (by simp;omega),AA,AD (by decide) (by simp;omega),AA]
structure SzS (s:ur):Prop where
 f:SzF s.oX
 p :∀q∈s.gD,SzP q
 b :∀b∈s.oT,SmB b
 l:s.gD.length<=64/\s.oT.length<=64
def tH {s:ur}(h:SzS s):GI s=some s:=by
 have J:=h.l;unfold GI;rw[vw h.f,AA,AB];refine (io (by omega) ?_).trans ?_
 ·intro next x j v F H
  rw[SA (h.p x F),AA,AD (by decide) (by simp;omega),AA]
 show AC _ _=_;rw[AB];refine (io (by omega) ?_).trans rfl;intro next x j v F H
 rw[Iy (h.b x F),AA,AD (by decide) (by simp;omega),AA]
def qV {s:ur}(h:M0 s)(F:SzS s)(H:E9 s=some true):EH s=some (EU s,0):=by unfold EH;rw[H,AA,Xa1 (by decide),tH F,AA,lJ h,AA]
def Z3 :∀(l:O gT) (p:fI),(IJ l p).2=true->(IJ l p).1.mu.fI=p
 | [],p,h=>by have:(IJ [] p).2=false:=rfl;rw[this] at h;cases h
 | x::t,p,h=>by
  unfold IJ at h⊢;by_cases e:fI.zn x.mu.fI p=true
  ·rw[Xa2 e];exact (fI.zb _ _).1 e
  rw[Xa1 e] at h⊢;exact Z3 t p h
def lO {b:rv}{p:fI}(h:(Gu b p).2=true):(Gu b p).1.fI=p:=by
 unfold Gu nD at h⊢;split at h
 ·rename_i F;rw[Xa2 F];simp only[X24] at F;exact Z3 _ _ F.1
 cases h
def Nh (s:ur):Prop:=∀q∈s.gD,∀b∈s.oT,∀p,(Gu b p).2=true->(Ny s.oX.DH (Gu b p).1 q).2.2=0->(Ny s.oX.DH (Gu b p).1 q).2.1=0->(Ny s.oX.DH (Gu b p).1 q).1.fI=(Gu b p).1.fI
def my {s:ur}(U:s.oT.length=s.gD.length)(h:Nh s){n:Int}{p:fI}{r:mu}(F:r∈I3 s n p):r.fI=p:=by
 unfold I3 at F;split at F
 ·cases F
 rename_i i M;have H:=Y2 M;split at F
 ·obtain⟨b,P,F⟩:=Xc9.1 F;have Q:s.gD.getD i ⟨0,false,false,false,0,[],[]⟩=s.gD[i]:=by simp[H]
  rw[Q] at F;unfold LH at F;split at F
  ·rename_i K;split at F
   ·rename_i J;simp only[X24,Xbh] at J;rw[X11.1 F,h _ (Xad H) b P p K J.1 J.2,lO K]
   cases F
  cases F
 cases F
def gV {s:ur}{n:Int}{p:fI}(h:(O7 s n p).2=true):(O7 s n p).1∈I3 s n p:=by
 unfold O7 at h⊢;split at h
 ·cases h
 rename_i i J;split at h
 ·cases h
 rename_i F;rw[Xa1 F];have H:=Yk (p:=s.gD.getD i ⟨0,false,false,false,0,[],[]⟩) F;dsimp only;rw[Xa8,X12 H,Xaz];exact Xad H
def ny {f:fI->C mu}(F :∀p r,f p=some r->kR r=p) :∀{l:O fI},LY l->Cz kR Az (l.filterMap f)
 | [],_=>Xdm
 | p::t,h=>by
  obtain⟨K,M⟩:=Xab.1 h;have J:=ny F (l:=t) M;rw[Xcd];cases P:f p with
  | none=>exact J
  | some r=>refine Xab.2 ⟨λx H=>?_,J⟩;obtain⟨q,Q,H⟩:=List.mem_filterMap.1 H;rw[F p r P,F q x H];exact K q Q
def ZG {s:ur}(H:s.oT.length=s.gD.length)(h:Nh s)(n:Int):Cz kR Az (IL s n):=by
 unfold IL;refine ny (λp r F=>?_) (j4 s);split at F
 ·rename_i J;cases F;exact my H h (gV J)
 cases F
def IY {α:Type}{F:Type}[DecidableEq F]{key:α->F}{cmp:F->F->Int}{same:α->α->I} :∀(a b:O α),(Gi key cmp same a b).length<=a.length+b.length
 | [],[]=>by unfold Gi;simp
 | [],y::b=>by have:=IY (key:=key) (cmp:=cmp) (same:=same) [] b;unfold Gi;simp at this⊢;omega
 | x::a,[]=>by have:=IY (key:=key) (cmp:=cmp) (same:=same) a [];unfold Gi;simp at this⊢;omega
 | x::a,y::b=>by
  have H:=IY (key:=key) (cmp:=cmp) (same:=same) a (y::b);have J:=IY (key:=key) (cmp:=cmp) (same:=same) (x::a) b;have K:=IY (key:=key) (cmp:=cmp) (same:=same) a b;simp only[X3] at H J K;unfold Gi;split
  ·simp only[X3];omega
  split
  ·simp only[X3];omega
  split<;>simp only[X3]<;>omega termination_by a b=>a.length+b.length
def Z7 {s:ur}(h:M0 s)(n:Int):(IL s n).length<=16384:=by
 have F:(IL s n).length<=(UD s).length:=List.length_filterMap_le _ _;have H:(UD s).length<=256*s.oT.length:=by have:=QO s.oT (l:=[]) Xdm h.h;show (List.foldl K0 [] s.oT).length<=_;simpa using this
 have:=h.n;omega
def xK (s F:ur):O DA:=F.gD.flatMap λq=>(Gi kR Az JL (IL s q.tb) (IL F q.tb)).map (mkC q.tb)
def oZ {ρ:Type}{s F:ur}(h:M0 s)(Q:M0 F)(hp:Nh s)(U:Nh F)(ha:F.gD.map (·.tb)=s.gD.map (·.tb))(hs :∀n,∀r∈IL F n,Mo r.gH)(K:O DA->C ρ) : AL (σ:=(O DA)) (λJ=>K J) (λH (V:tF) M J=>Xx (gN (EU s).Cl (M:Int)) λY=>Xx (gN (EU F).Cl (M:Int)) λZ=>Xx (HZ V.tb Y Z) λa6=>Xx (gO (α:=DA) 240 J a6) λa7=>H a7 ) F.gD 0 []=K (xK s F):=by
 have hl:F.gD.length<=64:=by have:=Q.l;have:=Q.n;omega
 have a8:s.gD.length=F.gD.length:=by have:=Xap List.length ha;simpa using this.symm
 refine (Rx (λt i (v:O DA)=>F.gD.drop i=t/\i+t.length=F.gD.length/\v.length<=i*40000) (λt i v=>K (v++t.flatMap λq=>(Gi kR Az JL (IL s q.tb) (IL F q.tb)).map (mkC q.tb))) ?_ ?_ F.gD 0 [] ⟨rfl,by omega,by simp⟩).trans ?_
 ·intro i v _;simp
 ·rintro next x t i v ⟨h1,h2,h3⟩ ih
  have hi:i<F.gD.length:=by simp at h2;omega
  have hx:F.gD[i]=x:=by have:=Xbt hi;rw[h1] at this;exact (List.cons.inj this).1.symm
  have P:s.gD[i].tb=x.tb:=by
   have e1:(F.gD.map (·.tb))[i]?=some x.tb:=by rw[Xej,X12 hi,hx];rfl
   rw[ha,Xej,X12 (by omega)] at e1;exact X22 e1
  have o1:gN (EU s).Cl (i:Int)=some (IL s x.tb):=by
   have:i<(s.gD.map λq=>IL s q.tb).length:=by simp;omega
   show gN (s.gD.map λq=>IL s q.tb) (i:Int)=_;rw[Ae this,Xb6,P]
  have o2:gN (EU F).Cl (i:Int)=some (IL F x.tb):=by
   have:i<(F.gD.map λq=>IL F q.tb).length:=by simp;omega
   show gN (F.gD.map λq=>IL F q.tb) (i:Int)=_;rw[Ae this,Xb6,hx]
  have l1:=Z7 h x.tb;have l2:=Z7 Q x.tb;have ld:=IY (key:=kR) (cmp:=Az) (same:=JL) (IL s x.tb) (IL F x.tb);rw[o1,AA,o2,AA,ua (ZG h.l hp _) (ZG Q.l U _) (by omega) (hs x.tb),AA,AD (by decide) (by simp;omega),AA];rw[ih _ ⟨by rw[<- List.drop_drop (i:=1),h1];rfl,by simp at h2;omega,by simp;omega⟩,Xat,Xb9]
 rw[Xah];rfl
def NM (p:tF):Int:=(BA p).getD 0
def HU (s:ur)(i:Nat)(b:rv)(r:zO):Int×O tF×O rv:=
 if r.Kind=1 then ((Dv s.oX b r.zl).2,s.gD,s.oT.set i (Dv s.oX b r.zl).1)
 else if r.Kind=2 then ((Em b).2,s.gD,s.oT.set i (Em b).1)
 else if r.Kind=3 then ((G8 b r.KK r.zT).2,s.gD,s.oT.set i (G8 b r.KK r.zT).1)
 else if r.Kind=4 then ((if NM r.tF=0/\r.tF.tb≠r.Co then 33 else NM r.tF),s.gD.set i r.tF,s.oT)
 else if r.Kind=5 then (0,s.gD,s.oT.set i (FI b r.zT))
 else (1,s.gD,s.oT)
def dN (s:ur)(x:Int×O tF×O rv):ur:=⟨s.oX,x.2.1,x.2.2⟩
def zC:Ct:=⟨⟨⟨0,[],0,0,0,0,0,0,[],[],[],0,⟨[],[]⟩,[]⟩,[],[]⟩,[]⟩
def Mn:rv:=⟨⟨0,Xbe,0,0,[]⟩,false,[],0⟩
def Nz (s:ur)(r:zO):Ct×O DA×Int:=match Km s r.Co with
 | none=>(zC,[],32)
 | some i=>
  if (HU s i (s.oT.getD i Mn) r).1=0 then (EU (dN s (HU s i (s.oT.getD i Mn) r)),xK s (dN s (HU s i (s.oT.getD i Mn) r)),0)
  else (zC,[],(HU s i (s.oT.getD i Mn) r).1)
structure Sq (s:ur)(r:zO):Prop where
 f:FOk s.oX
 b :∀b∈s.oT,Uq b/\b.th.Set.size<=maxLen
 u:Lv r.zl
 p:SzP r.tF
 c:BA r.tF=some (NM r.tF)
def eR {α:Type}{l:O α}{i:Nat}(h:i<l.length)(x:α):Bu l (i:Int) x=some (l.set i x):=by obtain⟨H,e,F,_⟩:=Ok.Bu (l:=l) (i:=(i:Int)) (x:=x) ⟨by omega,by omega⟩;rw[e,F,Xax]
def ou {ρ:Type}{s:ur}{r:zO}(F:Sq s r){i:Nat}(hi:i<s.oT.length)(hp:i<s.gD.length)(K:Int×O tF×O rv->C ρ) : AC (τ:=Int×(O tF)×(O rv)) (λH=>if (r.Kind==1) then Xx (gN s.oT (i:Int)) λv4=>Xx (Gg s.oX v4 r.zl) λ(v5,v6)=>Xx (gN s.oT (i:Int)) λv7=>Xx (Bu s.oT (i:Int) v5) λv8=>H (v6,s.gD,v8) else AC (τ:=Int×(O tF)×(O rv)) (λk9=>if (r.Kind==2) then Xx (gN s.oT (i:Int)) λa6=>Xx (GR a6) λ(v11,v12)=>Xx (gN s.oT (i:Int)) λap=>Xx (Bu s.oT (i:Int) v11) λa7=>k9 (v12,s.gD,a7) else AC (τ:=Int×(O tF)×(O rv)) (λJ=>if (r.Kind==3) then Xx (gN s.oT (i:Int)) λa8=>Xx (HO a8 r.KK r.zT) λ(v17,aa)=>Xx (gN s.oT (i:Int)) λaq=>Xx (Bu s.oT (i:Int) v17) λab=>J (aa,s.gD,ab) else AC (τ:=Int×(O tF)×(O rv)) (λM=>if (r.Kind==4) then Xx (BA r.tF) λP=>AC (τ:=I) (λQ=>if (P==0) then Q (cond true (r.tF.tb !=r.Co) false) else Q false ) λae=>AC (τ:=Int) (λU=>if ae then U 33 else U P ) λaf=>Xx (F8 r.tF) λag=>Xx (gN s.gD (i:Int)) λar=>Xx (Bu s.gD (i:Int) ag) λah=>M (af,ah,s.oT) else AC (τ:=Int×(O rv)) (λV=>if (r.Kind==5) then Xx (gN s.oT (i:Int)) λai=>Xx (Ew ai r.zT) λaj=>Xx (gN s.oT (i:Int)) λau=>Xx (Bu s.oT (i:Int) aj) λak=>V (0,ak) else V (1,s.oT) ) λ(v35,v36)=>M (v35,s.gD,v36) ) λ(v37,al,v39)=>J (v37,al,v39) ) λ(v40,v41,an)=>k9 (v40,v41,an) ) λ(ao,v44,v45)=>H (ao,v44,v45) ) K=K (HU s i s.oT[i] r):=by
 obtain⟨Y,hz⟩:=F.b _ (Xad hi);have g:gN s.oT (i:Int)=some s.oT[i]:=Ae hi;have gp:gN s.gD (i:Int)=some s.gD[i]:=Ae hp;have st :∀x:rv,Bu s.oT (i:Int) x=some (s.oT.set i x):=λx=>eR hi x;have sp :∀x:tF,Bu s.gD (i:Int) x=some (s.gD.set i x):=λx=>eR hp x;unfold HU;rw[AB];by_cases Z:r.Kind=1
 ·rw[Xa2 (by simpa using Z),Xa2 Z,g,AA,Yb F.f Y hz F.u,AA];dsimp only;rw[AA,st,AA]
 rw[Xa1 (by simpa using Z),Xa1 Z,AB];by_cases k2:r.Kind=2
 ·rw[Xa2 (by simpa using k2),Xa2 k2,g,AA,Y0 Y,AA];dsimp only;rw[AA,st,AA]
 rw[Xa1 (by simpa using k2),Xa1 k2,AB];by_cases H:r.Kind=3
 ·rw[Xa2 (by simpa using H),Xa2 H,g,AA,dI Y,AA];dsimp only;rw[AA,st,AA]
 rw[Xa1 (by simpa using H),Xa1 H,AB];by_cases k4:r.Kind=4
 ·rw[Xa2 (by simpa using k4),Xa2 k4,F.c,AA,AB];by_cases c0:NM r.tF=0
  ·rw[Xa2 (by simpa using c0)];by_cases ca:r.tF.tb=r.Co
   ·have e:(cond true (r.tF.tb !=r.Co) false)=false:=by simp[ca]
    rw[e];show AC _ _=_;rw[AB,Xa1 (by decide)];dsimp only;rw[SA F.p,AA,gp,AA,sp,AA,Xa1 (by simp[ca])]
   have e:(cond true (r.tF.tb !=r.Co) false)=true:=by simp[ca]
   rw[e];show AC _ _=_;rw[AB,Xa2 rfl];dsimp only;rw[SA F.p,AA,gp,AA,sp,AA,Xa2 ⟨c0,ca⟩]
  rw[Xa1 (by simpa using c0)];show AC _ _=_;rw[AB,Xa1 (by decide)];dsimp only;rw[SA F.p,AA,gp,AA,sp,AA,Xa1 (λh=>c0 h.1)]
 rw[Xa1 (by simpa using k4),Xa1 k4,AB];by_cases k5:r.Kind=5
 ·rw[Xa2 (by simpa using k5),Xa2 k5,g,AA,RX Y.smb,AA,AA,st,AA]
 rw[Xa1 (by simpa using k5),Xa1 k5]
structure ns (s:ur)(s':ur):Prop where
 o:M0 s'
 p:Nh s'
 a:s'.gD.map (·.tb)=s.gD.map (·.tb)
 r :∀n,∀r∈IL s' n,Mo r.gH
def sV {s:ur}{r:zO}(h:M0 s)(Q:SzS s)(U:Nh s)(V:Sq s r) (Y :∀i,Km s r.Co=some i->(HU s i (s.oT.getD i Mn) r).1=0->ns s (dN s (HU s i (s.oT.getD i Mn) r))) : EG (EU s) r=some (Nz s r):=by
 unfold EG Nz;show Xx (GI s) _=_;rw[tH Q,AA,t8,AA];unfold atV;cases M:Km s r.Co with
 | none=>dsimp only;rw[Xa2 (by decide)];rfl
 | some i=>
  have J:=Y2 M;have H:i<s.oT.length:=by have:=h.l;omega
  have hg:s.oT.getD i Mn=s.oT[i]:=by simp[H]
  have F:=Y i M;dsimp only;rw[Xa1 (by simp),ou V H J,hg];rw[hg] at F;generalize HU s i s.oT[i] r=x at F⊢;obtain⟨e,P,bs⟩:=x;dsimp only at F⊢;by_cases he:e=0
  ·subst he;have N:=F rfl;rw[Xa1 (by decide),Xa2 rfl];show Xx (F9 (dN s (0,P,bs))) _=_;rw[lJ N.o,AA,AB];exact oZ h N.o U N.p N.a N.r λK=>some (EU (dN s (0,P,bs)),K,0)
  rw[Xa2 (by simpa using he),Xa1 he];rfl
instance (a0:Int):Tt (Dj a0):=by unfold Dj;exact Tt.Bx
instance (a0:O iX) (a1:iX):Tt (BX a0 a1):=by unfold BX;exact Tt.Bx
instance (a0:Int) (a1:gH) (F:Int) (H:Int) (J:Int) (K:Int):Tt (GM a0 a1 F H J K):=by unfold GM;exact Tt.Bx
def VW {l:O r8}(F:l.length<=100000)(H :∀s∈l,s.qv.length<=100000):HC l=some l:=by
 unfold HC;rw[AB];refine (io F ?_).trans rfl;intro next x j v J K
 have:=H x J;rw[AD (by decide) (by simp;omega),AA,AD (by decide) (by simp;omega),AA]
instance (r:Int):Tt (Ej r):=by unfold Ej;exact Tt.Bx
instance (a:gH):Tt (EO a):=by unfold EO;exact Tt.Bx
instance (p:O r8):Tt (Bm p):=⟨⟨_,Dh p⟩⟩
instance (r o:Int):Tt (Gk r o):=by unfold Gk;exact Tt.Bx
instance (p:fI):Tt (Am p):=⟨⟨_,(JA p).1⟩⟩
def sC {p:O r8}{n:Nat}(h :∀s∈p,s.qv.length<=n):DP p<=n*p.length:=XA h
def NU {n:Nat}{l:O r8}(J:l.length<=n)(F :∀s∈l,s.qv.length<=n)(H:n<=10000):Ok (DZ l) λf=>f=l.flatMap λs=>s.qv:=by have:=sC F;have K:n*l.length<=10000*10000:=Nat.mul_le_mul H (by omega);exact⟨_,F3 (by omega),rfl⟩
theorem UM {a:tF}(F:a.El.length<=1000000000)(H:a.B4.length<=1000000000):Tt (BA a):=by unfold BA;have J:=λi (h:i<a.El.length)=>Pq h F;have K:=λi (h:i<a.B4.length)=>Pq h H;exact Tt.Bx
structure SmP (p:tF):Prop where
 d:p.El.length<=1000
 f:p.B4.length<=1000
def QT {n:Nat}{l:O r8}{a m:Int}(Q:l.length<=n)(H :∀s∈l,s.qv.length<=n)(hn:n<=5000) : Ok (Fg l a m) λr=>r.1.length<=n+100/\∀s∈r.1,s.qv.length<=n+100:=by
 unfold Fg;have:=Lm (l:=l) (by omega) (λs F=>by have:=H s F;omega);refine .join (λv=>v=false->0<=m) (λk J=>?_) λv U=>.ite (λ_=>.ret ⟨by simp,by simp⟩) λV=>?_
 ·refine .bind Ok.of λ_ _=>.ite (λ_=>J _ (by simp)) λ_=>.ite (λ_=>J _ (by simp)) λ_=>.ite (λ_=>J _ (by simp)) λ_=>J _ λh=>?_;simp at h;exact h
 have Y:0<=m:=U (by simpa using V);refine .bind (NU Q H (by omega)) λf hf=>.ite (λ_=>.ret ⟨by simp,by simp⟩) λhm=>?_;have a8:f.length<=n*n:=by
  rw[hf,List.length_flatMap];have :∀(l:O r8) (H :∀s∈l,s.qv.length<=n),(l.map λs=>s.qv.length).sum<=l.length*n:=by
   intro l;induction l with
   | nil=>intro _;simp
   | cons s l ih=>intro H;have:=ih λs F=>H s (by simp[F]);have:=H s (by simp);simp only[Xbk,List.sum_cons,X3,X29];omega
  exact Xay (this l H) (X28 n Q)
 have aa:n*n<=5000*5000:=Nat.mul_le_mul hn hn;have a7:m<=64:=by rw[AK (by omega)] at hm;simp at hm;omega
 rw[VW (by omega) (λs F=>by have:=H s F;omega),AA];refine .ite (λ_=>.ret ⟨by simp only;omega,λs F=>by have:=H s F;omega⟩) λ_=>?_;refine .join (λr:O Int=>r.length<=64) (λk J=>?_) λr hr=>?_
 ·refine .Dr (λs:Int×O Int=>0<=s.1/\s.1<=m/\s.2.length=s.1.toNat) (λs=>(m-s.1).toNat) ⟨by simp,by simpa using Y,by simp⟩ (BE (by simp only;omega)) ?_;rintro next ⟨p,r⟩ ⟨Z,P,g3⟩ a6
  simp only at Z P g3;refine .ite (λM=>?_) λ_=>J _ (by omega);simp only[Xy] at M;refine .bind (.gO (by decide) (by simp;omega)) λw K=>?_;rw[AK (by omega)];refine a6 _ ⟨by simp only;omega,by simp only;omega,?_⟩ (by simp only;omega);simp only[K,X2,X19];omega
 rw[AA];refine .join (λv=>v=true->0<l.length) (λk J=>.ite (λM=>?_) λ_=>J _ (by simp)) λv U=>?_
 ·simp only[Xy] at M;exact .bind (.gN (by omega)) λ_ _=>J _ λ_=>by omega
 refine .join (λp:O r8×O Int=>p.1.length<=n/\(∀s∈p.1,s.qv.length<=n)/\p.2.length<=n+64) (λk J=>.ite (λM=>?_) λ_=>J _ ⟨Q,H,by simp only;omega⟩) ?_
 ·have hl:=U M;refine .bind (.gN (by omega)) λs F=>?_;have:=H s F.1;refine .bind (.gO (by decide) (by omega)) λw K=>.bind (.part ⟨by omega,by omega,Int.le_refl _⟩) λq hq=>J _ ⟨?_,?_,?_⟩
  ·simp only[hq.1,X15,X14];omega
  ·intro s F;simp only[hq.1] at F;exact H s (List.drop_subset _ _ (Xdr F))
  simp only[K,X2];omega
 rintro⟨p,q⟩ ⟨Z,P,g3⟩;simp only at Z P g3;refine .bind (.gO (by decide) (by simp;omega)) λw K=>.ret ⟨by simp only[K,X2,X19];omega,λs F=>?_⟩;simp only[K,X20,X11] at F;rcases F with rfl|F
 ·simp only;omega
 have:=P s F;omega
def TX {n:Nat}{o:Int}{a:gH}(h:Mj n a)(Z:n<=1000):Ok (H9 o a) λr=>r.Path=a.Path/\r.oE=a.oE/\r.fT=a.fT.filter (λc=>c.A !=0&&c.A !=o)/\r.iX=a.iX.filter (λc=>c.A !=o)/\ r.o3=a.o3/\r.Next=a.Next/\r.AF=a.AF/\r.xL=a.xL/\r.zy=a.zy:=by
 have hc:=h.c;have hl:=h.l;unfold H9;rw[Ry (h.mono Z).sms,AA];refine .join (λr=>r=a.fT.filter (λc=>c.A !=0&&c.A !=o)) (λk M=>?_) λcs P=>?_
 ·refine .Gd (λi r=>r=(a.fT.take i).filter (λc=>c.A !=0&&c.A !=o)) rfl (λr H=>M _ (by rw[H,Xd3])) ?_;rintro next x i r J rfl K
  have hi:=(X13.1 J).1;refine .join (λb=>b=(x.A !=0&&x.A !=o)) (λV F=>.ite (λh=>F _ (by rw[h,Xco];rfl)) λh=>F _ (by simp at h;simp[h])) λb Y=>?_;refine .join (λr=>r=(a.fT.take (i+1)).filter (λc=>c.A !=0&&c.A !=o)) (λV F=>.ite (λh=>?_) λh=>F _ ?_) λr H=>K _ H
  ·refine .bind (.gO (by decide) ?_) λw Q=>F _ ?_
   ·have:=Xeb (λc:oF=>c.A !=0&&c.A !=o) (a.fT.take i);simp at this⊢;omega
   rw[Q,Xbr,J,Xbb];rw[Y] at h;simp only[Option.toList_some,Xch,h,Xet,List.filter_nil]
  rw[Y] at h;rw[Xbr,J,Xbb];simp only[Option.toList_some,Xch,h,Xd4,List.filter_nil,Xb1];simp
 refine .join (λr=>r=a.iX.filter (λc=>c.A !=o)) (λk M=>?_) λls U=>.ret ⟨rfl,rfl,P,U,rfl,rfl,rfl,rfl,rfl⟩;refine .Gd (λi r=>r=(a.iX.take i).filter (λc=>c.A !=o)) rfl (λr H=>M _ (by rw[H,Xd3])) ?_;rintro next x i r J rfl K
 have hi:=(X13.1 J).1;refine .join (λr=>r=(a.iX.take (i+1)).filter (λc=>c.A !=o)) (λV F=>.ite (λh=>?_) λh=>F _ ?_) λr H=>K _ H
 ·refine .bind (.gO (by decide) ?_) λw Q=>F _ ?_
  ·have:=Xeb (λc:iX=>c.A !=o) (a.iX.take i);simp at this⊢;omega
  rw[Q,Xbr,J,Xbb];simp only[Option.toList_some,Xch,h,Xet,List.filter_nil]
 rw[Xbr,J,Xbb];simp only[Option.toList_some,Xch,h,Xd4,List.filter_nil,Xb1];simp
def VL {n:Nat}{r o:Int}{a:gH}(h:Mj n a):Ok (Ix r o a) λx=>Mj n x.1:=by unfold Ix;refine .bind Ok.of λ_ _=>.ite (λ_=>.ret (.zero ..)) λ_=>.join (λ_=>True) (λk F=>Ok.q) λ_ _=>.join (λ_=>True) (λk F=>Ok.q) λ_ _=>?_;refine .ite (λ_=>.ret (.zero ..)) λ_=>.join (λ_=>True) (λk F=>Ok.q) λ_ _=>.join (λ_=>True) (λk F=>Ok.q) λ_ _=>.ret ?_;exact⟨h.p,h.s,h.c,h.l,h.o,h.d⟩
instance (o:Int) (a:gH) (n:Int):Tt (D2 o a n):=by unfold D2;refine Ok.tt (Q:=λ_=>True) (.join (λ_=>True) (λk K=>?_) λ_ _=>.ret trivial);refine .for_ (λ_=>K _ trivial) λnext x i s U V F=>.join (λ_=>True) (λY H=>.join (λ_=>True) (λZ J=>?_) λ_ _=>H _ trivial) λ_ _=>F _;refine .Dr (λv:Int=>0<=v/\v<=3) (λv=>v.toNat) (by omega) (BE (by decide)) λnext v hv M=>.ite (λP=>?_) λ_=>J _ trivial;simp only[Xy] at P;refine .bind Ok.of λ_ _=>.ite (λ_=>.ret trivial) λ_=>?_;rw[AK (by omega)];exact M _ (by omega) (by omega)
theorem XV {n:Nat}{l:O r8}{a:Int}(F:l.length<=n)(H :∀s∈l,s.qv.length<=n)(J:n<=10000):Tt (Gh l a):=by unfold Gh;have:=(NU F H J).tt;exact Tt.Bx
theorem QJ {n:Nat}{o:Int}{r:mu}{p:tF}(F:Mj n r.gH)(H:n<=10000):Tt (F2 o r p):=by unfold F2;have:=XV (a:=p.tb) F.p F.s H;exact Tt.Bx
def Wi {n:Nat}{o:Int}{r:mu}{p:tF}(F:Mj n r.gH)(J:SmP p)(hn:n<=1000) : Ok (Dp o r p) λx=>Mj (n+100) x.1.gH/\(x.2.2=0->x.2.1=0->x.1.fI=r.fI/\x.1.zQ=r.zQ):=by
 unfold Dp;have:=TD F (by omega);have:=QJ (o:=o) (p:=p) F (by omega);have:=UM (a:=p) (by have:=J.d;omega) (by have:=J.f;omega);refine .join (λ_=>True) (λk hk=>Ok.q) λ_ _=>.ite (λ_=>.ret ⟨.zero ..,λh=>by cases h⟩) λ_=>?_;refine .bind Ok.of λ_ _=>.ite (λh=>.ret ⟨.zero ..,λH=>by simp at h;exact absurd H h⟩) λ_=>.bind Ok.of λ_ _=>.ite (λh=>.ret ⟨.zero ..,λ_ H=>by simp at h;exact absurd H h⟩) λ_=>.bind Ok.of λ_ _=>?_;refine .bind (QT F.p F.s (by omega)) ?_;rintro⟨q,e⟩ ⟨K,M⟩;simp only at K M;refine .ite (λh=>.ret ⟨.zero ..,λH=>by simp at h;exact absurd H h⟩) λ_=>.bind (TX F (by omega)) λa Q=>?_;obtain⟨a1,P,U,V,_⟩:=Q;have Y:Mj (n+100) ({ a with Path:=q,xL:=(-1) }):=by
  refine⟨K,M,?_,?_,?_,?_⟩
  ·simp only[U];exact Xay (Xeb _ _) (Xay F.c (by omega))
  ·simp only[V];exact Xay (Xeb _ _) (Xay F.l (by omega))
  ·simp only[P];exact Xay F.o (by omega)
  simp only[P];exact λu Z=>Xay (F.d u Z) (by omega)
 refine .bind (VL Y) ?_;rintro⟨x,e2⟩ hx;exact .ret ⟨hx,λ_ _=>⟨rfl,rfl⟩⟩
def uJ {p:O r8}{s:r8}(h:s∈p):s.qv.length<=DP p:=by
 induction p with
 | nil=>cases h
 | cons y t F=>
  rw[CH];rcases Xa7.1 h with rfl|h
  ·omega
  have:=F h;omega
def VA.sma {a:gH}(v:VA a):Mj 300 a:=by obtain⟨J,K⟩:=Hz v.p;have M:=(GB.1 v.c).2.2;have P:=(F7.1 v.l).2.2;have Q:=v.e;exact⟨by omega,λs F=>by have:=uJ F;omega,by omega,by omega,by omega,λu H=>by have:=(DL v.O H).2.2.2.2;omega⟩
def fQ :∀(l:O gT) (p:fI),(IJ l p).2=true->(IJ l p).1∈l
 | [],p,h=>by have:(IJ [] p).2=false:=rfl;rw[this] at h;cases h
 | x::t,p,h=>by
  unfold IJ at h⊢;by_cases e:fI.zn x.mu.fI p=true
  ·rw[Xa2 e];simp
  rw[Xa1 e] at h⊢;exact X16 _ (fQ t p h)
def sJ {b:rv}{p:fI}(h:(Gu b p).2=true) :∃x∈b.gT,(Gu b p).1=x.mu:=by
 unfold Gu nD at h⊢;split at h
 ·rename_i F;rw[Xa2 F];simp only[X24] at F;exact⟨_,fQ _ _ F.1,rfl⟩
 cases h
structure VS (s:ur):Prop where
 b :∀b∈s.oT,VR b
 p :∀q∈s.gD,SmP q
def VS.exp {s:ur}(h:VS s) :∀q∈s.gD,∀b∈s.oT,∀p,(Gu b p).2=true-> Dp s.oX.DH (Gu b p).1 q=some (Ny s.oX.DH (Gu b p).1 q)/\Mj 400 (Ny s.oX.DH (Gu b p).1 q).1.gH/\ ((Ny s.oX.DH (Gu b p).1 q).2.2=0->(Ny s.oX.DH (Gu b p).1 q).2.1=0->(Ny s.oX.DH (Gu b p).1 q).1.fI=(Gu b p).1.fI):=by
 intro q H b J p K;obtain⟨x,M,e⟩:=sJ K;rw[e];have P:Fb x.mu.gH=true:=by have:=((h.b b J).ok x M).2;simp only[T1,X24] at this;exact this.1
 obtain⟨y,F,Q,U⟩:=Wi (o:=s.oX.DH) (r:=x.mu) (p:=q) (Nu.1 P).sma (h.p q H) (by omega);have e2:Ny s.oX.DH x.mu q=y:=by unfold Ny;rw[F];rfl
 rw[e2];exact⟨F,Q,λa b=>(U a b).1⟩
def VS.ok {s:ur}(h:VS s):pU s:=λq F b H p J=>(h.exp q F b H p J).1
def VS.pre {s:ur}(h:VS s):Nh s:=λq F b H p J=>(h.exp q F b H p J).2.2
structure MP (n:Int)(p:tF):Prop where
 Sy:p.tb=n
 Tw:0<=p.zX/\p.zX<=4
 deny:p.El=[] \/∃x,p.El=[x]/\101<=x/\x<=104
 pref:p.B4.length<=5/\(∀(i:Nat) (x:B4),p.B4[i]?=some x->101<=x.tb/\x.tb<=105/\-2<=x.Value/\x.Value<=2)/\∀(i:Nat) (x y:B4),p.B4[i]?=some x->p.B4[i+1]?=some y->x.tb<y.tb
def MP.sm {n:Int}{p:tF}(h:MP n p):SmP p:=by refine⟨?_,by have:=h.pref.1;omega⟩;rcases h.deny with h|⟨x,h,_⟩<;>rw[h]<;>simp
def LE {d:tx}{n:Int}(F:Dk d):Ok (DF d n) λr=>MP n r.1/\Dk r.2:=by
 unfold DF;refine .bind (AN F (by omega)) ?_;rintro⟨a,d⟩ ⟨_,_,F⟩;refine .bind (AN F (by omega)) ?_;rintro⟨b,d⟩ ⟨_,_,F⟩;simp only at F;let J:Int->O Int->Prop:=λh U=>(0<=h/\h<=4)/\(U=[] \/∃x,U=[x]/\101<=x/\x<=104);have J0:J 0 []:=⟨by omega,.inl rfl⟩;refine .join (λx:tx×Bool×Bool×Int×O Int=>Dk x.1/\J x.2.2.2.1 x.2.2.2.2) (λk hk=>.ite (λ_=>hk _ ⟨F,J0⟩) λ_=>?_) ?_
 ·refine .join (λx:tx×Bool×Int×O Int=>Dk x.1/\J x.2.2.1 x.2.2.2) (λk2 K=>.ite (λ_=>K _ ⟨F,J0⟩) λ_=>?_) (λ⟨d,b,h,U⟩ H=>hk _ H);refine .join (λx:tx×Int×O Int=>Dk x.1/\J x.2.1 x.2.2) (λk3 V=>.ite (λ_=>.bind (AN F (by omega)) ?_) λ_=>?_) (λ⟨d,h,U⟩ H=>K _ H)
  ·rintro⟨c,d⟩ ⟨c1,c2,F⟩;simp only at c1 c2;exact V _ ⟨F,by simp only;rw[AK (by omega)];omega,.inl rfl⟩
  refine .join (λx:tx×O Int=>Dk x.1/\J 0 x.2) (λk4 Y=>.ite (λ_=>.bind (AN F (by omega)) ?_) λ_=>Y _ ⟨F,J0⟩) (λ⟨d,U⟩ H=>V _ H);rintro⟨c,d⟩ ⟨c1,c2,F⟩;simp only at c1 c2;refine Y _ ⟨F,by omega,.inr ⟨_,rfl,?_⟩⟩;rw[AK (by omega)];omega
 rintro⟨d,n4,n6,Tw,U⟩ ⟨F,Z,a6⟩;simp only at F Z a6;let I:Int->O B4->Prop:=λm l=>l.length<=m/\(∀(i:Nat) (x:B4),l[i]?=some x->101<=x.tb/\x.tb<101+m/\-2<=x.Value/\x.Value<=2)/\∀(i:Nat) (x y:B4),l[i]?=some x->l[i+1]?=some y->x.tb<y.tb;refine .join (λx:tx×O B4=>Dk x.1/\I 5 x.2) (λk hk=>?_) ?_
 ·refine .Dr (λs:Int×tx×O B4=>0<=s.1/\s.1<=5/\Dk s.2.1/\I s.1 s.2.2) (λs=>(5-s.1).toNat) ⟨by simp,by simp,F,by simp,by simp,by simp⟩ (BE (by simp only;omega)) ?_;rintro next ⟨m,d,l⟩ ⟨m1,m2,F,l1,M,P⟩ a7
  simp only at m1 m2 F l1 M P;refine .ite (λhc=>.bind (AN F (by omega)) ?_) λhc=>?_
  ·simp only[Xy] at hc;rintro⟨c,d⟩ ⟨_,_,F⟩;simp only at F;refine .join (λx:tx×O B4=>Dk x.1/\I (m+1) x.2) (λk2 K=>.ite (λ_=>.bind (AN F (by omega)) ?_) λ_=>K _ ⟨F,by simp only;omega,λi x H=>by have:=M i x H;omega,P⟩) ?_
   ·rintro⟨v,d⟩ ⟨v1,v2,F⟩;simp only at v1 v2 F;refine .bind (.gO (by decide) (by simp;omega)) λw hw=>K _ ⟨F,by rw[hw];simp;omega,?_,?_⟩
    ·intro i x H;simp only[hw] at H;rcases Xei i l.length with h|h
     ·rw[Xaf h] at H;have:=M i x H;omega
     rw[Xas h] at H;have:i-l.length=0:=by have:=(X13.1 H).1;simp at this;omega
     rw[this] at H;simp only[List.getElem?_cons_zero,X21] at H;subst H;simp only;rw[AK (by omega),AK (by omega)];omega
    intro i x y H Q;simp only[hw] at H Q;have a8:=(X13.1 Q).1;simp only[X2,X19] at a8;rw[Xaf (by omega)] at H;rcases Xei (i+1) l.length with h|h
    ·rw[Xaf h] at Q;exact P i x y H Q
    rw[Xas h,show i+1-l.length=0 by omega] at Q;simp only[List.getElem?_cons_zero,X21] at Q;subst Q;have:=M i x H;simp only;rw[AK (by omega)];omega
   rintro⟨d,l⟩ ⟨F,hI⟩;rw[AK (by omega)];exact a7 _ ⟨by simp only;omega,by simp only;omega,F,hI⟩ (by simp only;omega)
  simp only[Xy] at hc;have:m=5:=by omega
  subst this;exact hk _ ⟨F,l1,M,P⟩
 rintro⟨d,l⟩ ⟨F,l1,M,P⟩;simp only at l1 M P;exact .ret ⟨⟨rfl,Z,a6,by simp only;omega,λi x H=>by have:=M i x H;omega,P⟩,F⟩
def nU {n:Int}(h:1<=n/\n<=4294967295):Dj n=some true:=by unfold Dj;rw[AB,Xa2 (by simpa using h.1)];show some (decide (n<=4294967295))=some true;rw[Xa4 h.2]
def PS {α:Type}{l:O α}{i:Nat}{x:α}(h:l[i]?=some x):gN l (i:Int)=some x:=by obtain⟨F,H⟩:=X13.1 h;rw[Ae F,H]
def fS {n:Int}{p:tF}(h:MP n p)(hn:1<=n/\n<=1000):BA p=some 0:=by
 obtain⟨Q,h2,Y,h4,Z,h6⟩:=h;have:Ok (BA p) λb=>b=0:=by
  unfold BA;refine .join (λb=>b=true) (λk M=>?_) λb F=>?_
  ·rw[Q,nU (by omega),AA,Xa2 rfl,Xa2 (by simp;omega),Xa2 (by simp;omega)];have hd:p.El.length<=64:=by rcases Y with h|⟨x,h,_⟩<;>rw[h]<;>simp
   rw[Xa2 (by simp;omega)];refine M _ ?_;show decide ((p.B4.length:Int)<=64)=true;exact Xa4 (by omega)
  rw[F];refine .join (λb=>b=true) (λk M=>.Gd (λi b=>b=true) rfl (λb F=>M _ F) λnext x i b H F K=>?_) λb F=>?_
  ·refine .join (λb=>b=true) (λk2 J=>?_) λb F=>K _ F;have U:i=0/\101<=x/\x<=104:=by
    rcases Y with h|⟨y,h,P⟩
    ·rw[h] at H;simp at H
    rw[h] at H;rcases i with _|i
    ·exact⟨rfl,by simp at H;omega,by simp at H;omega⟩
    simp at H
   obtain⟨rfl,h7,h8⟩:=U;rw[F,Xa2 rfl,nU (by omega),AA,Xa2 (by decide),Xa2 (by decide)];exact J _ rfl
  rw[F];refine .join (λb=>b=true) (λk M=>.Gd (λi b=>b=true) rfl (λb F=>M _ F) λnext x i b H F K=>?_) λb F=>?_
  ·refine .join (λb=>b=true) (λk2 J=>?_) λb F=>K _ F;obtain⟨q1,q2,q3,q4⟩:=Z i x H;have hi:=(X13.1 H).1;rw[F,Xa2 rfl,nU (by omega),AA,Xa2 (by decide)];refine .ite (λ_=>?_) λh0=>?_
   ·rw[Xa2 (by simp;omega)];exact J _ (Xa4 (by omega))
   have a6:i≠0:=by simpa using h0
   have e:AG ((i:Int)-1)=((i-1:Nat):Int):=by rw[AK (by omega)];omega
   rw[e];cases P:p.B4[i-1]? with
   | none=>rw[List.getElem?_eq_none_iff] at P;omega
   | some y=>have V:=h6 (i-1) y x P (by rw[show i-1+1=i by omega];exact H);rw[PS P,AA,Xa4 V,Xa2 (by decide),Xa2 (by simp;omega)];exact J _ (Xa4 (by omega))
  rw[F,Xa1 (by decide)];exact .ret rfl
 obtain⟨r,Q,rfl⟩:=this;exact Q
def MP.val {n:Int}{p:tF}(h:MP n p):X7 p:=by
 intro m;unfold W0;cases F:p.B4.find? λx=>x.tb==m with
 | none=>exact⟨by decide,by decide⟩
 | some x=>have H:=List.mem_of_find?_eq_some F;obtain⟨i,J⟩:=Xd1.1 H;obtain⟨_,_,K,M⟩:=h.pref.2.1 i x J;exact⟨by show -1000<=x.Value;omega,by show x.Value<=1000;omega⟩
end Go.AX.Q33
end
