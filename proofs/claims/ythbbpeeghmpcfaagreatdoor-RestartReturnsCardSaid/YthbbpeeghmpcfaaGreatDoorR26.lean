/-
  Texts of one proof, packed.
-/
import Derived.Test.YthbbpeeghmpcfaaGreatDoorR16
import Derived.Test.YthbbpeeghmpcfaaGreatDoorR25
import Derived.KernelRfl
set_option linter.all false
set_option maxRecDepth 100000
set_option maxHeartbeats 4000000
open List renaming length_map→X1,length_append→X2,length_cons→X3,mem_singleton→X11,getElem?_eq_getElem→X12,getElem?_eq_some_iff→X13,length_drop→X14,length_take→X15,mem_cons_of_mem→X16,length_replicate→X17,length_set→X18,mem_append→X20
open Option.some renaming injEq→X21,inj→X22
open Prod.mk renaming injEq→X23
open Bool renaming and_eq_true→X24,eq_iff_iff→X25
open Option renaming bind→Xx
open Int renaming tmod→Xes
open List renaming drop→Xb8,toArray→Xe8
open Go renaming maxLen→Xc7
open ByteArray renaming mk→Xe7
section
namespace Go.AX.Q33
open Go Go.AX
def Vs :∀{l:O Set} {seen:O T},ON seen l=true↔(l.map (·.Name)).Nodup/\(∀s∈l,s.Name∉seen)/\∀s∈l,HP s=true
 | [],seen=>by simp[ON]
 | x::t,seen=>by
  rw[ON,X24,X24,Vs,Xbk,List.nodup_cons];simp only[Xbd,Xav,Xa7,forall_eq_or_imp,not_or];constructor
  ·rintro⟨⟨J,K⟩,M,H,P⟩;refine⟨⟨λU=>?_,M⟩,⟨J,λs F=>(H s F).2⟩,K,P⟩;obtain⟨s,F,Q⟩:=Xau.1 U;exact (H s F).1 Q
  rintro⟨⟨J,K⟩,⟨M,H⟩,P,V⟩;exact⟨⟨M,P⟩,K,λs F=>⟨λQ=>J (Xau.2 ⟨s,F,Q⟩),H s F⟩,V⟩
def Tc {r:zu}:T8 r=true↔(Wo r.tE/\∀s∈r.tE,HP s=true)/\(∀o∈r.r9,YO o=true)/\r.tE.length<=64/\r.r9.length<=512:=by unfold T8 Wo;simp only[X24,Xy,Xa6,Vs,Xf2];simp
def O3 {s:Set}:HP s=true↔FJ s.Name=true/\s.qv.length<=64/\s.tE.length<=64/\(∀n∈s.qv,CS n=true)/\∀x∈s.tE,FJ x=true:=by unfold HP;simp only[X24,Xy,Xa6,Xf2]
def nL {r:zu}(h:T8 r=true):Mod r.tE/\∀s∈r.tE,∀x∈s.qv,CS x=true:=by obtain⟨⟨J,H⟩,_,K,_⟩:=Tc.1 h;exact⟨⟨K,J,λs F=>(O3.1 (H s F)).2.1,λs F=>(O3.1 (H s F)).2.2.1⟩,λs F=>(O3.1 (H s F)).2.2.2.1⟩
def Uw {s:T}(h:FJ s=true):s.size<=Xc7:=by have F:Xc7=9223372036854775807:=rfl;unfold FJ at h;simp only[X24,Xy] at h;omega
def kP {s:Set}(h:HP s=true):Qr s:=by obtain⟨F,_,_,_,H⟩:=O3.1 h;exact⟨Uw F,λx J=>Uw (H x J)⟩
def fam (a:Addr):Int:=if a.V6 then 1 else 0
def IM (a:Addr):O Int:=[fam a,a.Hi.toNat,a.Lo.toNat]
def XG (o:ss):O Int:=[fam o.fI.Addr,o.fI.Addr.Hi.toNat,o.fI.Addr.Lo.toNat,o.fI.zk,o.Max,o.tb]
def kg (a b:ss):Int:=Cd (XG a) (XG b)
def Yj (a b:O Int)(c d:O Int)(h:a.length=b.length):Cd (a++c) (b++d)=if Cd a b=0 then Cd c d else Cd a b:=by
 induction a generalizing b with
 | nil=>cases b with
  | nil=>simp[Cd]
  | cons y t=>simp at h
 | cons x s F=>cases b with
  | nil=>simp at h
  | cons y t=>
   simp only[List.cons_append,Cd];rw[F t (by simpa using h)];split
   ·simp
   split<;>simp
def ss.zb (a b:ss):ss.zn a b=true↔a=b:=by
 have h:=fI.zb a.fI b.fI;unfold fI.zn at h;unfold ss.zn;simp only[X24,Xd8,Xbh] at h⊢;rw[h];constructor
 ·rintro⟨F,H,J⟩;cases a;cases b;simp_all
 rintro rfl;exact⟨rfl,rfl,rfl⟩
def rM {a b:Addr}(h:fam a=fam b):a.V6=b.V6:=by unfold fam at h;cases h1:a.V6<;>cases F:b.V6<;>simp_all
def TY {a b:Addr}(h:IM a=IM b):a=b:=by simp only[IM,Xdo,Int.natCast_inj,Xcp,Xf6] at h;obtain⟨F,H,J⟩:=h;have:=rM F;cases a;cases b;simp_all
def ZA {a b:ss}(h:XG a=XG b):a=b:=by simp only[XG,Xdo,Xf6] at h;obtain⟨F,H,J,K,M,P⟩:=h;have:=@TY a.fI.Addr b.fI.Addr (by unfold IM;rw[F,H,J]);obtain⟨⟨x,y⟩,u,v⟩:=a;obtain⟨⟨Q,U⟩,V,Y⟩:=b;simp_all
def sf (f p q r s:Int)(h:p≠r\/q≠s):AC (τ:=I) (λF=>if decide (p<r)=true then F true else if (p==r)=true then F (cond false true (cond true (decide (q<s)) false)) else F false) (λv2=>if v2=true then some (-1:Int) else some 1)=some (Cd [f,p,q] [f,r,s]):=by rw[AB];simp only[Cd,Int.lt_irrefl,Xd4,Xy,Xbh,Xe1,Xc2];by_cases a1:p < r<;>by_cases a2:p=r<;>by_cases a3:r < p<;>by_cases b1:q < s<;>by_cases b3:s < q<;>first|(exfalso;omega)|simp[a1,a2,a3,b1,b3]
def XP (a b:Addr):Jt a b=some (Cd (IM a) (IM b)):=by
 unfold Jt;by_cases h:a=b
 ·subst h;rw[Xa2 ((Addr.zb _ _).2 rfl),Ju]
 rw[Xa1 (λq=>h ((Addr.zb _ _).1 q))];unfold IM fam;by_cases F:a.V6=b.V6
 ·rw[F,Xa1 (by simp)];refine sf _ _ _ _ _ ?_;by_cases H:(a.Hi.toNat:Int)=b.Hi.toNat
  ·refine .inr λJ=>h (TY ?_);unfold IM fam;rw[F,H,J]
  exact .inl H
 rw[Xa2 (by simpa using F)];cases K:a.V6<;>cases M:b.V6<;>simp_all [Cd]
def Of (a b:fI):B2 a b=some (Cd (IM a.Addr++[a.zk]) (IM b.Addr++[b.zk])):=by
 unfold B2;rw[XP,AA,Yj (IM a.Addr) (IM b.Addr) [a.zk] [b.zk] rfl];by_cases h:Cd (IM a.Addr) (IM b.Addr)=0
 ·rw[Xa1 (by simpa using h),Xa2 h];simp only[Cd,Xy,gt_iff_lt];split
  ·rfl
  split<;>rfl
 rw[Xa2 (by simpa using h),Xa1 h]
def lS (p q r s:Int)(e:I)(h:e=true↔(p=r/\q=s)):AC (τ:=I) (λF=>if decide (p<r)=true then F true else if (p==r)=true then F (cond false true (cond true (decide (q<s)) false)) else F false) (λv2=>if v2=true then some (-1:Int) else if e=true then some 0 else some 1)=some (Cd [p,q] [r,s]):=by rw[AB];simp only[Cd,h,Xy,Xbh,Xe1,Xc2];by_cases a1:p < r<;>by_cases a2:p=r<;>by_cases a3:r < p<;>by_cases b1:q < s<;>by_cases b2:q=s<;>by_cases b3:s < q<;>first|(exfalso;omega)|simp[a1,a2,a3,b1,b2,b3]
def Xg (a b:ss):Ie a b=some (kg a b):=by
 unfold Ie;have e:kg a b=Cd ((IM a.fI.Addr++[a.fI.zk])++[a.Max,a.tb]) ((IM b.fI.Addr++[b.fI.zk])++[b.Max,b.tb]):=rfl;rw[Of,AA,e,Yj (IM a.fI.Addr++[a.fI.zk]) (IM b.fI.Addr++[b.fI.zk]) [a.Max,a.tb] [b.Max,b.tb] rfl];by_cases h:Cd (IM a.fI.Addr++[a.fI.zk]) (IM b.fI.Addr++[b.fI.zk])=0
 ·rw[Xa1 (by simpa using h),Xa2 h];refine lS _ _ _ _ _ ((ss.zb _ _).trans ⟨λq=>by rw[q];exact⟨rfl,rfl⟩,λq=>ZA ?_⟩);show (IM a.fI.Addr++[a.fI.zk])++[a.Max,a.tb]=(IM b.fI.Addr++[b.fI.zk])++[b.Max,b.tb];rw[J1 (by rfl) h,q.1,q.2]
 rw[Xa2 (by simpa using h),Xa1 h]
def Kh (a b:ss):I:=decide (kg a b<0)
def sF (a:ss):Kh a a=false:=by unfold Kh kg;rw[Ju];rfl
def bF (a b c:ss)(F:Kh a b=true)(H:Kh b c=true):Kh a c=true:=by unfold Kh kg at *;simp only[Xy] at *;exact SB (by rfl) (by rfl) F H
def Xt (a b:ss)(h:Kh a b=false):a=b\/Kh b a=true:=by
 unfold Kh kg at *;simp only[Xav,Xy] at *;have:=O4 (XG a) (XG b);by_cases F:Cd (XG a) (XG b)=0
 ·exact .inl (ZA (J1 (by rfl) F))
 exact .inr (by omega)
def eV {α:Type}{l:O α}{i:Int}{x:α}(F:0<=i)(h:l[i.toNat]?=some x):gN l i=some x:=by have:=(X13.1 h).1;unfold gN;rw[Xa2 (by omega),h]
def OS {α:Type}{l:O α}{i:Nat}{x:α}(h:i<l.length):(l.set i x).take (i+1)=l.take i++[x]:=by rw[Xbr,List.take_set_of_le (Xak _),Xe0 h];rfl
def cI {p q:O ss}{y z:ss}(P:p.Pairwise λa b=>Kh a b=true)(J :∀x,x∈p↔x∈q)(Y:z∈q)(Q :∀x∈q,Kh z x=false)(F:Kh y z=false)(H:y≠z) : (p++[y]).Pairwise (λa b=>Kh a b=true)/\∀x,x∈p++[y]↔x∈q++[y]:=by
 refine⟨Xbj.2 ⟨P,by simp,λx U w K=>?_⟩,λx=>by rw[X20,X20,J]⟩;rw[X11] at K;subst K;have V:=Q x ((J x).1 U);have M:Kh z w=true:=(Xt _ _ F).resolve_left H;rcases Xt _ _ V with e|e
 ·rw[<- e];exact M
 exact bF _ _ _ e M
def Wx {l:O ss}(hl:l.length<=1000000):Ok (Gp l) λr=>r.Pairwise (λa b=>Kh a b=true)/\∀x,x∈r↔x∈l:=by
 unfold Gp;refine .join (λr=>r.Pairwise (λa b=>Kh a b=true)/\∀x,x∈r↔x∈l) (λk H=>?_) λr hr=>.ret hr;refine .Gd (λi v=>v.Pairwise (λa b=>Kh a b=true)/\(∀x,x∈v↔x∈l.take i)/\v.length<=i) ⟨.nil,by simp,by simp⟩ (λv Y=>H v ⟨Y.1,by simpa using Y.2.1⟩) λnext x i v Z hI hn=>?_;obtain⟨P,Q,i3⟩:=hI;have a7:=(X13.1 Z).1;have J :∀y,y∈l.take (i+1)↔y∈l.take i\/y=x:=by intro y;rw[Xbr,Z];simp
 refine .join (λM=>M.Pairwise (λa b=>Kh a b=true)/\(∀x,x∈M↔x∈l.take (i+1))/\M.length<=i+1) (λk6 K=>?_) λM h=>hn _ h;have a6:=B7 (Kh · x) v;rw[nu (p:=(Kh · x)) (λy k4=>Xx (Ie y x) λU=>k4 (cond true (decide (U<0)) false)) (by omega) (λy _ k=>by rw[Xg];rfl)];have hh:=ME bF sF (x:=x) P;obtain⟨t1,t2⟩:=C1 (Kh · x) v;refine .join (λc=>c=true↔x∈v) (λa8 F=>?_) λc hc=>.ite (λh=>?_) λh=>?_
 ·by_cases H:(v.takeWhile (Kh · x)).length<v.length
  ·rw[Xa2 (by simpa using H),Ae H,AA];refine F _ ?_;rw[hh,X12 H];simp only[Xe1,ss.zb,X21]
  rw[Xa1 (by simpa using H)];refine F _ ?_;rw[hh,Xdl (by omega)];simp
 ·refine K _ ⟨P,λy=>?_,by omega⟩;rw[J,Q y];refine⟨.inl,λq=>q.elim id λe=>?_⟩;rw[e];exact (Q x).1 (hc.1 h)
 have V:x∉v:=λq=>h (hc.2 q);simp only[Xax,Int.toNat_zero,Xer,Nat.sub_zero];refine .bind (Ok.Ch (by omega)) λ_ _=>.bind (Ok.gO (by decide) (by simp;omega)) λ_ _=>.bind (Ok.gO (by decide) (by simp;omega)) λa ha=>.bind (Ok.Ch (by omega)) λ_ _=>.bind (Ok.gO (by decide) (by rw[ha];simp;omega)) λb hb=>K _ ?_;have e:b=G7 Kh v x:=by
  have e2:(Xb8 (v.takeWhile (Kh · x)).length v).take (v.length-(v.takeWhile (Kh · x)).length)=v.dropWhile (Kh · x):=by rw[Xdh (by simp),t2]
  rw[hb,ha,e2,t1];unfold G7;simp
 rw[e];refine⟨H7 bF Xt P V,λy=>?_,by rw[G0];omega⟩;rw[D5,J,Q]
def Nd (p q:fI):I:=decide (q.zk≥p.zk)&&inB p q.Addr
def EZ {p q:fI}(h:q.Addr.ok=true):BF p q=some (Nd p q):=by
 unfold BF Nd;rw[AB,PK h,AA,Xe1];by_cases h:q.zk≥p.zk
 ·rw[Xa2 (by simpa using h)];simp[h]
 rw[Xa1 (by simpa using h)];simp[h]
def pc (p:fI)(a:Int)(o:ss):I:=o.tb==a&&Nd o.fI p
def Vn (L:O ss)(p:fI)(a:Int):I:=L.any λo=>pc p a o&&decide (p.zk<=o.Max)
def tL (L:O ss)(p:fI)(a:Int):Int:=
 cond (Da p) (cond (Vn L p a) 0 (cond (L.any (pc p a)) 9 (cond (L.any λo=>o.tb==a) 7 11))) 1
def La (p:fI)(a:Int)(Y:ss->C I)(F:Int->C Int)(J:ss)(i6:Nat)(K:Int):C Int:=
 AC (τ:=Int) (λU=>if (J.tb !=a)=true then U K else Xx (Y J) λZ=>AC (τ:=Int) (λV=>if (!Z)=true then AC (τ:=Int) (λH=>if (K==11)=true then H 7 else H K) (λM=>V M) else if decide (J.Max<p.zk)=true then V 9 else some 0) (λP=>U P)) (λQ=>F Q)
def Y1 {p:fI}{a:Int}{H:ss->C I}{x:ss}(J:H x=some (Nd x.fI p))(next:Int->C Int)(i:Nat)(v:Int) : La p a H next x i v=cond (pc p a x) (cond (decide (p.zk<=x.Max)) (some 0) (next 9)) (cond (x.tb==a) (next (if v=11 then 7 else v)) (next v)):=by
 unfold La;rw[J];show (if (x.tb !=a)=true then next v else if (!(Nd x.fI p))=true then (if (v==11)=true then next 7 else next v) else if decide (x.Max<p.zk)=true then next 9 else some 0)=_;unfold pc;by_cases h1:x.tb=a
 ·cases Nd x.fI p
  ·by_cases F:v=11<;>simp[h1,F]
  by_cases F:x.Max<p.zk
  ·have:¬ p.zk<=x.Max:=by omega
   simp[h1,F,this]
  have:p.zk<=x.Max:=by omega
  simp[h1,F,this]
 have K:(x.tb==a)=false:=by simpa using h1
 rw[K];simp[h1]
def hY (p:fI)(a:Int)(F:ss->C I)(J :∀x,F x=some (Nd x.fI p)) :∀(l:O ss) (i:Nat) (v:Int), AL (σ:=Int) (λK=>some K) (La p a F) l i v
   = some (cond (Vn l p a) 0 (cond (l.any (pc p a)) 9 (cond (l.any λo=>o.tb==a) (if v=11 then 7 else v) v)))
 | [],i,v=>rfl
 | x::t,i,v=>by
  show La p a F (AL (λK=>some K) (La p a F) t (i+1)) x i v=_;rw[Y1 (J x)];have e1:Vn (x::t) p a=((pc p a x&&decide (p.zk<=x.Max)) || Vn t p a):=rfl;rw[e1,Xd9,Xd9,hY p a F J t (i+1),hY p a F J t (i+1),hY p a F J t (i+1)];have M:pc p a x=true->(x.tb==a)=true:=by intro h;unfold pc at h;rw[X24] at h;exact h.1
  by_cases H:v=11
  ·subst H;revert M;cases pc p a x<;>cases decide (p.zk<=x.Max)<;>cases (x.tb==a)<;>cases Vn t p a<;>cases t.any (pc p a)<;>cases (t.any λo=>o.tb==a)<;>simp
  revert M;simp only[H,Xd4];cases pc p a x<;>cases decide (p.zk<=x.Max)<;>cases (x.tb==a)<;>cases Vn t p a<;>cases t.any (pc p a)<;>cases (t.any λo=>o.tb==a)<;>simp
def Px (L:O ss)(p:fI)(a:Int):C3 L p a=some (tL L p a):=by
 unfold C3 tL;rw[DR,AA];cases hg:Da p
 ·rfl
 rw[Xa1 (by simp),AB];exact hY p a _ (λx=>EZ ((HN p).1 hg).1) L 0 11
def Sa (l:O Int)(n:Int):HK l n=some (l.any λx=>n==x):=by
 unfold HK;rw[AB];have key :∀(l:O Int) (i:Nat),AL (σ:=Unit) (λ_=>some false) (λF H K _=>if (H==n)=true then some true else F ()) l i ()=some (l.any λx=>n==x):=by
  intro l;induction l with
  | nil=>intro i;rfl
  | cons x t J=>intro i;show (if (x==n)=true then some true else AL _ _ t (i+1) ())=_;rw[J,Xd9,show (n==x)=(x==n) from Bool.beq_comm];cases (x==n)<;>rfl
 exact key l 0
def own (s:O Int)(o:ss):I:=s.any λx=>o.tb==x
def Ro {r:zu}{s:O Int}(V:r.r9.length<=1000000):Ok (Ib r s) λl=>l.Pairwise (λa b=>Kh a b=true)/\∀x,x∈l↔x∈r.r9/\own s x=true:=by
 unfold Ib;refine .join (λv=>(∀x,x∈v↔x∈r.r9/\own s x=true)/\v.length<=r.r9.length) (λk P=>?_) λv F=>.bind (Wx (by omega)) λw H=>.ret ⟨H.1,λx=>(H.2 x).trans (F.1 x)⟩;refine .Gd (λi v=>(∀x,x∈v↔x∈r.r9.take i/\own s x=true)/\v.length<=i) ⟨by simp,by simp⟩ (λv F=>P v ⟨by simpa using F.1,F.2⟩) λnext x i v M F Q=>?_;have J:r.r9.take (i+1)=r.r9.take i++[x]:=by rw[Xbr,M];rfl
 have U:=(X13.1 M).1;rw[Sa,AA];refine .join (λv=>(∀x,x∈v↔x∈r.r9.take (i+1)/\own s x=true)/\v.length<=i+1) (λY K=>.ite (λh=>?_) λh=>K _ ⟨λy=>?_,by omega⟩) λZ h=>Q _ h
 ·have h:own s x=true:=h;refine .bind (Ok.gO (by decide) (by simp;omega)) λw H=>K _ ⟨λy=>?_,by rw[H];simp;omega⟩;rw[H,J,X20,X20,F.1 y,X11];constructor
  ·rintro (q|q)
   ·exact⟨.inl q.1,q.2⟩
   exact⟨.inr q,by rw[q];exact h⟩
  rintro⟨q|q,q2⟩
  ·exact .inl ⟨q,q2⟩
  exact .inr q
 have h:own s x=false:=Bool.eq_false_iff.2 h;rw[J,X20,F.1 y,X11];constructor
 ·exact λq=>⟨.inl q.1,q.2⟩
 rintro⟨q|q,q2⟩
 ·exact⟨q,q2⟩
 rw[q,h] at q2;simp at q2
def rj {L:O Set}(h:Mod L){n:T}{a:O Int}{m:O T}(e:Exp L n a m):a.length<=4096:=by
 have key :∀(l:O Set),(∀s∈l,s.qv.length<=64)->(l.flatMap (·.qv)).length<=64*l.length:=by
  intro l;induction l with
  | nil=>intro _;simp
  | cons x t K=>intro F;have:=K λs H=>F s (X16 _ H);have:=F x (by simp);simp only[Xat,X2,X3];omega
 have P:=key L h.a;have Q:=h.n;have J:a.Nodup:=e.pa.imp λ{x y} h e=>by rw[e,MO] at h;simp at h
 have:=M3 J (m:=L.flatMap (·.qv)) λx F=>by obtain⟨s,H,_,M⟩:=(e.am x).1 F;exact Xc9.2 ⟨s,H,M⟩
 omega
def SU {r:zu}{h:Int}{n:T}{p:fI}{o:Int}(K :∀s∈r.tE,Qr s)(hn:n.size<=Xc7) :∃v,Bt r h n p o=some v:=by
 suffices hs:Ok (Bt r h n p o) λ_=>True by obtain⟨v,U,_⟩:=hs;exact⟨v,U⟩
 unfold Bt;rw[Ig K,AA];cases H:T8 r
 ·exact .ret trivial
 rw[Xa1 (by simp),AB];obtain⟨_,_,_,V⟩:=Tc.1 H;have key :∀v:O Int,Ok (Xx (HK v o) λY=>if (!Y)=true then some 17 else Xx (Ib r v) λZ=>Xx (C3 Z p o) λJ=>some J) λ_=>True:=by intro v;obtain⟨l,e1,_⟩:=Ro (r:=r) (s:=v) (by omega);rw[Sa,e1];simp only[AA,Px];cases (v.any λx=>o==x)<;>exact .ret trivial
 by_cases he:(!(n.toList==(Xe7 (Xe8 List.nil)).toList))=true
 ·rw[Xa2 he];obtain⟨M,P⟩:=nL H;obtain⟨⟨a,m,e⟩,g1,F⟩:=N4 (n:=n) M K H;rw[g1,AA];dsimp only;by_cases Q:(e !=0)=true
  ·rw[Xa2 Q];exact .ret trivial
  rw[Xa1 Q];have ha:a.length<=1000000:=by
   rcases F with ⟨_,F⟩|⟨_,_,_,F⟩
   ·simp only[X23] at F;rw[F.1];simp
   have:=rj M F;simp only at this;omega
  rw[AD (by decide) (by simp;omega),AA];exact key _
 rw[Xa1 he];exact key _
def RU {v n:Int}(K:1<=n/\n<=1000000000):Ok (Js v n) λr=>0<=r/\r<n:=by
 unfold Js;have M:=Int.tmod_lt_of_pos v (show 0<n by omega);have P:-n<Xes v n:=by have:=Int.lt_tmod_of_pos v (show 0<n by omega);exact this
 refine .bind (.Ch (by omega)) λ_ _=>.join (λr=>0<=r/\r<n) (λk H=>.ite (λF=>H _ ?_) λF=>H _ ?_) λr J=>.ret J
 ·simp only[Xy] at F;rw[AK (by omega)];omega
 simp only[Xy] at F;omega
def AN {d:tx}{n:Int}(J:Dk d)(K:1<=n/\n<=1000000000):Ok (AH d n) λr=>0<=r.1/\r.1<n/\Dk r.2:=by
 obtain⟨M,F⟩:=J;unfold AH;refine .ite (λ_=>.ret ⟨by simp only;omega,by simp only;omega,M,F⟩) λP=>?_;simp only[Xy] at P;have e1:AG (d.At+1)=d.At+1:=AK (by omega);have e2:AG (d.At+1-1)=d.At:=by rw[AK (by omega)];omega
 rw[e1,e2];exact .bind (.gN (by omega)) λv _=>.bind (RU K) λr H=>.ret ⟨H.1,H.2,by simp only;omega,F⟩
def NN {k:Int}(h:0<=k/\k<8):Ok (GE k) Blk:=by
 have:k=0\/k=1\/k=2\/k=3\/k=4\/k=5\/k=6\/k=7:=by omega
 rcases this with rfl|rfl|rfl|rfl|rfl|rfl|rfl|rfl
 ·exact⟨_,rfl,by kernel_rfl,.inl ⟨rfl,rfl⟩⟩
 ·exact⟨_,rfl,by kernel_rfl,.inl ⟨rfl,rfl⟩⟩
 ·exact⟨_,rfl,by kernel_rfl,.inl ⟨rfl,rfl⟩⟩
 ·exact⟨_,rfl,by kernel_rfl,.inl ⟨rfl,rfl⟩⟩
 ·exact⟨_,rfl,by kernel_rfl,.inl ⟨rfl,rfl⟩⟩
 ·exact⟨_,rfl,by kernel_rfl,.inl ⟨rfl,rfl⟩⟩
 ·exact⟨_,rfl,by kernel_rfl,.inr ⟨rfl,rfl⟩⟩
 exact⟨_,rfl,by kernel_rfl,.inr ⟨rfl,rfl⟩⟩
def Pz (o:ss):Prop:=Blk o.fI/\(o.Max=24/\o.fI.Addr.V6=false\/o.Max=64/\o.fI.Addr.V6=true)/\0<=o.tb/\o.tb<=301
structure MF (f:oX):Prop where
 own:f.DH=99
 Tr:f.Bb=[⟨⟨false,0,3221225984⟩,24⟩]
 mins:f.CT=8/\f.zi=24/\f.CR=19/\f.zh=64/\f.AJ=25/\f.B3=65
 Tw:2<=f.zX/\f.zX<=8
 priv:f.tv=[⟨64512,65534⟩]
 free:f.zq.length<=2/\∀x∈f.zq,1<=x/\x<=1000
 bog:f.wg.length<=1/\∀p∈f.wg,Blk p
 sets:f.zu.tE=[⟨wW,[101,102,103,104,105,201,202,203,301],[]⟩,⟨wX,[201],[]⟩]
 gM:f.zu.r9.length<=72/\∀o∈f.zu.r9,Pz o/\1<=o.tb
 Te:f.sI.length<=8/\∀o∈f.sI,Pz o
def Ui {d:tx}(F:Dk d):Ok (EB d) λr=>MF r.1/\Dk r.2:=by
 unfold EB;refine .bind (AN F (by omega)) ?_;rintro⟨a,d⟩ ⟨a1,a2,F⟩;simp only at a1 a2 F;refine .bind (.part ⟨by omega,by omega,by simp;omega⟩) λfr Y=>.bind (AN F (by omega)) ?_;rintro⟨b,d⟩ ⟨b1,b2,F⟩;simp only at F;refine .join (λx:tx×O fI=>Dk x.1/\x.2.length<=1/\∀p∈x.2,Blk p) (λk P=>.ite (λ_=>.bind (AN F (by omega)) ?_) λ_=>P _ ⟨F,by simp,by simp⟩) ?_
 ·rintro⟨c,d⟩ ⟨c1,c2,F⟩;exact .bind (NN ⟨c1,c2⟩) λp Z=>P _ ⟨F,by simp,by simpa using Z⟩
 rintro⟨d,bg⟩ ⟨F,a6,a7⟩;simp only at F a6 a7;refine .bind (AN F (by omega)) ?_;rintro⟨e,d⟩ ⟨_,_,F⟩;refine .join (λx:tx×Int=>Dk x.1/\2<=x.2/\x.2<=8) (λk P=>.ite (λ_=>.bind (AN F (by omega)) ?_) λ_=>P _ ⟨F,by simp,by simp⟩) ?_
 ·rintro⟨c,d⟩ ⟨c1,c2,F⟩;simp only at c1 c2;exact P _ ⟨F,by simp only;rw[AK (by omega)];omega,by simp only;rw[AK (by omega)];omega⟩
 rintro⟨d,Z⟩ ⟨F,ab,ae⟩;refine .bind (AN F (by omega)) ?_;rintro⟨op,d⟩ ⟨_,_,F⟩;refine .join (λx:tx×O ss×O ss=>Dk x.1/\(x.2.1.length<=72/\∀o∈x.2.1,Pz o/\1<=o.tb)/\x.2.2.length<=8/\∀o∈x.2.2,Pz o) (λk P=>?_) ?_
 ·refine .Dr (λs:Int×tx×O ss×O ss=>0<=s.1/\s.1<=8/\Dk s.2.1/\(s.2.2.1.length<=9*s.1.toNat/\∀o∈s.2.2.1,Pz o/\1<=o.tb)/\s.2.2.2.length<=s.1.toNat/\∀o∈s.2.2.2,Pz o) (λs=>(8-s.1).toNat)
   ⟨by simp,by simp,F,⟨by simp,by simp⟩,by simp,by simp⟩ (BE (by simp only;omega)) ?_
  rintro next ⟨i,d,os,Q⟩ ⟨i1,i2,F,⟨o1,o2⟩,r1,r2⟩ af
  simp only at i1 i2 F o1 o2 r1 r2;refine .ite (λhc=>?_) λ_=>P _ ⟨F,⟨by simp only;omega,o2⟩,by simp only;omega,r2⟩;simp only[Xy] at hc;refine .join (λx:tx×O ss×O ss=>Dk x.1/\(x.2.1.length<=9*i.toNat+9/\∀o∈x.2.1,Pz o/\1<=o.tb)/\x.2.2.length<=i.toNat+1/\∀o∈x.2.2,Pz o) (λk2 ag=>?_) ?_
  ·refine .bind (NN ⟨i1,hc⟩) λp Z=>?_;refine .join (λm:Int=>m=24/\p.Addr.V6=false\/m=64/\p.Addr.V6=true) (λk3 J=>.ite (λh=>J _ (.inr ⟨rfl,h⟩)) λh=>J _ (.inl ⟨rfl,by simpa using h⟩)) λm hm=>?_;refine .join (λx:tx×O ss=>Dk x.1/\x.2.length<=9*i.toNat+9/\∀o∈x.2,Pz o/\1<=o.tb) (λk3 J=>?_) ?_
   ·refine .forI (λj (x:tx×O ss)=>Dk x.1/\x.2.length<=9*i.toNat+j/\∀o∈x.2,Pz o/\1<=o.tb) ⟨F,by simpa using o1,o2⟩ (λx U=>J _ U) ?_;rintro ah n j ⟨d,os⟩ hj hn ⟨F,q1,q2⟩ a8;simp only at F q1 q2;have K:1<=n/\n<=301:=by simp only[Xa7,Xc3,Xez] at hn;omega
    refine .join (λx:I×tx=>Dk x.2) (λk4 H=>.ite (λ_=>H _ F) λ_=>.bind (AN F (by omega)) ?_) ?_
    ·rintro⟨y,d⟩ ⟨_,_,F⟩;exact H _ F
    rintro⟨c,d⟩ F;simp only at F;refine .join (λos:O ss=>os.length<=9*i.toNat+(j+1)/\∀o∈os,Pz o/\1<=o.tb) (λk4 H=>.ite (λ_=>.bind (.gO (by decide) (by simp at hj⊢;omega)) λw hw=>H _ ⟨by rw[hw];simp;omega,λo M=>?_⟩) λ_=>H _ ⟨by omega,q2⟩) λos aa=>a8 _ ⟨F,aa.1,aa.2⟩;simp only[hw,X20,X11] at M;rcases M with M|rfl
    ·exact q2 o M
    exact⟨⟨Z,hm,by simp only;omega,by simp only;omega⟩,K.1⟩
   rintro⟨d,os⟩ ⟨F,q1,q2⟩;simp only at F q1 q2;refine .bind (AN F (by omega)) ?_;rintro⟨y,d⟩ ⟨_,_,F⟩;simp only at F;refine .join (λx:tx×O ss=>Dk x.1/\x.2.length<=i.toNat+1/\∀o∈x.2,Pz o) (λk4 H=>.ite (λ_=>.bind (AN F (by omega)) ?_) λ_=>H _ ⟨F,by simp only;omega,r2⟩) ?_
   ·rintro⟨z,d⟩ ⟨z1,z2,F⟩;simp only at z1 z2 F;refine .bind (.gN (by simp;omega)) λn hn=>.bind (.gO (by decide) (by simp;omega)) λw hw=>H _ ⟨F,by rw[hw];simp;omega,λo M=>?_⟩;have K:0<=n/\n<=301:=by have:=hn.1;simp only[Xa7,Xc3,Xez] at this;omega
    simp only[hw,X20,X11] at M;rcases M with M|rfl
    ·exact r2 o M
    exact⟨Z,hm,K.1,K.2⟩
   rintro⟨d,Q⟩ ⟨F,s1,V⟩;exact ag _ ⟨F,⟨q1,q2⟩,s1,V⟩
  rintro⟨d,os,Q⟩ ⟨F,⟨q1,q2⟩,s1,V⟩;simp only at F q1 q2 s1 V;rw[AK (by omega)];exact af _ ⟨by simp only;omega,by simp only;omega,F,⟨by simp only;omega,q2⟩,by simp only;omega,V⟩ (by simp only;omega)
 rintro⟨d,os,Q⟩ ⟨F,⟨q1,q2⟩,s1,V⟩;refine .ret ⟨⟨rfl,rfl,⟨rfl,rfl,rfl,rfl,rfl,rfl⟩,⟨ab,ae⟩,rfl,?_,⟨a6,a7⟩,rfl,⟨q1,q2⟩,⟨s1,V⟩⟩,F⟩;have ai :∀x∈fr,x∈([701,202]:O Int):=λx U=>by rw[Y.1] at U;exact List.drop_subset _ _ (Xdr U)
 refine⟨by have:=Y.2;simp only;omega,λx U=>?_⟩;have:=ai x U;simp only[Xa7,Xc3,Xez] at this;omega
instance (n:Int) (b:I):Tt (Eh n b):=by unfold Eh;exact Tt.Bx
def fB {n:Int}(h:101<=n/\n<=105)(b:I):Ok (Eh n b) λa=>a.ok=true:=by
 have:n=101\/n=102\/n=103\/n=104\/n=105:=by omega
 rcases this with rfl|rfl|rfl|rfl|rfl<;>cases b<;>exact⟨_,rfl,by show Addr.ok _=true;kernel_rfl⟩
def hM {p:fI}(h:Am p=some true):Ci p:=by obtain⟨b,F,H⟩:=Gn p;rw[h] at F;exact H.1 (X22 F).symm
def Bk (p:fI):Prop:=Blk p/\Am ⟨p.Addr,cond p.Addr.V6 64 24⟩=some true/\∀j:Int,0<=j->j<3->Am ⟨{ p.Addr with Lo:=(AZ ((p.Addr.Lo.toNat:Int)+((AZ j).toNat:Int))) },cond p.Addr.V6 128 32⟩=some true
def pC {k:Int}(h:0<=k/\k<8):Ok (GE k) Bk:=by
 have F :∀{Q:Int->Prop},Q 0->Q 1->Q 2->∀j:Int,0<=j->j<3->Q j:=by
  intro Q H J K j M P;have:j=0\/j=1\/j=2:=by omega
  rcases this with rfl|rfl|rfl
  ·exact H
  ·exact J
  exact K
 have:k=0\/k=1\/k=2\/k=3\/k=4\/k=5\/k=6\/k=7:=by omega
 rcases this with rfl|rfl|rfl|rfl|rfl|rfl|rfl|rfl
 ·exact⟨_,rfl,⟨by kernel_rfl,.inl ⟨rfl,rfl⟩⟩,by kernel_rfl,F (by kernel_rfl) (by kernel_rfl) (by kernel_rfl)⟩
 ·exact⟨_,rfl,⟨by kernel_rfl,.inl ⟨rfl,rfl⟩⟩,by kernel_rfl,F (by kernel_rfl) (by kernel_rfl) (by kernel_rfl)⟩
 ·exact⟨_,rfl,⟨by kernel_rfl,.inl ⟨rfl,rfl⟩⟩,by kernel_rfl,F (by kernel_rfl) (by kernel_rfl) (by kernel_rfl)⟩
 ·exact⟨_,rfl,⟨by kernel_rfl,.inl ⟨rfl,rfl⟩⟩,by kernel_rfl,F (by kernel_rfl) (by kernel_rfl) (by kernel_rfl)⟩
 ·exact⟨_,rfl,⟨by kernel_rfl,.inl ⟨rfl,rfl⟩⟩,by kernel_rfl,F (by kernel_rfl) (by kernel_rfl) (by kernel_rfl)⟩
 ·exact⟨_,rfl,⟨by kernel_rfl,.inl ⟨rfl,rfl⟩⟩,by kernel_rfl,F (by kernel_rfl) (by kernel_rfl) (by kernel_rfl)⟩
 ·exact⟨_,rfl,⟨by kernel_rfl,.inr ⟨rfl,rfl⟩⟩,by kernel_rfl,F (by kernel_rfl) (by kernel_rfl) (by kernel_rfl)⟩
 exact⟨_,rfl,⟨by kernel_rfl,.inr ⟨rfl,rfl⟩⟩,by kernel_rfl,F (by kernel_rfl) (by kernel_rfl) (by kernel_rfl)⟩
def Ij {d:tx}(F:Dk d):Ok (B6 d) λr=>Ci r.1/\Dk r.2:=by unfold B6;refine .bind (AN F (by omega)) ?_;rintro⟨a,d⟩ ⟨a1,P,F⟩;dsimp only at a1 P F⊢;refine .bind (pC ⟨a1,P⟩) λp K=>.bind (AN F (by omega)) ?_;rintro⟨b,d⟩ ⟨b1,b2,F⟩;dsimp only at b1 b2 F⊢;refine .join (λx:tx×fI=>Dk x.1/\Ci x.2) (λk Q=>.ite (λ_=>.join (λv=>v=cond p.Addr.V6 64 24) (λY H=>.ite (λh=>H _ (by rw[h];rfl)) λh=>H _ (by rw[Bool.not_eq_true] at h;rw[h];rfl)) λv M=>Q _ ⟨F,by rw[M];exact hM K.2.1⟩) λ_=>?_) λ⟨d,p⟩ F=>.ret ⟨F.2,F.1⟩;refine .join (λx:tx×fI=>Dk x.1/\Ci x.2) (λY H=>.ite (λ_=>.join (λv=>v=cond p.Addr.V6 128 32) (λZ J=>.ite (λh=>J _ (by rw[h];rfl)) λh=>J _ (by rw[Bool.not_eq_true] at h;rw[h];rfl)) λv M=>.bind (AN F (by omega)) ?_) λ_=>H _ ⟨F,K.1.T4⟩) λ⟨d,p⟩ F=>Q _ F;rintro⟨c,d⟩ ⟨U,V,F⟩;dsimp only at U V;exact H _ ⟨F,by dsimp only;rw[M];exact hM (K.2.2 c U V)⟩
def uj {p:O r8}{n:Nat}(h :∀s∈p,s.qv.length<=n):DP p<=n*p.length:=by
 induction p with
 | nil=>exact Xef _
 | cons s t F=>have:=h s (by simp);have:=F λx H=>h x (X16 _ H);rw[CH,X3,Nat.mul_succ];omega
structure Mo (a:gH):Prop where
 p:a.Path.length<=1000000
 t:DP a.Path<=1000000
 c:a.fT.length<=1000000
 l:a.iX.length<=1000000
 o:a.oE.length<=1000000
 d :∀u∈a.oE,u.Data.length<=1000000
def Mo.smt {a:gH}(h:Mo a):Ps a:=by have H:=h.p;have J:=h.t;have K:=h.c;have M:=h.l;have P:=h.o;exact⟨by omega,by omega,by omega,by omega,by omega,λu F=>by have:=h.d u F;omega⟩
def Mj.sms {a:gH}(h:Mj 1000 a):Mo a:=by have H:=uj h.s;have J:=h.p;have K:=h.c;have M:=h.l;have P:=h.o;exact⟨by omega,by omega,by omega,by omega,by omega,λu F=>by have:=h.d u F;omega⟩
def qh {p:O r8}(h :∀s∈p,Jz s=true):p.length<=DP p:=by
 induction p with
 | nil=>exact Xef _
 | cons s t H=>have F:=h s (by simp);have K:=H λx J=>h x (X16 _ J);unfold Jz at F;rw[X24,Xy] at F;have:=F.1;rw[CH,X3];omega
def Mo.of {a:gH}(h:Fb a=true):Mo a:=by unfold Fb at h;simp only[X24,Xy] at h;obtain⟨H,_,F,_,_,_,_,J,K,P⟩:=h;unfold C5 at F;rw[X24,X24,Xa6,Xy] at F;have Q:=qh F.1.1;have U:=F.2;have V:=(GB.1 J).2.2;have Y:=(F7.1 K).2.2;unfold Ek at H;rw[X24,Xa6] at H;refine⟨by omega,by omega,by omega,by omega,by omega,λu M=>?_⟩;have:=H.1 u M;unfold okO at this;simp only[X24,Xy] at this;omega
def orJ {α ρ:Type}{l:O α}{q:α->I}(g:α->(I->C ρ)->C ρ){K:I->C ρ}(hg :∀x∈l,∀k,g x k=k (q x))(b:I) : AC (τ:=I) (λV=>AL (σ:=I) (λJ=>V J) (λF M _ J=>AC (τ:=I) (λP=>if J=true then P true else g M P) λH=>F H) l 0 b) K=K (b || l.any q):=by
 simp only[AB];have key :∀(l:O α) (i:Nat) (b:I),(∀x∈l,∀k,g x k=k (q x))->AL (σ:=I) (λJ=>K J) (λF M _ J=>if J=true then F true else g M λH=>F H) l i b=K (b || l.any q):=by
  intro l;induction l with
  | nil=>intro i b _;rw[List.any_nil,Bool.or_false];rfl
  | cons x t Q=>intro i b h;show (if b=true then AL _ _ t (i+1) true else g x (λH=>AL _ _ t (i+1) H))=_;have U :∀y∈t,∀k,g y k=k (q y):=λy Y=>h y (X16 _ Y);rw[h x (by simp),Q (i+1) true U,Q (i+1) (q x) U,Xd9];cases b<;>rfl
 exact key l 0 b hg
def ZI {α σ ρ:Type}{K:σ->C ρ}{body:(σ->C ρ)->α->Nat->σ->C ρ}(st:σ->α->σ)(I:Nat->σ->Prop) (F :∀n s x,I (n+1) s->I n (st s x)) :∀(l:O α) (i:Nat) (s:σ),(∀next x j s n,x∈l->I (n+1) s->body next x j s=next (st s x))->I l.length s->AL K body l i s=K (l.foldl st s)
 | [],_,_,_,_=>rfl
 | x::t,i,s,H,h=>by show body (λJ=>AL K body t (i+1) J) x i s=_;rw[H _ x i s t.length (by simp) h];exact ZI st I F t (i+1) (st s x) (λnext y j s n M=>H next y j s n (X16 _ M)) (F _ _ _ h)
def ad (b:I)(n:Int):O Int:=cond b [n] []
def QY {ρ:Type}{b:I}{n:Int}{v:O Int}{K:O Int->C ρ}(J:v.length<=1000) : AC (τ:=O Int) (λF=>if b=true then Xx (gO (α:=Int) 8 v ([n]:O Int)) λH=>F H else F v) K=K (v++ad b n):=by
 rw[AB];cases b
 ·rw[Xa1 (by simp)];show _=K (v++[]);rw[Xb1]
 rw[Xa2 rfl,AD (by decide) (by simp;omega),AA];rfl
def uw (b:I)(n:Int):(ad b n).length<=1:=by cases b<;>simp[ad]
def JG (p:O r8):O Int:=p.flatMap (·.qv)
def aG (p:O r8):(JG p).length=DP p:=by
 induction p with
 | nil=>rfl
 | cons s t F=>rw[CH,<- F];simp[JG]
def tQ {ρ:Type}{K:O Int->C ρ} :∀(p:O r8) (i:Nat) (acc:O Int),acc.length+DP p<=1000000000-> AL (σ:=O Int) (λv2=>K v2) (λF (J:r8) _ v2=>Xx (gO (α:=Int) 8 v2 J.qv) λH=>F H) p i acc=K (acc++JG p)
 | [],_,acc,_=>by show K acc=K (acc++[]);rw[Xb1]
 | s::t,i,acc,h=>by rw[CH] at h;show Xx (gO (α:=Int) 8 acc s.qv) (λH=>AL _ _ t (i+1) H)=_;rw[AD (by decide) (by omega),AA,tQ t (i+1) _ (by rw[X2];omega)];show K _=K (acc++(s.qv++JG t));rw[Xb9]
def F3 {p:O r8}(h:DP p<=1000000000):DZ p=some (JG p):=by unfold DZ;rw[AB];exact tQ p 0 [] (by simpa using h)
def ZM {p:O r8}(h:C5 p=true){s:r8}(F:s∈p):s.qv≠[]:=by unfold C5 at h;rw[X24,X24,Xa6] at h;have:=h.1.1 s F;unfold Jz at this;rw[X24,Xy] at this;intro e;rw[e] at this;exact this.1 rfl
def TA:O r8->Int×I
 | []=>(0,false)
 | s::t=>if (C5 (s::t)&&!s.Set)=true then (s.qv.headD 0,true) else (0,false)
def ZE (s:r8)(t:O r8):TA (s::t)=if (C5 (s::t)&&!s.Set)=true then (s.qv.headD 0,true) else (0,false):=rfl
def Jh {α:Type}(x:α)(t:O α):gN (x::t) 0=some x:=F5 [] x t
def lx {l:O Int}(h:l≠[]):gN l 0=some (l.headD 0):=by
 cases l with
 | nil=>exact absurd rfl h
 | cons x t=>exact Jh x t
def UN {p:O r8}(K:p.length<=1000000000)(M:DP p<=1000000000):Hw p=some (TA p):=by
 unfold Hw;rw[Gq (by omega) (by omega),AB,AA];cases p with
 | nil=>cases C5 []<;>rfl
 | cons s t=>
  rw[Jh,AA,AA];rw[ZE];have F:((((s::t).length:Nat):Int)==0)=false:=by rw[X3];simp only[Xf4,ne_eq];omega
  rw[F];cases H:C5 (s::t)
  ·rfl
  have hg:=lx (ZM H (Xde ..));cases P:s.Set
  ·show (Xx (gN s.qv 0) λJ=>some (J,true))=_;rw[hg,AA];rfl
  rfl
def Zz (l:O Int):Int:=l.getLastD 0
def MZ (p:O r8):Int×I:=
 match p.getLast? with
 | none=>(0,false)
 | some s=>if (C5 p&&!s.Set)=true then (Zz s.qv,true) else (0,false)
def Zc {α:Type}{l:O α}{x:α}(h:l.getLast?=some x)(H:l.length<=1000000000):gN l (AG ((l.length:Int)-1))=some x:=by
 have F:l≠[]:=by intro e;rw[e] at h;simp at h
 have J:0<l.length:=Xbi.2 F;rw[AK (by omega),show (l.length:Int)-1=((l.length-1:Nat):Int) by omega,Ae (by omega)];rw[List.getLast?_eq_getElem?,X12 (by omega)] at h;exact h
def jF {l:O Int}(h:l≠[]):l.getLast?=some (Zz l):=by unfold Zz;rw[List.getLastD_eq_getLast?,List.getLast?_eq_some_getLast h];rfl
def aC {α:Type}(l:O α):(((l.length:Nat):Int)==0)=l.isEmpty:=by
 cases l with
 | nil=>rfl
 | cons x t=>show _=false;rw[X3];simp only[Xf4,ne_eq];omega
def o9 {α:Type}{l:O α}{x:α}(h:l.getLast?=some x):x∈l:=by rw[List.getLast?_eq_some_iff] at h;obtain⟨ys,rfl⟩:=h;simp
def jx {p:O r8}{s:r8}(h:p.getLast?=some s)(F:s.qv≠[]):(JG p).getLast?=some (Zz s.qv):=by
 rw[List.getLast?_eq_some_iff] at h;obtain⟨ys,rfl⟩:=h;show (List.flatMap _ _).getLast?=_;rw[List.flatMap_append,List.getLast?_append];have:(List.flatMap (λx:r8=>x.qv) [s])=s.qv:=by simp
 rw[this,jF F];rfl
def Rq {p:O r8}(K:p.length<=1000000000)(M:DP p<=1000000000):Gz p=some (MZ p):=by
 unfold Gz MZ;rw[Gq (by omega) (by omega),AB,AA,aC];cases F:p.getLast? with
 | none=>have:p=[]:=List.getLast?_eq_none_iff.1 F;subst this;cases C5 []<;>rfl
 | some s=>
  show _=some (if (C5 p&&!s.Set)=true then (Zz s.qv,true) else (0,false));have H:=o9 F;have P:p.isEmpty=false:=by cases p with
   | nil=>cases H
   | cons _ _=>rfl
  rw[P,Zc F K,AA];cases Q:C5 p
  ·rfl
  have hg:=jx F (ZM Q H);cases V:s.Set
  ·show (Xx (DZ p) λJ=>Xx (gN J (AG ((J.length:Int)-1))) λU=>some (U,true))=_;rw[F3 M,AA,Zc hg (by rw[aG];omega),AA];rfl
  rfl
def ZQ (p:O r8) :∃v,Bm p=some v:=by
 have h:Ok (Bm p) λ_=>True:=by unfold Bm;refine .join (λ_=>True) (λk H=>.for_ (λs=>H s trivial) λnext x i s _ _ J=>?_) λ_ _=>.ret trivial;exact .join (λ_=>True) (λK F=>.ite (λ_=>F _ trivial) λ_=>F _ trivial) λv _=>J v
 obtain⟨v,e,_⟩:=h;exact⟨v,e⟩
def Za (p:O r8):Int:=(Bm p).getD 0
def Dh (p:O r8):Bm p=some (Za p):=by obtain⟨v,h⟩:=ZQ p;unfold Za;rw[h];rfl
def UY {α:Type}{l:O α}{e:α->α->I}(h :∀a b,e a b=e b a)(x:α):(l.any λy=>e x y)=l.any λy=>e y x:=by congr 1;funext y;exact h x y
def YL (a b:Int):(a==b)=(b==a):=Bool.beq_comm
def kX (a b:Addr):Addr.zn a b=Addr.zn b a:=by rw[X25,Addr.zb,Addr.zb];exact⟨Eq.symm,Eq.symm⟩
def Xd {p:O r8}(F:DP p<=1000000000)(n:Int):Gh p n=some ((JG p).any λx=>n==x):=by unfold Gh;rw[F3 F,AA,AB,UY YL];exact sr (e:=λx y:Int=>x==y) (JG p) 0
def Ot (l:O Int)(n:Int):GZ l n=some (l.any λx=>n==x):=by unfold GZ;rw[AB,UY YL];exact sr (e:=λx y:Int=>x==y) l 0
def G9 (a:gH):I:=a.fT.any λy=>oF.zn y ⟨65535,666⟩
def NT (a:gH):EO a=some (G9 a):=by unfold EO;rw[Wn,AA];rfl
def wd (o:ss):ss:={ o with Max:=cond o.fI.Addr.V6 128 32 }
def QI (b:I):Dq b=some (cond b 128 32):=by unfold Dq;cases b<;>rfl
def LC {l:O ss}(M:l.length<=1000000):EJ l=some (l.map wd):=by
 unfold EJ;rw[AB];have h:=ZI (K:=λv2:O ss=>some v2) (body:=λH (J:ss) (_:Nat) v2=>Xx (Dq J.fI.Addr.V6) λP=>Xx (gO (α:=ss) 48 v2 ([{ J with Max:=P }]:O ss)) λQ=>H Q)
  (λv x=>v++[wd x]) (λn v=>v.length+n<=1000000) (λn s x h=>by simp;omega) l 0 []
  (λnext x j s n _ h=>by
   show Xx (Dq x.fI.Addr.V6) _=_
   rw[QI,AA,AD (by decide) (by simp;omega),AA];rfl)
  (by simpa using M)
 refine h.trans ?_;have key :∀(l F:O ss),l.foldl (λv x=>v++[wd x]) F=F++l.map wd:=by
  intro l;induction l with
  | nil=>intro F;simp
  | cons x t U=>intro F;rw[Xaj,U];simp
 rw[key,Xah]
def mU (n:Int)(a:gH):I:=CS n&&(a.zy !=-1)
def P7 {n:Int}{a:gH}:Ok (Fz 1 n a) λr=>(r.2==30)=mU n a:=by
 unfold Fz mU;have J:Gk 1 n=some (!CS n):=by
  unfold Gk CS;rw[show Ej 1=some 2 from rfl,AB,AA,Xa1 (by decide)];by_cases h1:n<1
  ·rw[Xa2 (by simpa using h1),Xa9 (p:=1<=n) (by omega)];rfl
  rw[Xa1 (by simpa using h1),Xa4 (p:=1<=n) (by omega)];by_cases F:n>4294967295
  ·rw[Xa4 F,Xa9 (p:=n<=4294967295) (by omega)];rfl
  rw[Xa9 F,Xa4 (p:=n<=4294967295) (by omega)];rfl
 rw[J,AA];simp only[AB];cases CS n
 ·exact .ret rfl
 rw[Xa1 (by simp),Xa1 (by decide),show (cond false true ((1:Int)==2))=false from rfl];cases H:(a.zy !=-1)
 ·rw[Xa1 (by simp),Xa1 (by simp)];have:(a.zy==-1)=true:=by rw[bne] at H;simpa using H
  rw[this,Xa2 rfl,Xa1 (by simp),show (cond true (cond false true ((1:Int)==4)) false)=false from rfl,Xa1 (by simp)];exact .ret rfl
 rw[Xa2 rfl,Xa2 (by rfl),Xa2 (by decide),Xa2 trivial];exact .ret rfl
def stS (p:fI)(n:Int)(s:Int×O ss)(o:ss):Int×O ss:=
 cond (Nd o.fI p) (cond (o.tb==n&&(n !=0&&decide (o.Max≥p.zk))) 1 (cond (s.1==0) 2 s.1),s.2++[o]) s
def stE (l:O ss)(p:fI)(n:Int):Int:=(l.foldl (stS p n) (0,[])).1
def sT (p:fI)(n:Int)(s:Int×O ss)(o:ss):(stS p n s o).2.length<=s.2.length+1:=by
 unfold stS;cases Nd o.fI p
 ·exact Nat.le_succ _
 show (s.2++[o]).length<=_;simp
def TF {l:O ss}{p:fI}{n:Int}(F:l.length<=1000000)(H:p.Addr.ok=true):Hm l p n=some (l.foldl (stS p n) (0,[])):=by
 unfold Hm;simp only[AB];refine ZI (K:=λs:Int×O ss=>some (s.1,s.2)) (stS p n) (λk s=>s.2.length+k<=1000000) (λk s x h=>by have:=sT p n s x;omega) l 0 (0,[]) (λnext x j s k _ h=>?_) (by simpa using F);obtain⟨a,b⟩:=s;dsimp only at h⊢;rw[EZ H,AA];unfold stS;cases Nd x.fI p
 ·rfl
 rw[Xa1 (by simp),AD (by decide) (by simp;omega),AA];dsimp only;simp only[Xe1];cases (x.tb==n)
 ·cases (a==0)<;>rfl
 cases (n !=0)
 ·cases (a==0)<;>rfl
 cases decide (x.Max≥p.zk)
 ·cases (a==0)<;>rfl
 cases (a==0)<;>rfl
def pj (r:zu)(h:Int)(n:T)(p:fI)(o:Int):Int:=(Bt r h n p o).getD 1
def mN {r:zu}{h:Int}{n:T}{p:fI}{o:Int}(F :∀s∈r.tE,Qr s)(H:n.size<=Xc7) : True/\Bt r h n p o=some (pj r h n p o):=by obtain⟨v,J⟩:=SU (h:=h) (p:=p) (o:=o) F H;unfold pj;rw[J];exact⟨trivial,rfl⟩
end Go.AX.Q33
end
section
namespace Go.AX.Q33
open Go Go.AX
structure FOk (f:oX):Prop where
 s :∀s∈f.zu.tE,Qr s
 o:f.zu.r9.length<=1000000
 r:f.sI.length<=1000000
 l :∀x∈f.Bb,x.Addr.ok=true
def wdI (b:I)(l:O ss):O ss:=cond b (l.map wd) l
def s8 (b:I)(l:O ss):(wdI b l).length=l.length:=by cases b<;>simp[wdI]
def rx (p:O r8):Int:=cond (MZ p).2 (MZ p).1 (-1)
def xZ (f:oX)(h:I):zu:=⟨f.zu.tE,wdI h f.zu.r9⟩
def b1 (p:th)(r:mu):I:=!(TA r.gH.Path).2 || ((TA r.gH.Path).1 !=p.tb)
def b2 (p:th)(r:mu):I:=!(p.zd.any λx=>Addr.zn r.gH.Next x)
def b3 (f:oX)(r:mu):I:=decide (Za r.gH.Path>f.zX)
def Pw (f:oX)(r:mu):I:=(JG r.gH.Path).any λx=>f.DH==x
def b5 (r:mu):I:=r.gH.Path.any λs=>s.Set
def pv (f:oX)(n:Int):I:=f.tv.any λs=>decide (s.zQ<=n)&&decide (n<=s.To)
def b6 (f:oX)(r:mu):I:=(JG r.gH.Path).any (pv f)
def inL (l:O Int)(n:Int):I:=l.any λx=>n==x
def fr (f:oX)(p:th)(n:Int):I:=(n !=p.tb)&&inL f.zq n
def b7 (f:oX)(p:th)(r:mu):I:=!(inL f.zq p.tb)&&(JG r.gH.Path).any (fr f p)
def b8 (p:th)(r:mu):I:=mU p.tb r.gH
def b9 (f:oX)(r:mu):I:=f.Bb.any λx=>Nd x r.fI || Nd r.fI x
def nm (f:oX)(r:mu):I:=f.wg.any λx=>Nd x r.fI
def b11 (f:oX)(r:mu)(h:I):I:=
 cond h (decide (r.fI.zk<cond r.fI.Addr.V6 f.B3 f.AJ)) (!(decide (cond r.fI.Addr.V6 f.CR f.CT<=r.fI.zk)&&decide (r.fI.zk<=cond r.fI.Addr.V6 f.zh f.zi)))
def b12 (f:oX)(p:th)(r:mu)(h:I):I:=pj (xZ f h) p.tb p.Set r.fI (rx r.gH.Path) !=0
def b13 (f:oX)(r:mu)(h:I):I:=stE (wdI h f.sI) r.fI (rx r.gH.Path)==2
def N2 (f:oX)(p:th)(r:mu):O (Int×I):=
 [(2,b1 p r),(3,b2 p r),(4,b3 f r),(5,Pw f r),(6,b5 r),(7,b6 f r),(8,b7 f p r),(9,b8 p r),(10,b9 f r),(11,nm f r),(12,b11 f r (G9 r.gH)),(13,b12 f p r (G9 r.gH)),(14,b13 f r (G9 r.gH))]
def fs:O (Int×I)->O Int
 | []=>[]
 | (k,b)::t=>ad b k++fs t
def NF (r:mu):I:=Da r.fI&&(Fb r.gH&&((r.gH.o3 !=-1)&&(!(r.gH.Path.isEmpty)&&(!(Addr.zn r.gH.Next ⟨false,0,0⟩)&&(r.gH.Next.V6==r.fI.Addr.V6)))))
def S4 (f:oX)(p:th)(r:mu):O Int:=cond (NF r) (fs (N2 f p r)) [1]
def pD {r:mu}(h:NF r=true):Mo r.gH:=by unfold NF at h;rw[X24,X24] at h;exact Mo.of h.2.1
def uu {r:mu}(h:Ps r.gH):Jl r=some (!NF r):=by
 unfold Jl NF;rw[DR,AB,AA,MI h,AA,aC];have e:(r.gH.o3==-1)=!(r.gH.o3 !=-1):=by rw[bne,Bool.not_not]
 rw[e];generalize (r.gH.Path.isEmpty)=c;generalize (r.gH.o3 !=-1)=d;generalize (Addr.zn r.gH.Next ⟨false,0,0⟩)=g;generalize (r.gH.Next.V6==r.fI.Addr.V6)=q;cases Da r.fI
 ·rfl
 cases Fb r.gH
 ·rfl
 cases d
 ·rfl
 cases c
 ·cases g<;>cases q<;>rfl
 rfl
section
end
end Go.AX.Q33
end
section
namespace Go.AX.Q33
open Go Go.AX
def Rc (f:oX)(p:th)(r:mu):Int:=(S4 f p r).headD 0
end Go.AX.Q33
end
