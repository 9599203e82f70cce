/-
  Texts of one proof, packed.
-/
import Derived.Test.YthbbpeeghmpcfaaGreatDoorR10
import Derived.Test.YthbbpeeghmpcfaaGreatDoorR13
import Derived.Test.YthbbpeeghmpcfaaGreatDoorR14
import Derived.KernelRfl
import Derived.Test.YthbbpeeghmpcfaaGreatDoorProg
set_option linter.all false
set_option maxRecDepth 100000
set_option maxHeartbeats 4000000
open List renaming length_map→X1,length_append→X2,length_drop→X14,length_take→X15,length_replicate→X17,length_set→X18,mem_append→X20
open Nat renaming le_of_ble_eq_true→X26
open Option renaming bind→Xx
open Go renaming Program→Xdn,FuncId→Xdy
open Nat renaming blt→Xcu,ble→Xeo
open ByteArray renaming empty→Xbe
open Go.Proofs.Tryz renaming prog→Xcc
open Go.IntKind renaming i64→Xda
section
namespace Go.AX
def wk {np:Nat}{s H:wD}(par:((List.range np).all λr=>!(s.ob.getD r none).isSome || (H.ob.getD r none).isSome)=true:=by rfl)
  (tm:T3 s H s.tm H.tm:=by
   repeat' (first
    | exact CF.refl _
    | refine And.intro ?_ ?_
    | exact True.intro
    | exact CF.norm _
    | exact CF.fresh _ _ _ rfl rfl
    | exact CF.Cg _ _ _ _ _ _ rfl (by first|rfl|(simp only[X1];omega)) (.inl rfl)
    | exact CF.Cg _ _ _ _ _ _ rfl (by first|rfl|(simp only[X1];omega)) (.inr rfl)
    | exact CF.ownL _ _ _ (by first|rfl|(simp only[X1];omega)|(simp only[Qt,X1,X2,X15,X14];omega))
    | exact CF.Fc _ _ _ _ _ (by first|rfl|(simp only[X1];omega))
    | exact CF.oslD _ _ _ _ _ _ _ _ _ rfl (by first|rfl|(simp only[X1];omega)) nb (.inl rfl)
    | exact CF.oslD _ _ _ _ _ _ _ _ _ rfl (by first|rfl|(simp only[X1];omega)) nb (.inr rfl)
    | refine CF.tupL ?_
    | refine CF.Wd rfl ?_
    | refine CF.aggL rfl ?_
    | refine CF.PI ?_
    | refine CF.box _ _ _ _ rfl rfl rfl (Nat.zero_lt_succ _) ?_
    | exact rfl))
  (ob:Ng s H s.ob H.ob:=by
   repeat' (first
    | exact CF.refl _
    | refine And.intro ?_ ?_
    | exact rfl
    | exact True.intro
    | refine Exists.intro _ (And.intro rfl ?_)
    | exact .inl ⟨_,rfl,id,True.intro⟩
    | exact .inl ⟨_,rfl,λ_=>rfl,True.intro⟩
    | exact .inl ⟨_,rfl,id,.inr ⟨_,_,rfl,rfl,(by first|rfl|(simp only[X1];omega))⟩⟩
    | exact .inl ⟨_,rfl,id,.inl (X26 rfl)⟩
    | exact .inl ⟨_,rfl,id,.inl (Nat.le_of_eq (by assumption))⟩
    | exact .inr ⟨rfl,rfl,by decide⟩
    | exact .inl rfl
    | exact .inr ⟨_,_,_,rfl⟩
    | exact .inl ⟨_,rfl,(by first|rfl|(simp only[X1];omega))⟩
    | exact CF.norm _
    | exact CF.fresh _ _ _ rfl rfl
    | exact CF.Cg _ _ _ _ _ _ rfl (by first|rfl|(simp only[X1];omega)) (.inl rfl)
    | exact CF.Cg _ _ _ _ _ _ rfl (by first|rfl|(simp only[X1];omega)) (.inr rfl)
    | exact CF.ownL _ _ _ (by first|rfl|(simp only[X1];omega)|(simp only[Qt,X1,X2,X15,X14];omega))
    | refine CF.tupL ?_
    | refine CF.Wd rfl ?_
    | refine CF.aggL rfl ?_
    | refine CF.PI ?_
    | refine CF.box _ _ _ _ rfl rfl rfl (Nat.zero_lt_succ _) ?_))
  (closed:PC H=true:=by rfl):zU np s H:=.mk par tm ob closed
def pK {α:Type}{b:Nat}{r:O α}(h:Xx (gO (α:=α) b [] []) (λv=>some v)=some r):(some []:Option (O α))=some r:=by simpa[gO] using h
section
variable {α τ ρ:Type} {r:ρ} {np:Nat} {t:wD} {St:τ->wD} {k':τ->Option ρ} {v v':τ} {b:I} {X:Option ρ} {A:Prop} {F:Option α} {k:α->Option ρ}
def CI (h:k' v=some r)(H:zU np t (St v):=by exact wk) :∃s,zU np t s/\∃v,k' v=some r/\s=St v:=Fh H h
def HY (h:(if b=true then X else k' v)=some r)(a:X=some r->A)(H:zU np t (St v):=by exact wk):JC b A (∃s,zU np t s/\∃v,k' v=some r/\s=St v):=Pg a (λh=>Fh H h) h
def VG (h:(if b=true then k' v else X)=some r)(a:X=some r->A)(H:zU np t (St v):=by exact wk):JC b (∃s,zU np t s/\∃v,k' v=some r/\s=St v) A:=Pg (λh=>Fh H h) a h
def selC {H:Type}{P:wD}{J:H->wD}{Q:H->Option ρ}{v2:H}(h:(if b=true then k' v else Q v2)=some r)(U:zU np t (St v):=by exact wk)(K:zU np P (J v2):=by exact wk):JC b (∃s,zU np t s/\∃v,k' v=some r/\s=St v) (∃s,zU np P s/\∃v,Q v=some r/\s=J v):=
 Pg (λh=>Fh U h) (λh=>Fh K h) h
def CY {B:Prop}{Y:Option ρ}(h:(if b=true then X else Y)=some r)(H:X=some r->A)(J:Y=some r->B):JC b A B:=Pg H J h
def Al {X:(wD->Prop)->Prop}{K:wD->Prop}(h:X K):HR np X K:=.go h
def Ag {X:(wD->Prop)->Prop}{K:wD->Prop}{m:(τ->Option ρ)->Option ρ}{k:τ->Option ρ}(h:AC m k=some r)(St:τ->wD) (H :∀k':τ->Option ρ,m k'=some r->X (λt=>∃s,zU np t s/\∃v,k' v=some r/\s=St v)) (J :∀v,k v=some r->K (St v)):HR np X K:=ZS St H J h
variable {C:AV->O OB->Prop} {M:AV->O OB->Option (O Nat)->Prop} {M2:AV->O OB->Prop} {c:α->AV} {o:α->O OB}
def Bv (h:Xx F k=some r)(j :∀v,F=some v->C (c v) (o v))(n :∀v,k v=some r->M (c v) (o v) (some [])) :∃H gM b,C H gM/\M H gM b:=by obtain⟨v,g,h⟩:=AM h;exact⟨_,_,_,j v g,n v h⟩
def RJ (l:O Nat)(h:Xx F k=some r)(j :∀v,F=some v->C (c v) (o v))(n :∀v,k v=some r->M (c v) (o v) (some l)) :∃H gM b,C H gM/\M H gM b:=by obtain⟨v,g,h⟩:=AM h;exact⟨_,_,_,j v g,n v h⟩
def lu (h:Xx F k=some r)(j :∀v,F=some v->C (c v) (o v))(n :∀v,k v=some r->M (c v) (o v) none) :∃H gM b,C H gM/\M H gM b:=by obtain⟨v,g,h⟩:=AM h;exact⟨_,_,_,j v g,n v h⟩
def NK {L:Nat}{N:Prop}(h:Xx F k=some r)(j :∀v,F=some v->C (c v) (o v))(e :∀v,(o v).length=L)(n :∀v,k v=some r->M2 (c v) (o v)) :∃H gM,C H gM/\(gM.length=L\/N)/\M2 H gM:=by obtain⟨v,g,h⟩:=AM h;exact⟨_,_,j v g,.inl (e v),n v h⟩
def Z8 {L:O OB->Prop}{ob:O (Option OB)}{self:Nat}(h:Xx F k=some r)(j :∀v,F=some v->C (c v) (o v))(e:ob[self]?=some none)(n :∀v,k v=some r->M2 (c v) (o v)) :∃H gM,C H gM/\(L gM\/ob[self]?=some none)/\M2 H gM:=by obtain⟨v,g,h⟩:=AM h;exact⟨_,_,j v g,.inr e,n v h⟩
variable {l m:O α} {f:α->D} {by' sz:Nat} {i i':Int} {kl:O α->Option ρ} {ML:O D->Prop} {MD:D->Prop}
def apO (h:Xx (gO by' l m) kl=some r)(e:A)(n :∀v,kl v=some r->ML (v.map f)):A/\(((l.map f).length+(m.map f).length)*by'<=2^47/\(l.map f).length+(m.map f).length<=2^47)/\∃zs,l.map f++m.map f=zs/\ML zs:=by obtain⟨v,g,h⟩:=AM h;exact⟨e,ly g,_,ug g,n v h⟩
def Sp {N:Prop}(h:Xx (gO by' [] m) kl=some r)(n :∀v,kl v=some r->N):((m.map f).length*by'<=2^47/\(m.map f).length<=2^47)/\N:=by obtain⟨v,g,h⟩:=AM h;exact⟨sM g,n v h⟩
def Hq (h:Xx (gN l i) k=some r)(e :∀v,(f v).cells.length=sz)(n :∀v,k v=some r->MD (f v)):(0<=i/\i<((l.map f).length:Int))/\∃x,(l.map f).getD i.toNat default=x/\x.cells.length=sz/\MD x:=by obtain⟨v,g,h⟩:=AM h;exact⟨Dw g,_,FY g,e v,n v h⟩
def uh (h:Xx (part l i i') kl=some r)(n :∀v,kl v=some r->ML (v.map f)):(0<=i/\i<=i'/\i'<=((l.map f).length:Int))/\∃ys,((l.map f).drop i.toNat).take (i'.toNat-i.toNat)=ys/\ML ys:=by obtain⟨v,g,h⟩:=AM h;exact⟨Wm g,_,Ko g,n v h⟩
def wm (h:Xx (part l i l.length) kl=some r)(n :∀v,kl v=some r->ML (v.map f)) : (0<=i/\i<=((l.map f).length:Int)/\((l.map f).length:Int)<=((l.map f).length:Int))/\∃ys,((l.map f).drop i.toNat).take (((l.map f).length:Int).toNat-i.toNat)=ys/\ML ys:=by obtain⟨v,g,h⟩:=AM h;exact⟨gG g,_,XW g,n v h⟩
end
def EW {a b:Nat}(h:a=b:=by first|rfl|exact X1 _|(simp only[X1];done)|(simp only[X1];omega)|(simp only[X1,X18];omega)|(simp only[Qt,X1,X18,X2,X15,X14,X17];omega)):a=b:=h
def fin {A:Prop}{ρ:Type}{a r:ρ}(h:some a=some r)(k:some a=some r->A:=by intro h;cases h;exact⟨rfl,rfl⟩):A:=k h
end Go.AX
end
section
namespace Go.AX
open Go
def L2:O AV->O AV->Prop
 | [],[]=>True
 | a::l,b::m=>(b=a \/∃sz,a=.d (.nil sz)/\b=.d (.Cg sz []))/\L2 l m
 | _,_=>False
def TR :∀{l m:O AV},L2 l m->l.length=m.length/\∀i (h:i<l.length) (Q:i<m.length),m[i]=l[i] \/∃sz,l[i]=.d (.nil sz)/\m[i]=.d (.Cg sz [])
 | [],[],_=>⟨rfl,λi h=>by simp at h⟩
 | a::l,b::m,h=>by
  obtain⟨H,J⟩:=h;obtain⟨K,M⟩:=TR J;refine⟨by simp[K],λi P F=>?_⟩;cases i with
  | zero=>exact H
  | succ i=>exact M i (by simpa using P) (by simpa using F)
 | [],_::_,h=>by simp[L2] at h
 | _::_,[],h=>by simp[L2] at h
def Qx :∀{l m:O AV},L2 l m->∀r∈AV.refs.refsL m,r∈AV.refs.refsL l
 | [],[],_,r,h=>h
 | a::l,b::m,h,r,F=>by
  obtain⟨H,J⟩:=h;simp only[AV.refs.refsL,X20] at F⊢;rcases F with F|F
  ·rcases H with rfl|⟨sz,rfl,rfl⟩
   ·exact .inl F
   simp[AV.refs] at F
  exact .inr (Qx J r F)
 | [],_::_,h,_,_=>by simp[L2] at h
 | _::_,[],h,_,_=>by simp[L2] at h
def xV.box1 {wl:WL}{P:Xdn}{f:Xdy}{args:O AV}{J F:O AV}{Q:AV}{H:O OB}(h:xV wl P f args [.box F] Q H)(hc:L2 J F):xV wl P f args [.box J] Q H:=by
 obtain⟨c1,c2⟩:=TR hc;refine⟨h.1,λw S φ gb hg U hv ha hr m=>?_⟩;have e0:zo [OB.box J] 0=some (.box J):=rfl;have e1:zg (zo [OB.box J]) 0 (some (.box F))=zo [OB.box F]:=by
  funext r;cases r with
  | zero=>rfl
  | succ r=>simp[zg,zo]
 have e2:zg φ 0 (φ 0)=φ:=by funext i;by_cases V:i=0<;>simp[zg,V]
 obtain⟨m',Y⟩:=m.set 0 (.box J) (.box F) w (φ 0) e0 (λ_ _ _=>rfl) (Xak _) ⟨rfl,rfl,rfl,Xak _⟩ (λ_ _ _ _ _=>rfl) (.inl rfl)
  (.inl ⟨gS _ _ _,by rw[gS,e0];rfl,λ_=>⟨J,e0⟩⟩) (λZ K=>m.GJ 0 _ e0 Z (Qx hc Z K)) λhk=>by
   obtain⟨b,c,vs,e,g,g1,g2,g3,g4,g5,g6⟩:=m.obj 0 _ e0;refine⟨b,c,vs,e,g,by rw[gS];exact g1,g2,by omega,g4,λj hj=>g5 j (by omega),λj hj=>?_⟩;obtain⟨o1,M⟩:=g6 j (by omega);rcases c2 j (by omega) hj with q|⟨sz,q1,q2⟩
   ·rw[q];refine⟨o1,hk.Ke (λZ K=>m.GJ 0 _ e0 Z ?_) M⟩;exact AV.z8 J j (by omega) Z K
   rw[q1] at M;rw[q2];refine⟨rfl,?_⟩;generalize g j=u at M⊢;cases M with|d _ _ M=>
   cases M with|nil=>
   exact .d _ _ (.zZ _ _ _)
 rw[e1,e2] at m' Y;have a6 :∀r,zo [OB.box J] r≠none->zo [OB.box F] r≠none:=λr q=>Y.c r q;refine (h.2 w S φ gb hg U hv (λi V=>⟨Y.Ke (ha i V).2 (ha i V).1,Y.closed (ha i V).2⟩) hr m').mono ?_;rintro e w' ⟨v,rfl,S',φ',q1,q2,q3,q4⟩;exact⟨v,rfl,S',φ',q1,Y.trans q2,q3,q4⟩
end Go.AX
end
section
namespace Go.AX
universe u
abbrev X:AV:=.dead
abbrev N:C OB:=none
def dd:Nat->O AV->O AV
 | 0,l=>l
 | n+1,l=>.dead::dd n l
def nn:Nat->O (C OB)->O (C OB)
 | 0,l=>l
 | n+1,l=>none::nn n l
structure Df where
 tm:List (Nat×AV)
 ob:List (Nat×Option OB)
def upK {α:Type}:O (Nat×α)->O α->(O α->Prop)->Prop
 | [],l,K=>K l
 | (i,a)::d,l,K=>MH l i a λl=>upK d l K
def upL {α:Type}:O (Nat×α)->O α->O α
 | [],l=>l
 | (i,a)::d,l=>upL d (l.set i a)
def RW (B:wD)(d:Df):wD:=⟨upL d.tm B.tm,upL d.ob B.ob⟩
def Mg (B:wD)(d:Df)(P:wD->Prop):Prop:=upK d.tm B.tm λtm=>upK d.ob B.ob λob=>P ⟨tm,ob⟩
def bQ {α:Type} :∀(d:O (Nat×α)) (l:O α) (K:O α->Prop),upK d l K↔K (upL d l)
 | [],_,_=>Iff.rfl
 | (i,a)::d,l,K=>by simp only[upK,upL,FQ];exact bQ d _ K
def FW {B:wD}{d:Df}{P:wD->Prop}:Mg B d P↔P (RW B d):=by unfold Mg RW;rw[bQ,bQ]
inductive Pl:Type 1 where
 | z
 | g (p:Pl)
 | b (p q:Pl)
 | r (p:Pl)
 | l (p:Pl)
 | n (l:List Nat) (p:Pl)
 | x (i j:Nat)
 | i (fn:Func) (n:Nat) (p:Pl)
 | j (fn:Func) (n:Nat) (p:Pl)
 | m (p:Pl)
 | t (p:Pl)
 | e (p:Pl)
 | s (p:Pl)
 | v {α:Type} (f:α->Pl)
 | y (n m:Nat) (p:Pl)
 | c {τ:Type} (p:Pl) (St:τ->Df) (q:τ->Pl)
 | f {α σ:Type} (slot sz:Nat) (enc:α->D) (St:Nat->σ->Df) (q:σ->Nat->α->Pl)
 | o {α σ:Type} (slot e sz:Nat) (enc:α->D) (St:Nat->σ->Df) (q:σ->Nat->α->Pl)
 | w {σ:Type} (St:σ->Df) (q:σ->Pl)
abbrev Pl.k {τ:Type}(St:τ->Df):Pl:=.c .z St λ_=>.z
abbrev Pl.d {τ:Type}(St:τ->Df)(q:τ->Pl):Pl:=.c .z St q
abbrev Pl.a {τ:Type}(p:Pl)(St:τ->Df):Pl:=.c p St λ_=>.z
abbrev Pl.f0 {α σ:Type}(F sz:Nat)(enc:α->D)(St:Nat->σ->Df):Pl:=.f F sz enc St λ_ _ _=>.z
abbrev Pl.o0 {α σ:Type}(F e sz:Nat)(enc:α->D)(St:Nat->σ->Df):Pl:=.o F e sz enc St λ_ _ _=>.z
abbrev Pl.w0 {σ:Type}(St:σ->Df):Pl:=.w St λ_=>.z
class E (α:Type) where
 e:α->D
 z:Nat
instance:E Int:=⟨D.i,1⟩
instance:E S:=⟨D.u8,1⟩
instance:E j:=⟨D.u64,1⟩
instance:E I:=⟨D.b,1⟩
instance:E T:=⟨D.s,1⟩
instance:E Nat:=⟨D.fn,1⟩
instance {α:Type} [E α]:E (O α):=⟨D.l (E.z α) E.e,1⟩
abbrev ed {α:Type}[E α](a:α):AV:=.d (E.e a)
abbrev e2 {α F:Type}[E α][E F](r:α×F):AV:=.Ca [.d (E.e r.1),.d (E.e r.2)]
abbrev e3 {α F H:Type}[E α][E F][E H](r:α×F×H):AV:=.Ca [.d (E.e r.1),.d (E.e r.2.1),.d (E.e r.2.2)]
abbrev oN {α:Type}:α->O OB:=λ_=>[]
def u2 {α F:Type}{H:Sort u}(f:α->F->H):α×F->H|(a,b)=>f a b
def u3 {α F H:Type}{J:Sort u}(f:α->F->H->J):α×F×H->J|(a,b,c)=>f a b c
def u4 {α F H J:Type}{M:Sort u}(f:α->F->H->J->M):α×F×H×J->M|(a,b,c,d)=>f a b c d
def u6 {α F H J M P:Type}{Q:Sort u}(f:α->F->H->J->M->P->Q):α×F×H×J×M×P->Q|(a,b,c,d,e,x)=>f a b c d e x
structure Wk (B:wD)(p:Pl)(A:Prop):Prop where
 h:A
def Q3 (A:Prop):Prop:=A
def Q4 (A:Prop):Prop:=A
def Q1 (A:Prop):Prop:=A
def Q2 (A:Prop):Prop:=A
def Q6 (A:Prop):Prop:=A
def Q5 (A:Prop):Prop:=A
def Q7 (A:Prop):Prop:=A
def q1 {A:Prop}(h:A):Q1 A:=h
def q2 {A:Prop}(h:A):Q2 A:=h
def q3 {A:Prop}(h:A):Q3 A:=h
def q4 {A:Prop}(h:A):Q4 A:=h
def q5 {A:Prop}(h:A):Q5 A:=h
def q7 {A:Prop}(h:A):Q7 A:=h
def q6 {A:Prop}(h:A):Q6 A:=h
section
variable {U U':wD} {p q:Pl} {α τ ρ σ:Type} {r:ρ} {np:Nat} {t:wD} {d:τ->Df} {k':τ->C ρ} {v0:τ} {b:I} {X Y:C ρ} {A B:Prop} {K:wD->Prop}
def Wk.v {f:α->Pl}(v:α)(h:Wk U (f v) A):Wk U (.v f) A:=⟨h.h⟩
def Wk.y {n m:Nat}(h:Wk ⟨dd n [],nn m []⟩ p A):Wk U (.y n m p) A:=⟨h.h⟩
def Wk.fin {F H:Type}{x y:F}{z w:H}{a:ρ}(h:some a=some r)(k:some a=some r->x=y/\z=w:=by intro h;cases h;exact⟨rfl,rfl⟩):Wk U p (x=y/\z=w):=⟨k h⟩
def Wk.CI (h:k' v0=some r)(F:Mg U' (d v0) (λs=>zU np t s):=by (conv=>whnf);exact wk):Wk U p (∃s,zU np t s/\∃v,k' v=some r/\s=RW U' (d v)):=⟨Fh (St:=λv=>RW U' (d v)) (FW.1 F) h⟩
def Wk.endL {n:σ->C ρ}{v:σ}{d:σ->Df}{F:wD->Prop}(h:n v=some r)(g :∀t v,Mg U' (d v) (λs=>zU np t s)->n v=some r->F t)(H:Mg U' (d v) (λs=>zU np t s)):Wk U p (F t):=⟨g _ _ H h⟩
def Wk.endM {n:σ->C ρ}{v:σ}{S:σ->wD}{F:wD->Prop}(h:n v=some r)(g :∀t v,zU np t (S v)->n v=some r->F t)(H:zU np t (S v)):Wk U p (F t):=⟨g _ _ H h⟩
def Wk.endI {St:τ->wD}(h:k' v0=some r)(F:zU np t (St v0):=by exact wk):Wk U p (∃s,zU np t s/\∃v,k' v=some r/\s=St v):=⟨Fh F h⟩
def Wk.swJ {i j:Nat}(h:k' v0=some r)(F:Mg U' (d v0) (λs=>zU np (HD i j t) s):=by (conv=>whnf);exact wk)(H:Nat.ble np i=true:=by rfl)(J:Nat.ble np j=true:=by rfl)(M:(Nat.blt i t.ob.length&&Nat.blt j t.ob.length)=true:=by rfl) :
  Wk U (.x i j) (∃s,zU np t s/\∃v,k' v=some r/\s=RW U' (d v)):=⟨Fh (St:=λv=>RW U' (d v)) (.swap i j H J M (FW.1 F)) h⟩
def Wk.swI {i j:Nat}{St:τ->wD}(h:k' v0=some r)(F:zU np (HD i j t) (St v0):=by exact wk)(H:Nat.ble np i=true:=by rfl)(J:Nat.ble np j=true:=by rfl)(M:(Nat.blt i t.ob.length&&Nat.blt j t.ob.length)=true:=by rfl) :
  Wk U (.x i j) (∃s,zU np t s/\∃v,k' v=some r/\s=St v):=⟨Fh (.swap i j H J M F) h⟩
def Wk.R4 {i j:Nat}{n:σ->C ρ}{v:σ}{d:σ->Df}{F:wD->Prop}(h:n v=some r)(g :∀t v,Mg U' (d v) (λs=>zU np t s)->n v=some r->F t)(H:Mg U' (d v) (λs=>zU np (HD i j t) s))(J:Xeo np i=true)(M:Xeo np j=true) (P:(Xcu i t.ob.length&&Xcu j t.ob.length)=true):Wk U (.x i j) (F t):=⟨g _ _ (FW.2 (.swap i j J M P (FW.1 H))) h⟩
def Wk.swM {i j:Nat}{n:σ->C ρ}{v:σ}{S:σ->wD}{F:wD->Prop}(h:n v=some r)(g :∀t v,zU np t (S v)->n v=some r->F t)(H:zU np (HD i j t) (S v))(J:Xeo np i=true)(M:Xeo np j=true) (P:(Xcu i t.ob.length&&Xcu j t.ob.length)=true):Wk U (.x i j) (F t):=⟨g _ _ (.swap i j J M P H) h⟩
def Wk.cut {Z:(wD->Prop)->Prop}{m:(τ->C ρ)->C ρ}{k:τ->C ρ}{q:τ->Pl}(h:AC m k=some r) (F:Q4 (∀k':τ->C ρ,m k'=some r->Wk U p (Z (λt=>∃s,zU np t s/\∃v,k' v=some r/\s=RW U (d v))))) (H:Q6 (∀v,k v=some r->Mg U (d v) λs=>Wk s (q v) (K s))):Wk U (.c p d q) (HR np Z K):=
 ⟨ZS (λv=>RW U (d v)) (λk e=>(F k e).h) (λv e=>(FW.1 (H v e)).h) h⟩
def Wk.g {Z:(wD->Prop)->Prop}(h:Wk U p (Z K)):Wk U (.g p) (HR np Z K):=⟨HR.go h.h⟩
def Wk.go {Z:(wD->Prop)->Prop}(h:Wk U p (Z K)):Wk U p (HR np Z K):=⟨HR.go h.h⟩
def Wk.Cr (h:(if b=true then X else Y)=some r)(F:X=some r->Wk U p A)(H:Y=some r->Wk U q B):Wk U (.b p q) (JC b A B):=⟨Pg (λh=>(F h).h) (λh=>(H h).h) h⟩
def Wk.selz (h:(if b=true then X else Y)=some r)(F:X=some r->Wk U .z A)(H:Y=some r->Wk U .z B):Wk U .z (JC b A B):=⟨Pg (λh=>(F h).h) (λh=>(H h).h) h⟩
def Wk.st {l:O α}{i:Nat}(h:i<l.length)(k:Wk U p A):Wk U (.t p) (JC (decide ((i:Int)<(l.length:Int))) A B):=⟨HA (K6 h) k.h⟩
def Wk.se {l:O α}(k:Wk U p B):Wk U (.e p) (JC (decide ((l.length:Int)<(l.length:Int))) A B):=⟨nH vB k.h⟩
def Wk.s (k:Wk U p A):Wk U (.s p) A:=⟨k.h⟩
def Wk.e0 (k:Wk U p A):Wk U (.e p) A:=⟨k.h⟩
def Wk.l (h:Wk U p A):Wk U (.l p) (A\/B):=⟨Or.inl h.h⟩
def Wk.inr (h:Wk U p B):Wk U (.r p) (A\/B):=⟨Or.inr h.h⟩
def Wk.inl (h:Wk U p A):Wk U p (A\/B):=⟨Or.inl h.h⟩
def Wk.dr {F:Array Oper}(k:Wk U p A)(h:GC F=true:=by kernel_rfl):Wk U p (FX F=true/\A):=⟨dOB h k.h⟩
def Wk.tr {F:Array Oper}(k:Wk U p A)(h:(GC F&&P3 F)=true:=by kernel_rfl):Wk U p ((FX F=true/\P3 F=true)/\A):=⟨tOB h k.h⟩
def Wk.cr {F:Array Oper}{e:List (List Nat×List Nat)}(k:Wk U p A)(h:Fl F e=true:=by kernel_rfl):Wk U p (Eu F 0 e=true/\A):=⟨cOB h k.h⟩
def Wk.len {x y:Nat}(k:Wk U p A)(h:x=y:=by exact EW):Wk U p (x=y/\A):=⟨h,k.h⟩
def Wk.ex {F:Type}{P:F->Prop}{x y:F}(e:x=y)(k:Wk U p (P y)):Wk U p (∃r,x=r/\P r):=⟨_,e,k.h⟩
def Wk.and (h:A)(k:Wk U p B):Wk U p (A/\B):=⟨h,k.h⟩
def Wk.for {body:(AE->wD->Prop)->wD->Prop}{K:AE->wD->Prop}{st:wD}{done:σ->C ρ}{P:(σ->C ρ)->α->Nat->σ->C ρ}{l:O α}{Q:σ}{F sz:Nat}{enc:α->D} {d:Nat->σ->Df} {q:σ->Nat->α->Pl} (h:AL done P l 0 Q=some r) (V:st.tm.getD F .dead=.d (.Cg sz (l.map enc))) (Z:Mg U (d 0 Q) λs=>zU np st s) (M:Q1 (∀(s:σ) (H:wD->Prop),done s=some r->Mg U (d l.length s) λu=>Wk u (.e .z) (body (S6 K H) u))) (J:Q2 (∀(s:σ) (next:σ->C ρ) (i:Nat) (x:α) (H:wD->Prop),i<l.length->(l.map enc).getD i default=enc x->Xda.wrap ((i:Int)+1)=((i+1:Nat):Int)->P next x i s=some r-> (∀t v,Mg U (d (i+1) v) (λs=>zU np t s)->next v=some r->H t)->Mg U (d i s) λu=>Wk u (.t (q s i x)) (body (S6 K H) u))):Wk U (.f F sz enc d q) (Ka np body K st):=
 ⟨Cj F sz enc V (λi s=>RW U (d i s)) (FW.1 Z) (λs H h=>(FW.1 (M s H h)).h) (λn i x s H h1 h2 h3 h4 h5=>(FW.1 (J s n i x H h1 h2 h3 h4 λt v w=>h5 t v (FW.1 w))).h) h⟩
def Wk.own {body:(AE->wD->Prop)->wD->Prop}{K:AE->wD->Prop}{st:wD}{done:σ->C ρ}{P:(σ->C ρ)->α->Nat->σ->C ρ}{l:O α}{Q:σ}{F e sz:Nat}{enc:α->D} {d:Nat->σ->Df} {q:σ->Nat->α->Pl} (h:AL done P l 0 Q=some r) (V:st.ob.getD F none=some (.row e sz (l.map enc) .no)) (Z:Mg U (d 0 Q) λs=>zU np st s) (M:Q1 (∀(s:σ) (H:wD->Prop),done s=some r->Mg U (d l.length s) λu=>Wk u (.e .z) (body (S6 K H) u))) (J:Q2 (∀(s:σ) (next:σ->C ρ) (i:Nat) (x:α) (H:wD->Prop),i<l.length->(l.map enc).getD i default=enc x->Xda.wrap ((i:Int)+1)=((i+1:Nat):Int)->P next x i s=some r-> (∀t v,Mg U (d (i+1) v) (λs=>zU np t s)->next v=some r->H t)->Mg U (d i s) λu=>Wk u (.t (q s i x)) (body (S6 K H) u))):Wk U (.o F e sz enc d q) (Ka np body K st):=
 ⟨O1 F e sz .no enc V (λi s=>RW U (d i s)) (FW.1 Z) (λs H h=>(FW.1 (M s H h)).h) (λn i x s H h1 h2 h3 h4 h5=>(FW.1 (J s n i x H h1 h2 h3 h4 λt v w=>h5 t v (FW.1 w))).h) h⟩
def Wk.whl {body:(AE->wD->Prop)->wD->Prop}{K:AE->wD->Prop}{st:wD}{J:(σ->C ρ)->σ->C ρ}{n:Nat}{M:σ}{d:σ->Df}{q:σ->Pl} (h:Ad J n M=some r) (P:Mg U (d M) λs=>zU np st s) (F:Q5 (∀(s:σ) (next:σ->C ρ) (H:wD->Prop),J next s=some r->(∀t v,Mg U (d v) (λs=>zU np t s)->next v=some r->H t)->Mg U (d s) λu=>Wk u (q s) (body (S6 K H) u))):Wk U (.w d q) (Ka np body K st):=
 ⟨BO (λs=>RW U (d s)) (FW.1 P) (λn s H Q V=>(FW.1 (F s n H Q λt v w=>V t v (FW.1 w))).h) h⟩
variable {l m:O α} {f:α->D} {by' sz:Nat} {i i':Int} {kl:O α->C ρ} {ML:O D->Prop} {MD:D->Prop} {k:α->C ρ}
def Wk.Ch [Decidable A]{k:Unit->C ρ}(h:Xx (Ch A) k=some r)(n:Q3 (∀u,k u=some r->Wk U p B)):Wk U p (A/\B):=by obtain⟨u,g,h⟩:=AM h;exact⟨Dc g,(n u h).h⟩
def Wk.gb (h:Xx (gN l i) k=some r)(n:Q7 (∀v,gN l i=some v->k v=some r->Wk U p A)):Wk U p ((0<=i/\i<((l.map f).length:Int))/\A):=by obtain⟨v,g,h⟩:=AM h;exact⟨Dw g,(n v g h).h⟩
def Wk.gd {v:α}(g:gN l i=some v)(n:Wk U p (MD (f v))):Wk U p (∃x,(l.map f).getD i.toNat default=x/\MD x):=⟨_,FY g,n.h⟩
def Wk.ib {i:Nat}(b:i<l.length)(n:Wk U p A):Wk U p ((0<=(i:Int)/\(i:Int)<((l.map f).length:Int))/\A):=⟨Fv b,n.h⟩
def Wk.set {v:α}(h:Xx (Bu l i v) kl=some r)(n:Q7 (∀F,F.length=l.length->kl F=some r->Wk U p (ML (F.map f)))):Wk U p (∃zs,(l.map f).set i.toNat (f v)=zs/\ML zs):=by obtain⟨v,g,h⟩:=AM h;exact⟨_,oj g,(n v (Zo g) h).h⟩
def Wk.mgd {F:Type}{o:C F}{z:F}{H:D}{f:F->D}{J:F->C ρ}(h:Xx (some (o.getD z)) J=some r)(n:Q3 (∀v,J v=some r->Wk U p (MD (f v))))(M:H=f z):Wk U p (∃v,(o.map f).getD H=v/\MD v):=by obtain⟨v,g,h⟩:=AM h;exact⟨_,r7 M g,(n v h).h⟩
def Wk.mgs {F:Type}{o:C F}{f:F->D}{H:I->C ρ}{J:I->Prop}(h:Xx (some o.isSome) H=some r)(n:Q3 (∀v,H v=some r->Wk U p (J v))):Wk U p (∃b,(o.map f).isSome=b/\J b):=by obtain⟨v,g,h⟩:=AM h;exact⟨_,s6 g,(n v h).h⟩
def Wk.ms {F H:Type}[BEq F]{tk:TK}{ek:F->D}{ev:H->D}{es:O (F×H)}{kd J:D}{x:F}{v:H}{P:O (D×D)->Prop}(e :∀a b,Cf tk (ek a) (ek b)=some (a==b))(k:Wk U p (P (BK ek ev (A3 es x v))))(M:kd=ek x)(Q:J=ev v):Wk U p (∃zs,FA tk kd J (BK ek ev es)=some zs/\P zs):=by subst M Q;exact⟨_,P2 e,k.h⟩
def Wk.exs {F:Type}{P:F->Prop}{x:C F}{y:F}(e:x=some y)(k:Wk U p (P y)):Wk U p (∃r,x=some r/\P r):=⟨_,e,k.h⟩
def Wk.apP (h:Xx (gO by' l m) kl=some r)(n:Q3 (∀v,kl v=some r->Wk U p (ML (v.map f)))):Wk U p ((((l.map f).length+(m.map f).length)*by'<=2^47/\(l.map f).length+(m.map f).length<=2^47)/\∃zs,l.map f++m.map f=zs/\ML zs):=⟨(Go.AX.apO (A:=True) h trivial λv e=>(n v e).h).2⟩
def Wk.Sp (h:Xx (gO by' [] m) kl=some r)(n:Q3 (∀v,kl v=some r->Wk U p A)):Wk U p (((m.map f).length*by'<=2^47/\(m.map f).length<=2^47)/\A):=⟨Go.AX.Sp h λv e=>(n v e).h⟩
def Wk.get (h:Xx (gN l i) k=some r)(n:Q3 (∀v,k v=some r->Wk U p (MD (f v))))(e :∀v,(f v).cells.length=sz):Wk U p ((0<=i/\i<((l.map f).length:Int))/\∃x,(l.map f).getD i.toNat default=x/\x.cells.length=sz/\MD x):=⟨Hq h e λv e=>(n v e).h⟩
def Wk.par (h:Xx (part l i i') kl=some r)(n:Q3 (∀v,kl v=some r->Wk U p (ML (v.map f)))):Wk U p ((0<=i/\i<=i'/\i'<=((l.map f).length:Int))/\∃ys,((l.map f).drop i.toNat).take (i'.toNat-i.toNat)=ys/\ML ys):=⟨uh h λv e=>(n v e).h⟩
def Wk.par0 (h:Xx (part l i l.length) kl=some r)(n:Q3 (∀v,kl v=some r->Wk U p (ML (v.map f)))) : Wk U p ((0<=i/\i<=((l.map f).length:Int)/\((l.map f).length:Int)<=((l.map f).length:Int))/\∃ys,((l.map f).drop i.toNat).take (((l.map f).length:Int).toNat-i.toNat)=ys/\ML ys):=⟨wm h λv e=>(n v e).h⟩
def Wk.idx {i:Nat}{x:α}(b:i<l.length)(c:(l.map f).getD i default=f x)(n:Wk U p (MD (f x)))(e:(f x).cells.length=sz):Wk U p ((0<=(i:Int)/\(i:Int)<((l.map f).length:Int))/\∃x,(l.map f).getD (i:Int).toNat default=x/\x.cells.length=sz/\MD x):=⟨Fv b,_,c,e,n.h⟩
def uQ {α F:Type}{P:α×F->Prop}(h :∀a b,P (a,b)) :∀v,P v:=λ(a,b)=>h a b
def u9 {α F H:Type}{P:α×F×H->Prop}(h :∀a b c,P (a,b,c)) :∀v,P v:=λ(a,b,c)=>h a b c
def uB {α F H J:Type}{P:α×F×H×J->Prop}(h :∀a b c d,P (a,b,c,d)) :∀v,P v:=λ(a,b,c,d)=>h a b c d
def uI {α F H J M:Type}{P:α×F×H×J×M->Prop}(h :∀a b c d e,P (a,b,c,d,e)) :∀v,P v:=λ(a,b,c,d,e)=>h a b c d e
def vM {α F H J M Q:Type}{P:α×F×H×J×M×Q->Prop}(h :∀a b c d e x,P (a,b,c,d,e,x)) :∀v,P v:=λ(a,b,c,d,e,x)=>h a b c d e x
end
end Go.AX
end
section
namespace Go.AX.Q33
open Go Go.AX Go.Proofs
def ti3:TI:=⟨.int .i64,1,8,[.val (.int .i64 0)]⟩
def ti4:TI:=⟨.bool,1,1,[.val (.bool false)]⟩
def ti5:TI:=⟨.int .u8,1,1,[.val (.int .u8 0)]⟩
def ti9:TI:=⟨.str,1,16,[.val (.string Xbe)]⟩
def x9:TI:=⟨.slice 3,1,24,[.nil 1]⟩
def yj:TI:=⟨.ptr,1,8,[.val (.pointer none)]⟩
def zG:TI:=⟨.slice 67,1,24,[.nil 4]⟩
def yf:TI:=⟨.slice 165,1,24,[.nil 2]⟩
def yx:TI:=⟨.slice 171,1,24,[.nil 3]⟩
def yM:TI:=⟨.slice 168,1,24,[.nil 6]⟩
def yn:TI:=⟨.struct [(0,1,27),(1,1,28)],2,48,[.nil 3,.nil 6]⟩
def yp:TI:=⟨.struct [(0,1,27),(1,1,28)],2,48,[.nil 3,.nil 6]⟩
def yA:TI:=⟨.struct [(0,1,3),(1,1,25),(2,1,3),(3,1,3),(4,1,3),(5,1,3),(6,1,3),(7,1,3),(8,1,25),(9,1,26),(10,1,22),(11,1,3),(12,2,30),(14,1,28)],15,232,[.val (.int .i64 0),.nil 4,.val (.int .i64 0),.val (.int .i64 0),.val (.int .i64 0),.val (.int .i64 0),.val (.int .i64 0),.val (.int .i64 0),.nil 4,.nil 2,.nil 1,.val (.int .i64 0),.nil 3,.nil 6,.nil 6]⟩
def yg:TI:=⟨.struct [(0,1,3),(1,1,25),(2,1,3),(3,1,3),(4,1,3),(5,1,3),(6,1,3),(7,1,3),(8,1,25),(9,1,26),(10,1,22),(11,1,3),(12,2,30),(14,1,28)],15,232,[.val (.int .i64 0),.nil 4,.val (.int .i64 0),.val (.int .i64 0),.val (.int .i64 0),.val (.int .i64 0),.val (.int .i64 0),.val (.int .i64 0),.nil 4,.nil 2,.nil 1,.val (.int .i64 0),.nil 3,.nil 6,.nil 6]⟩
def yU:TI:=⟨.slice 85,1,24,[.nil 7]⟩
def yk:TI:=⟨.slice 49,1,24,[.nil 8]⟩
def yN:TI:=⟨.struct [(0,15,32),(15,1,33),(16,1,34)],17,280,[.val (.int .i64 0),.nil 4,.val (.int .i64 0),.val (.int .i64 0),.val (.int .i64 0),.val (.int .i64 0),.val (.int .i64 0),.val (.int .i64 0),.nil 4,.nil 2,.nil 1,.val (.int .i64 0),.nil 3,.nil 6,.nil 6,.nil 7,.nil 8]⟩
def xj:TI:=⟨.struct [(0,15,32),(15,1,33),(16,1,34)],17,280,[.val (.int .i64 0),.nil 4,.val (.int .i64 0),.val (.int .i64 0),.val (.int .i64 0),.val (.int .i64 0),.val (.int .i64 0),.val (.int .i64 0),.nil 4,.nil 2,.nil 1,.val (.int .i64 0),.nil 3,.nil 6,.nil 6,.nil 7,.nil 8]⟩
def xu:TI:=⟨.slice 116,1,24,[.nil 1]⟩
def zJ:TI:=⟨.struct [(0,17,36),(17,1,37)],18,304,[.val (.int .i64 0),.nil 4,.val (.int .i64 0),.val (.int .i64 0),.val (.int .i64 0),.val (.int .i64 0),.val (.int .i64 0),.val (.int .i64 0),.nil 4,.nil 2,.nil 1,.val (.int .i64 0),.nil 3,.nil 6,.nil 6,.nil 7,.nil 8,.nil 1]⟩
def zD:TI:=⟨.struct [(0,17,36),(17,1,37)],18,304,[.val (.int .i64 0),.nil 4,.val (.int .i64 0),.val (.int .i64 0),.val (.int .i64 0),.val (.int .i64 0),.val (.int .i64 0),.val (.int .i64 0),.nil 4,.nil 2,.nil 1,.val (.int .i64 0),.nil 3,.nil 6,.nil 6,.nil 7,.nil 8,.nil 1]⟩
def yX:TI:=⟨.slice 87,1,24,[.nil 24]⟩
def yK:TI:=⟨.slice 65,1,24,[.nil 3]⟩
def yE:TI:=⟨.struct [(0,1,3),(1,1,9),(2,1,3),(3,1,3),(4,1,44)],5,64,[.val (.int .i64 0),.val (.string Xbe),.val (.int .i64 0),.val (.int .i64 0),.nil 3]⟩
def zK:TI:=⟨.struct [(0,1,3),(1,1,9),(2,1,3),(3,1,3),(4,1,44)],5,64,[.val (.int .i64 0),.val (.string Xbe),.val (.int .i64 0),.val (.int .i64 0),.nil 3]⟩
def yD:TI:=⟨.slice 77,1,24,[.nil 18]⟩
def xq:TI:=⟨.struct [(0,5,46),(5,1,4),(6,1,47),(7,1,3)],8,104,[.val (.int .i64 0),.val (.string Xbe),.val (.int .i64 0),.val (.int .i64 0),.nil 3,.val (.bool false),.nil 18,.val (.int .i64 0)]⟩
def yw:TI:=⟨.struct [(0,5,46),(5,1,4),(6,1,47),(7,1,3)],8,104,[.val (.int .i64 0),.val (.string Xbe),.val (.int .i64 0),.val (.int .i64 0),.nil 3,.val (.bool false),.nil 18,.val (.int .i64 0)]⟩
def xg:TI:=⟨.int .i64,1,8,[.val (.int .i64 0)]⟩
def yH:TI:=⟨.struct [(0,1,3),(1,1,3),(2,1,3),(3,1,3),(4,1,3),(5,1,4)],6,48,[.val (.int .i64 0),.val (.int .i64 0),.val (.int .i64 0),.val (.int .i64 0),.val (.int .i64 0),.val (.bool false)]⟩
def xn:TI:=⟨.struct [(0,1,3),(1,1,3),(2,1,3),(3,1,3),(4,1,3),(5,1,4)],6,48,[.val (.int .i64 0),.val (.int .i64 0),.val (.int .i64 0),.val (.int .i64 0),.val (.int .i64 0),.val (.bool false)]⟩
def xb:TI:=⟨.struct [(0,1,3),(1,6,56),(7,1,3),(8,6,56),(14,1,3),(15,1,3)],16,128,[.val (.int .i64 0),.val (.int .i64 0),.val (.int .i64 0),.val (.int .i64 0),.val (.int .i64 0),.val (.int .i64 0),.val (.bool false),.val (.int .i64 0),.val (.int .i64 0),.val (.int .i64 0),.val (.int .i64 0),.val (.int .i64 0),.val (.int .i64 0),.val (.bool false),.val (.int .i64 0),.val (.int .i64 0)]⟩
def yo:TI:=⟨.struct [(0,1,3),(1,6,56),(7,1,3),(8,6,56),(14,1,3),(15,1,3)],16,128,[.val (.int .i64 0),.val (.int .i64 0),.val (.int .i64 0),.val (.int .i64 0),.val (.int .i64 0),.val (.int .i64 0),.val (.bool false),.val (.int .i64 0),.val (.int .i64 0),.val (.int .i64 0),.val (.int .i64 0),.val (.int .i64 0),.val (.int .i64 0),.val (.bool false),.val (.int .i64 0),.val (.int .i64 0)]⟩
def zL:TI:=⟨.slice 5,1,24,[.nil 1]⟩
def xz:TI:=⟨.struct [(0,1,3),(1,1,60)],2,32,[.val (.int .i64 0),.nil 1]⟩
def yc:TI:=⟨.struct [(0,1,3),(1,1,60)],2,32,[.val (.int .i64 0),.nil 1]⟩
def xh:TI:=⟨.int .u64,1,8,[.val (.int .u64 0)]⟩
def xl:TI:=⟨.struct [(0,1,4),(1,1,63),(2,1,63)],3,24,[.val (.bool false),.val (.int .u64 0),.val (.int .u64 0)]⟩
def yQ:TI:=⟨.struct [(0,1,4),(1,1,63),(2,1,63)],3,24,[.val (.bool false),.val (.int .u64 0),.val (.int .u64 0)]⟩
def xy:TI:=⟨.struct [(0,3,65),(3,1,3)],4,32,[.val (.bool false),.val (.int .u64 0),.val (.int .u64 0),.val (.int .i64 0)]⟩
def x0:TI:=⟨.struct [(0,3,65),(3,1,3)],4,32,[.val (.bool false),.val (.int .u64 0),.val (.int .u64 0),.val (.int .i64 0)]⟩
def yF:TI:=⟨.slice 176,1,24,[.nil 2]⟩
def x3:TI:=⟨.slice 206,1,24,[.nil 2]⟩
def xo:TI:=⟨.slice 208,1,24,[.nil 3]⟩
def ya:TI:=⟨.slice 143,1,24,[.nil 3]⟩
def xX:TI:=⟨.struct [(0,1,3),(1,1,68),(2,3,65),(5,1,3),(6,1,3),(7,1,3),(8,1,69),(9,1,70),(10,1,71)],11,152,[.val (.int .i64 0),.nil 2,.val (.bool false),.val (.int .u64 0),.val (.int .u64 0),.val (.int .i64 0),.val (.int .i64 0),.val (.int .i64 0),.nil 2,.nil 3,.nil 3]⟩
def xe:TI:=⟨.struct [(0,1,3),(1,1,68),(2,3,65),(5,1,3),(6,1,3),(7,1,3),(8,1,69),(9,1,70),(10,1,71)],11,152,[.val (.int .i64 0),.nil 2,.val (.bool false),.val (.int .u64 0),.val (.int .u64 0),.val (.int .i64 0),.val (.int .i64 0),.val (.int .i64 0),.nil 2,.nil 3,.nil 3]⟩
def yq:TI:=⟨.struct [(0,4,67),(4,1,3),(5,11,73)],16,192,[.val (.bool false),.val (.int .u64 0),.val (.int .u64 0),.val (.int .i64 0),.val (.int .i64 0),.val (.int .i64 0),.nil 2,.val (.bool false),.val (.int .u64 0),.val (.int .u64 0),.val (.int .i64 0),.val (.int .i64 0),.val (.int .i64 0),.nil 2,.nil 3,.nil 3]⟩
def yh:TI:=⟨.struct [(0,4,67),(4,1,3),(5,11,73)],16,192,[.val (.bool false),.val (.int .u64 0),.val (.int .u64 0),.val (.int .i64 0),.val (.int .i64 0),.val (.int .i64 0),.nil 2,.val (.bool false),.val (.int .u64 0),.val (.int .u64 0),.val (.int .i64 0),.val (.int .i64 0),.val (.int .i64 0),.nil 2,.nil 3,.nil 3]⟩
def yL:TI:=⟨.struct [(0,16,75),(16,1,3),(17,1,4)],18,208,[.val (.bool false),.val (.int .u64 0),.val (.int .u64 0),.val (.int .i64 0),.val (.int .i64 0),.val (.int .i64 0),.nil 2,.val (.bool false),.val (.int .u64 0),.val (.int .u64 0),.val (.int .i64 0),.val (.int .i64 0),.val (.int .i64 0),.nil 2,.nil 3,.nil 3,.val (.int .i64 0),.val (.bool false)]⟩
def xY:TI:=⟨.struct [(0,16,75),(16,1,3),(17,1,4)],18,208,[.val (.bool false),.val (.int .u64 0),.val (.int .u64 0),.val (.int .i64 0),.val (.int .i64 0),.val (.int .i64 0),.nil 2,.val (.bool false),.val (.int .u64 0),.val (.int .u64 0),.val (.int .i64 0),.val (.int .i64 0),.val (.int .i64 0),.nil 2,.nil 3,.nil 3,.val (.int .i64 0),.val (.bool false)]⟩
def yT:TI:=⟨.struct [(0,1,25),(1,11,73),(12,1,25)],13,200,[.nil 4,.val (.int .i64 0),.nil 2,.val (.bool false),.val (.int .u64 0),.val (.int .u64 0),.val (.int .i64 0),.val (.int .i64 0),.val (.int .i64 0),.nil 2,.nil 3,.nil 3,.nil 4]⟩
def xm:TI:=⟨.struct [(0,1,25),(1,11,73),(12,1,25)],13,200,[.nil 4,.val (.int .i64 0),.nil 2,.val (.bool false),.val (.int .u64 0),.val (.int .u64 0),.val (.int .i64 0),.val (.int .i64 0),.val (.int .i64 0),.nil 2,.nil 3,.nil 3,.nil 4]⟩
def yV:TI:=⟨.slice 60,1,24,[.nil 1]⟩
def yI:TI:=⟨.slice 153,1,24,[.nil 2]⟩
def yY:TI:=⟨.struct [(0,1,3),(1,1,4),(2,1,4),(3,1,4),(4,1,3),(5,1,22),(6,1,83)],7,72,[.val (.int .i64 0),.val (.bool false),.val (.bool false),.val (.bool false),.val (.int .i64 0),.nil 1,.nil 2]⟩
def xt:TI:=⟨.struct [(0,1,3),(1,1,4),(2,1,4),(3,1,4),(4,1,3),(5,1,22),(6,1,83)],7,72,[.val (.int .i64 0),.val (.bool false),.val (.bool false),.val (.bool false),.val (.int .i64 0),.nil 1,.nil 2]⟩
def xw:TI:=⟨.struct [(0,1,3),(1,1,3),(2,1,3),(3,1,3),(4,13,81),(17,7,85)],24,304,[.val (.int .i64 0),.val (.int .i64 0),.val (.int .i64 0),.val (.int .i64 0),.nil 4,.val (.int .i64 0),.nil 2,.val (.bool false),.val (.int .u64 0),.val (.int .u64 0),.val (.int .i64 0),.val (.int .i64 0),.val (.int .i64 0),.nil 2,.nil 3,.nil 3,.nil 4,.val (.int .i64 0),.val (.bool false),.val (.bool false),.val (.bool false),.val (.int .i64 0),.nil 1,.nil 2]⟩
def zI:TI:=⟨.struct [(0,1,3),(1,1,3),(2,1,3),(3,1,3),(4,13,81),(17,7,85)],24,304,[.val (.int .i64 0),.val (.int .i64 0),.val (.int .i64 0),.val (.int .i64 0),.nil 4,.val (.int .i64 0),.nil 2,.val (.bool false),.val (.int .u64 0),.val (.int .u64 0),.val (.int .i64 0),.val (.int .i64 0),.val (.int .i64 0),.nil 2,.nil 3,.nil 3,.nil 4,.val (.int .i64 0),.val (.bool false),.val (.bool false),.val (.bool false),.val (.int .i64 0),.nil 1,.nil 2]⟩
def xk:TI:=⟨.slice 159,1,24,[.nil 22]⟩
def xf:TI:=⟨.struct [(0,1,22),(1,1,3)],2,32,[.nil 1,.val (.int .i64 0)]⟩
def yG:TI:=⟨.struct [(0,1,22),(1,1,3)],2,32,[.nil 1,.val (.int .i64 0)]⟩
def wM:TI:=⟨.struct [(0,1,4),(1,1,4)],2,2,[.val (.bool false),.val (.bool false)]⟩
def we:TI:=⟨.struct [(0,1,4),(1,1,4)],2,2,[.val (.bool false),.val (.bool false)]⟩
def vb:TI:=⟨.slice 75,1,24,[.nil 16]⟩
def w9:TI:=⟨.struct [(0,1,3),(1,1,3),(2,1,60)],3,40,[.val (.int .i64 0),.val (.int .i64 0),.nil 1]⟩
def wc:TI:=⟨.struct [(0,1,3),(1,1,3),(2,1,60)],3,40,[.val (.int .i64 0),.val (.int .i64 0),.nil 1]⟩
def wQ:TI:=⟨.int .u64,1,8,[.val (.int .u64 0)]⟩
def xG:TI:=⟨.struct [(0,1,3),(1,1,3)],2,16,[.val (.int .i64 0),.val (.int .i64 0)]⟩
def wV:TI:=⟨.struct [(0,1,3),(1,1,3)],2,16,[.val (.int .i64 0),.val (.int .i64 0)]⟩
def xB:TI:=⟨.struct [(0,1,3),(1,4,67),(5,1,4),(6,16,75)],22,240,[.val (.int .i64 0),.val (.bool false),.val (.int .u64 0),.val (.int .u64 0),.val (.int .i64 0),.val (.bool false),.val (.bool false),.val (.int .u64 0),.val (.int .u64 0),.val (.int .i64 0),.val (.int .i64 0),.val (.int .i64 0),.nil 2,.val (.bool false),.val (.int .u64 0),.val (.int .u64 0),.val (.int .i64 0),.val (.int .i64 0),.val (.int .i64 0),.nil 2,.nil 3,.nil 3]⟩
def vj:TI:=⟨.struct [(0,1,3),(1,4,67),(5,1,4),(6,16,75)],22,240,[.val (.int .i64 0),.val (.bool false),.val (.int .u64 0),.val (.int .u64 0),.val (.int .i64 0),.val (.bool false),.val (.bool false),.val (.int .u64 0),.val (.int .u64 0),.val (.int .i64 0),.val (.int .i64 0),.val (.int .i64 0),.nil 2,.val (.bool false),.val (.int .u64 0),.val (.int .u64 0),.val (.int .i64 0),.val (.int .i64 0),.val (.int .i64 0),.nil 2,.nil 3,.nil 3]⟩
def ve:TI:=⟨.struct [(0,1,3),(1,1,3)],2,16,[.val (.int .i64 0),.val (.int .i64 0)]⟩
def wO:TI:=⟨.struct [(0,1,3),(1,1,3)],2,16,[.val (.int .i64 0),.val (.int .i64 0)]⟩
def wC:TI:=⟨.struct [(0,4,67),(4,1,3),(5,1,3)],6,48,[.val (.bool false),.val (.int .u64 0),.val (.int .u64 0),.val (.int .i64 0),.val (.int .i64 0),.val (.int .i64 0)]⟩
def wH:TI:=⟨.struct [(0,4,67),(4,1,3),(5,1,3)],6,48,[.val (.bool false),.val (.int .u64 0),.val (.int .u64 0),.val (.int .i64 0),.val (.int .i64 0),.val (.int .i64 0)]⟩
def xR:TI:=⟨.slice 9,1,24,[.nil 1]⟩
def vu:TI:=⟨.struct [(0,1,9),(1,1,22),(2,1,169)],3,64,[.val (.string Xbe),.nil 1,.nil 1]⟩
def xJ:TI:=⟨.struct [(0,1,9),(1,1,22),(2,1,169)],3,64,[.val (.string Xbe),.nil 1,.nil 1]⟩
def wn:TI:=⟨.struct [(0,1,4),(1,1,22)],2,32,[.val (.bool false),.nil 1]⟩
def wJ:TI:=⟨.struct [(0,1,4),(1,1,22)],2,32,[.val (.bool false),.nil 1]⟩
def wt:TI:=⟨.ptr,1,8,[.val (.pointer none)]⟩
def xI:TI:=⟨.struct [(0,1,71),(1,3,65),(4,1,25),(5,1,25),(6,1,25),(7,1,25)],8,144,[.nil 3,.val (.bool false),.val (.int .u64 0),.val (.int .u64 0),.nil 4,.nil 4,.nil 4,.nil 4]⟩
def xU:TI:=⟨.struct [(0,1,71),(1,3,65),(4,1,25),(5,1,25),(6,1,25),(7,1,25)],8,144,[.nil 3,.val (.bool false),.val (.int .u64 0),.val (.int .u64 0),.nil 4,.nil 4,.nil 4,.nil 4]⟩
def vg:TI:=⟨.map 3 60,1,8,[.val (.map none)]⟩
def wB:TI:=⟨.struct [(0,1,3),(1,1,3)],2,16,[.val (.int .i64 0),.val (.int .i64 0)]⟩
def wb:TI:=⟨.struct [(0,1,3),(1,1,3)],2,16,[.val (.int .i64 0),.val (.int .i64 0)]⟩
def wT:TI:=⟨.struct [(0,1,3),(1,1,3),(2,1,3)],3,24,[.val (.int .i64 0),.val (.int .i64 0),.val (.int .i64 0)]⟩
def ww:TI:=⟨.struct [(0,1,3),(1,1,3),(2,1,3)],3,24,[.val (.int .i64 0),.val (.int .i64 0),.val (.int .i64 0)]⟩
def wy:TI:=⟨.map 9 4,1,8,[.val (.map none)]⟩
def xP:TI:=⟨.fn,1,8,[.val .nilFunc]⟩
def xW:TI:=⟨.slice 25,1,24,[.nil 1]⟩
def xE:TI:=⟨.fn,1,8,[.val .nilFunc]⟩
def xM:TI:=⟨.fn,1,8,[.val .nilFunc]⟩
def wu:TI:=⟨.fn,1,8,[.val .nilFunc]⟩
def vt:TI:=⟨.map 3 3,1,8,[.val (.map none)]⟩
def wo:TI:=⟨.map 3 4,1,8,[.val (.map none)]⟩
def wI:TI:=⟨.fn,1,8,[.val .nilFunc]⟩
def vY:TI:=⟨.map 3 262,1,8,[.val (.map none)]⟩
def wP:TI:=⟨.ptr,1,8,[.val (.pointer none)]⟩
def wY:TI:=⟨.arr 5 3,5,40,[.val (.int .i64 0),.val (.int .i64 0),.val (.int .i64 0),.val (.int .i64 0),.val (.int .i64 0)]⟩
def w8:TI:=⟨.ptr,1,8,[.val (.pointer none)]⟩
def wh:TI:=⟨.fn,1,8,[.val .nilFunc]⟩
def wR:TI:=⟨.fn,1,8,[.val .nilFunc]⟩
def tt:TT:=(.node 81 xm (.node 48 xq (.node 32 yg (.node 25 zG (.node 9 ti9 (.node 4 ti4 (.node 3 ti3 .zS .zS) (.node 5 ti5 .zS .zS)) (.node 23 yj (.node 22 x9 .zS .zS) .zS)) (.node 29 yn (.node 27 yx (.node 26 yf .zS .zS) (.node 28 yM .zS .zS)) (.node 31 yA (.node 30 yp .zS .zS) .zS))) (.node 39 zD (.node 36 xj (.node 34 yk (.node 33 yU .zS .zS) (.node 35 yN .zS .zS)) (.node 38 zJ (.node 37 xu .zS .zS) .zS)) (.node 45 yE (.node 44 yK (.node 40 yX .zS .zS) .zS) (.node 47 yD (.node 46 zK .zS .zS) .zS)))) (.node 66 xy (.node 60 zL (.node 56 xn (.node 52 xg (.node 49 yw .zS .zS) (.node 55 yH .zS .zS)) (.node 58 yo (.node 57 xb .zS .zS) .zS)) (.node 63 xh (.node 62 yc (.node 61 xz .zS .zS) .zS) (.node 65 yQ (.node 64 xl .zS .zS) .zS))) (.node 73 xe (.node 70 xo (.node 68 yF (.node 67 x0 .zS .zS) (.node 69 x3 .zS .zS)) (.node 72 xX (.node 71 ya .zS .zS) .zS)) (.node 76 yL (.node 75 yh (.node 74 yq .zS .zS) .zS) (.node 80 yT (.node 77 xY .zS .zS) .zS))))) (.node 171 xJ (.node 142 w9 (.node 88 xk (.node 85 xt (.node 83 yI (.node 82 yV .zS .zS) (.node 84 yY .zS .zS)) (.node 87 zI (.node 86 xw .zS .zS) .zS)) (.node 104 wM (.node 94 yG (.node 93 xf .zS .zS) .zS) (.node 116 vb (.node 105 we .zS .zS) .zS))) (.node 164 ve (.node 153 wV (.node 145 wQ (.node 143 wc .zS .zS) (.node 152 xG .zS .zS)) (.node 159 vj (.node 158 xB .zS .zS) .zS)) (.node 168 wH (.node 167 wC (.node 165 wO .zS .zS) .zS) (.node 170 vu (.node 169 xR .zS .zS) .zS)))) (.node 227 xW (.node 205 wB (.node 185 xI (.node 176 wJ (.node 175 wn .zS .zS) (.node 184 wt .zS .zS)) (.node 203 vg (.node 186 xU .zS .zS) .zS)) (.node 208 ww (.node 207 wT (.node 206 wb .zS .zS) .zS) (.node 226 xP (.node 214 wy .zS .zS) .zS))) (.node 264 vY (.node 258 vt (.node 239 xM (.node 235 xE .zS .zS) (.node 241 wu .zS .zS)) (.node 262 wI (.node 261 wo .zS .zS) .zS)) (.node 312 w8 (.node 284 wY (.node 265 wP .zS .zS) .zS) (.node 343 wR (.node 340 wh .zS .zS) .zS))))))
def lL:xD Xcc tt:=Wy (by kernel_rfl)
end Go.AX.Q33
end
