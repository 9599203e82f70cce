/-
  Texts of one proof, packed.
-/
import Derived.Test.YtppcmaidcgimpaaGreatDoorS13
import Derived.Test.YtppcmaidcgimpaaGreatDoorS14
import Derived.Deep.Draws
import Derived.KernelRfl
import Derived.Shelf.SlIter.Nil
import Derived.Shelf.SlIterI.Nil
import Derived.Shelf.SlSortCmp.Insertion
import Derived.Shelf.Strings.SlTrimAscii
import Derived.Sort.AssemblyPlain
import Derived.Test.YtppcmaidcgimpaaGreatDoorProg
set_option linter.all false
set_option maxRecDepth 100000
set_option maxHeartbeats 4000000
open List renaming length_map→X6,length_append→X10,getElem?_eq_getElem→X14,length_drop→X16,length_take→X17,mem_cons_of_mem→X18,length_replicate→X19,length_set→X20
open Option.some renaming inj→X24
open Bool renaming and_eq_true→X26
open Option renaming bind→Xg
open List renaming range→Xb2
open Go renaming undef→Xbn,Program→Xcn,FuncId→Xcs
open Nat renaming blt→Xbv,ble→Xdl
open ByteArray renaming empty→Xa4
open Go.Proofs.Tryz renaming prog→Xai
open Array renaming range→Xc4
open Go.IntKind renaming i64→Xdk
section
namespace Go.AX
universe u
abbrev X:AV:=.dead
abbrev N:O OB:=none
def dd:Nat->I AV->I AV
 | 0,l=>l
 | n+1,l=>.dead::dd n l
def nn:Nat->I (O OB)->I (O OB)
 | 0,l=>l
 | n+1,l=>none::nn n l
structure Df where
 tm:List (Nat×AV)
 ob:List (Nat×Option OB)
def vN {α:Type}:I (Nat×α)->I α->(I α->Prop)->Prop
 | [],l,K=>K l
 | (i,a)::d,l,K=>La l i a λl=>vN d l K
def vL {α:Type}:I (Nat×α)->I α->I α
 | [],l=>l
 | (i,a)::d,l=>vL d (l.set i a)
def tR (B:pw)(d:Df):pw:=⟨vL d.tm B.tm,vL d.ob B.ob⟩
def sM (B:pw)(d:Df)(P:pw->Prop):Prop:=vN d.tm B.tm λtm=>vN d.ob B.ob λob=>P ⟨tm,ob⟩
def X2 {α:Type} :∀(d:I (Nat×α)) (l:I α) (K:I α->Prop),vN d l K↔K (vL d l)
 | [],_,_=>Iff.rfl
 | (i,a)::d,l,K=>by simp only[vN,vL,Eu];exact X2 d _ K
def E0 {B:pw}{d:Df}{P:pw->Prop}:sM B d P↔P (tR B d):=by unfold sM tR;rw[X2,X2]
inductive Pl:Type 1 where
 | z
 | g (p:Pl)
 | b (p q:Pl)
 | r (p:Pl)
 | l (p:Pl)
 | n (l:List Nat) (p:Pl)
 | x (i j:Nat)
 | i (fn:Func) (n:Nat) (p:Pl)
 | j (fn:Func) (n:Nat) (p:Pl)
 | m (p:Pl)
 | t (p:Pl)
 | e (p:Pl)
 | s (p:Pl)
 | v {α:Type} (f:α->Pl)
 | y (n m:Nat) (p:Pl)
 | c {τ:Type} (p:Pl) (St:τ->Df) (q:τ->Pl)
 | f {α σ:Type} (slot sz:Nat) (enc:α->D) (St:Nat->σ->Df) (q:σ->Nat->α->Pl)
 | o {α σ:Type} (slot e sz:Nat) (enc:α->D) (St:Nat->σ->Df) (q:σ->Nat->α->Pl)
 | w {σ:Type} (St:σ->Df) (q:σ->Pl)
abbrev Pl.k {τ:Type}(St:τ->Df):Pl:=.c .z St λ_=>.z
abbrev Pl.d {τ:Type}(St:τ->Df)(q:τ->Pl):Pl:=.c .z St q
abbrev Pl.a {τ:Type}(p:Pl)(St:τ->Df):Pl:=.c p St λ_=>.z
abbrev Pl.f0 {α σ:Type}(F sz:Nat)(enc:α->D)(St:Nat->σ->Df):Pl:=.f F sz enc St λ_ _ _=>.z
abbrev Pl.o0 {α σ:Type}(F e sz:Nat)(enc:α->D)(St:Nat->σ->Df):Pl:=.o F e sz enc St λ_ _ _=>.z
abbrev Pl.w0 {σ:Type}(St:σ->Df):Pl:=.w St λ_=>.z
class E (α:Type) where
 e:α->D
 z:Nat
instance:E Int:=⟨D.i,1⟩
instance:E S:=⟨D.u8,1⟩
instance:E j:=⟨D.u64,1⟩
instance:E C:=⟨D.b,1⟩
instance:E T:=⟨D.s,1⟩
instance:E Nat:=⟨D.fn,1⟩
instance {α:Type} [E α]:E (I α):=⟨D.l (E.z α) E.e,1⟩
abbrev ed {α:Type}[E α](a:α):AV:=.d (E.e a)
abbrev e2 {α F:Type}[E α][E F](r:α×F):AV:=.qT [.d (E.e r.1),.d (E.e r.2)]
abbrev e3 {α F H:Type}[E α][E F][E H](r:α×F×H):AV:=.qT [.d (E.e r.1),.d (E.e r.2.1),.d (E.e r.2.2)]
abbrev oN {α:Type}:α->I OB:=λ_=>[]
def u2 {α F:Type}{H:Sort u}(f:α->F->H):α×F->H|(a,b)=>f a b
def u3 {α F H:Type}{J:Sort u}(f:α->F->H->J):α×F×H->J|(a,b,c)=>f a b c
def u4 {α F H J:Type}{M:Sort u}(f:α->F->H->J->M):α×F×H×J->M|(a,b,c,d)=>f a b c d
def u5 {α F H J M:Type}{P:Sort u}(f:α->F->H->J->M->P):α×F×H×J×M->P|(a,b,c,d,e)=>f a b c d e
def u6 {α F H J M P:Type}{Q:Sort u}(f:α->F->H->J->M->P->Q):α×F×H×J×M×P->Q|(a,b,c,d,e,x)=>f a b c d e x
structure Wk (B:pw)(p:Pl)(A:Prop):Prop where
 h:A
def Q3 (A:Prop):Prop:=A
def Q4 (A:Prop):Prop:=A
def Q1 (A:Prop):Prop:=A
def Q2 (A:Prop):Prop:=A
def Q6 (A:Prop):Prop:=A
def Q5 (A:Prop):Prop:=A
def Q7 (A:Prop):Prop:=A
def q1 {A:Prop}(h:A):Q1 A:=h
def q2 {A:Prop}(h:A):Q2 A:=h
def q3 {A:Prop}(h:A):Q3 A:=h
def q4 {A:Prop}(h:A):Q4 A:=h
def q5 {A:Prop}(h:A):Q5 A:=h
def q7 {A:Prop}(h:A):Q7 A:=h
def q6 {A:Prop}(h:A):Q6 A:=h
section
variable {U U':pw} {p q:Pl} {α τ ρ σ:Type} {r:ρ} {np:Nat} {t:pw} {d:τ->Df} {k':τ->O ρ} {v0:τ} {b:C} {X Y:O ρ} {A B:Prop} {K:pw->Prop}
def Wk.v {f:α->Pl}(v:α)(h:Wk U (f v) A):Wk U (.v f) A:=⟨h.h⟩
def Wk.y {n m:Nat}(h:Wk ⟨dd n [],nn m []⟩ p A):Wk U (.y n m p) A:=⟨h.h⟩
def Wk.fin {F H:Type}{x y:F}{z w:H}{a:ρ}(h:some a=some r)(k:some a=some r->x=y/\z=w:=by intro h;cases h;exact⟨rfl,rfl⟩):Wk U p (x=y/\z=w):=⟨k h⟩
def Wk.r6 (h:k' v0=some r)(F:sM U' (d v0) (λs=>qG np t s):=by (conv=>whnf);exact wk):Wk U p (∃s,qG np t s/\∃v,k' v=some r/\s=tR U' (d v)):=⟨E6 (St:=λv=>tR U' (d v)) (E0.1 F) h⟩
def Wk.wF {n:σ->O ρ}{v:σ}{d:σ->Df}{F:pw->Prop}(h:n v=some r)(g :∀t v,sM U' (d v) (λs=>qG np t s)->n v=some r->F t)(H:sM U' (d v) (λs=>qG np t s)):Wk U p (F t):=⟨g _ _ H h⟩
def Wk.wG {n:σ->O ρ}{v:σ}{S:σ->pw}{F:pw->Prop}(h:n v=some r)(g :∀t v,qG np t (S v)->n v=some r->F t)(H:qG np t (S v)):Wk U p (F t):=⟨g _ _ H h⟩
def Wk.wB {St:τ->pw}(h:k' v0=some r)(F:qG np t (St v0):=by exact wk):Wk U p (∃s,qG np t s/\∃v,k' v=some r/\s=St v):=⟨E6 F h⟩
def Wk.xk {i j:Nat}(h:k' v0=some r)(F:sM U' (d v0) (λs=>qG np (GQ i j t) s):=by (conv=>whnf);exact wk)(H:Nat.ble np i=true:=by rfl)(J:Nat.ble np j=true:=by rfl)(M:(Nat.blt i t.ob.length&&Nat.blt j t.ob.length)=true:=by rfl) :
  Wk U (.x i j) (∃s,qG np t s/\∃v,k' v=some r/\s=tR U' (d v)):=⟨E6 (St:=λv=>tR U' (d v)) (.swap i j H J M (E0.1 F)) h⟩
def Wk.xu {i j:Nat}{St:τ->pw}(h:k' v0=some r)(F:qG np (GQ i j t) (St v0):=by exact wk)(H:Nat.ble np i=true:=by rfl)(J:Nat.ble np j=true:=by rfl)(M:(Nat.blt i t.ob.length&&Nat.blt j t.ob.length)=true:=by rfl) :
  Wk U (.x i j) (∃s,qG np t s/\∃v,k' v=some r/\s=St v):=⟨E6 (.swap i j H J M F) h⟩
def Wk.tG {i j:Nat}{n:σ->O ρ}{v:σ}{d:σ->Df}{F:pw->Prop}(h:n v=some r)(g :∀t v,sM U' (d v) (λs=>qG np t s)->n v=some r->F t)(H:sM U' (d v) (λs=>qG np (GQ i j t) s))(J:Xdl np i=true)(M:Xdl np j=true) (P:(Xbv i t.ob.length&&Xbv j t.ob.length)=true):Wk U (.x i j) (F t):=⟨g _ _ (E0.2 (.swap i j J M P (E0.1 H))) h⟩
def Wk.xo {i j:Nat}{n:σ->O ρ}{v:σ}{S:σ->pw}{F:pw->Prop}(h:n v=some r)(g :∀t v,qG np t (S v)->n v=some r->F t)(H:qG np (GQ i j t) (S v))(J:Xdl np i=true)(M:Xdl np j=true) (P:(Xbv i t.ob.length&&Xbv j t.ob.length)=true):Wk U (.x i j) (F t):=⟨g _ _ (.swap i j J M P H) h⟩
def Wk.cut {Z:(pw->Prop)->Prop}{m:(τ->O ρ)->O ρ}{k:τ->O ρ}{q:τ->Pl}(h:AB m k=some r) (F:Q4 (∀k':τ->O ρ,m k'=some r->Wk U p (Z (λt=>∃s,qG np t s/\∃v,k' v=some r/\s=tR U (d v))))) (H:Q6 (∀v,k v=some r->sM U (d v) λs=>Wk s (q v) (K s))):Wk U (.c p d q) (sh np Z K):=
 ⟨W9 (λv=>tR U (d v)) (λk e=>(F k e).h) (λv e=>(E0.1 (H v e)).h) h⟩
def Wk.g {Z:(pw->Prop)->Prop}(h:Wk U p (Z K)):Wk U (.g p) (sh np Z K):=⟨sh.go h.h⟩
def Wk.go {Z:(pw->Prop)->Prop}(h:Wk U p (Z K)):Wk U p (sh np Z K):=⟨sh.go h.h⟩
def Wk.qZ (h:(if b=true then X else Y)=some r)(F:X=some r->Wk U p A)(H:Y=some r->Wk U q B):Wk U (.b p q) (IR b A B):=⟨Oi (λh=>(F h).h) (λh=>(H h).h) h⟩
def Wk.wD (h:(if b=true then X else Y)=some r)(F:X=some r->Wk U .z A)(H:Y=some r->Wk U .z B):Wk U .z (IR b A B):=⟨Oi (λh=>(F h).h) (λh=>(H h).h) h⟩
def Wk.st {l:I α}{i:Nat}(h:i<l.length)(k:Wk U p A):Wk U (.t p) (IR (decide ((i:Int)<(l.length:Int))) A B):=⟨IB (NM h) k.h⟩
def Wk.se {l:I α}(k:Wk U p B):Wk U (.e p) (IR (decide ((l.length:Int)<(l.length:Int))) A B):=⟨ZU kL k.h⟩
def Wk.s (k:Wk U p A):Wk U (.s p) A:=⟨k.h⟩
def Wk.e0 (k:Wk U p A):Wk U (.e p) A:=⟨k.h⟩
def Wk.l (h:Wk U p A):Wk U (.l p) (A\/B):=⟨Or.inl h.h⟩
def Wk.inr (h:Wk U p B):Wk U (.r p) (A\/B):=⟨Or.inr h.h⟩
def Wk.inl (h:Wk U p A):Wk U p (A\/B):=⟨Or.inl h.h⟩
def Wk.dr {F:Array Oper}(k:Wk U p A)(h:rU F=true:=by kernel_rfl):Wk U p (E1 F=true/\A):=⟨xb h k.h⟩
def Wk.tr {F:Array Oper}(k:Wk U p A)(h:(rU F&&Ov F)=true:=by kernel_rfl):Wk U p ((E1 F=true/\Ov F=true)/\A):=⟨vh h k.h⟩
def Wk.cr {F:Array Oper}{e:List (List Nat×List Nat)}(k:Wk U p A)(h:rJ F e=true:=by kernel_rfl):Wk U p (EV F 0 e=true/\A):=⟨xc h k.h⟩
def Wk.len {x y:Nat}(k:Wk U p A)(h:x=y:=by exact IU):Wk U p (x=y/\A):=⟨h,k.h⟩
def Wk.ex {F:Type}{P:F->Prop}{x y:F}(e:x=y)(k:Wk U p (P y)):Wk U p (∃r,x=r/\P r):=⟨_,e,k.h⟩
def Wk.and (h:A)(k:Wk U p B):Wk U p (A/\B):=⟨h,k.h⟩
def Wk.for {body:(AE->pw->Prop)->pw->Prop}{K:AE->pw->Prop}{st:pw}{done:σ->O ρ}{P:(σ->O ρ)->α->Nat->σ->O ρ}{l:I α}{Q:σ}{F sz:Nat}{enc:α->D} {d:Nat->σ->Df} {q:σ->Nat->α->Pl} (h:AH done P l 0 Q=some r) (V:st.tm.getD F .dead=.d (.qY sz (l.map enc))) (Z:sM U (d 0 Q) λs=>qG np st s) (M:Q1 (∀(s:σ) (H:pw->Prop),done s=some r->sM U (d l.length s) λu=>Wk u (.e .z) (body (tS K H) u))) (J:Q2 (∀(s:σ) (next:σ->O ρ) (i:Nat) (x:α) (H:pw->Prop),i<l.length->(l.map enc).getD i default=enc x->Xdk.wrap ((i:Int)+1)=((i+1:Nat):Int)->P next x i s=some r-> (∀t v,sM U (d (i+1) v) (λs=>qG np t s)->next v=some r->H t)->sM U (d i s) λu=>Wk u (.t (q s i x)) (body (tS K H) u))):Wk U (.f F sz enc d q) (sl np body K st):=
 ⟨EF F sz enc V (λi s=>tR U (d i s)) (E0.1 Z) (λs H h=>(E0.1 (M s H h)).h) (λn i x s H h1 h2 h3 h4 h5=>(E0.1 (J s n i x H h1 h2 h3 h4 λt v w=>h5 t v (E0.1 w))).h) h⟩
def Wk.own {body:(AE->pw->Prop)->pw->Prop}{K:AE->pw->Prop}{st:pw}{done:σ->O ρ}{P:(σ->O ρ)->α->Nat->σ->O ρ}{l:I α}{Q:σ}{F e sz:Nat}{enc:α->D} {d:Nat->σ->Df} {q:σ->Nat->α->Pl} (h:AH done P l 0 Q=some r) (V:st.ob.getD F none=some (.row e sz (l.map enc) .no)) (Z:sM U (d 0 Q) λs=>qG np st s) (M:Q1 (∀(s:σ) (H:pw->Prop),done s=some r->sM U (d l.length s) λu=>Wk u (.e .z) (body (tS K H) u))) (J:Q2 (∀(s:σ) (next:σ->O ρ) (i:Nat) (x:α) (H:pw->Prop),i<l.length->(l.map enc).getD i default=enc x->Xdk.wrap ((i:Int)+1)=((i+1:Nat):Int)->P next x i s=some r-> (∀t v,sM U (d (i+1) v) (λs=>qG np t s)->next v=some r->H t)->sM U (d i s) λu=>Wk u (.t (q s i x)) (body (tS K H) u))):Wk U (.o F e sz enc d q) (sl np body K st):=
 ⟨OJ F e sz .no enc V (λi s=>tR U (d i s)) (E0.1 Z) (λs H h=>(E0.1 (M s H h)).h) (λn i x s H h1 h2 h3 h4 h5=>(E0.1 (J s n i x H h1 h2 h3 h4 λt v w=>h5 t v (E0.1 w))).h) h⟩
def Wk.xA {body:(AE->pw->Prop)->pw->Prop}{K:AE->pw->Prop}{st:pw}{J:(σ->O ρ)->σ->O ρ}{n:Nat}{M:σ}{d:σ->Df}{q:σ->Pl} (h:A3 J n M=some r) (P:sM U (d M) λs=>qG np st s) (F:Q5 (∀(s:σ) (next:σ->O ρ) (H:pw->Prop),J next s=some r->(∀t v,sM U (d v) (λs=>qG np t s)->next v=some r->H t)->sM U (d s) λu=>Wk u (q s) (body (tS K H) u))):Wk U (.w d q) (sl np body K st):=
 ⟨FI (λs=>tR U (d s)) (E0.1 P) (λn s H Q V=>(E0.1 (F s n H Q λt v w=>V t v (E0.1 w))).h) h⟩
variable {l m:I α} {f:α->D} {by' sz:Nat} {i i':Int} {kl:I α->O ρ} {ML:I D->Prop} {MD:D->Prop} {k:α->O ρ}
def Wk.rv [Decidable A]{k:Unit->O ρ}(h:Xg (rv A) k=some r)(n:Q3 (∀u,k u=some r->Wk U p B)):Wk U p (A/\B):=by obtain⟨u,g,h⟩:=Aa h;exact⟨FD g,(n u h).h⟩
def Wk.gb (h:Xg (iB l i) k=some r)(n:Q7 (∀v,iB l i=some v->k v=some r->Wk U p A)):Wk U p ((0<=i/\i<((l.map f).length:Int))/\A):=by obtain⟨v,g,h⟩:=Aa h;exact⟨ND g,(n v g h).h⟩
def Wk.gd {v:α}(g:iB l i=some v)(n:Wk U p (MD (f v))):Wk U p (∃x,(l.map f).getD i.toNat default=x/\MD x):=⟨_,Kw g,n.h⟩
def Wk.ib {i:Nat}(b:i<l.length)(n:Wk U p A):Wk U p ((0<=(i:Int)/\(i:Int)<((l.map f).length:Int))/\A):=⟨GO b,n.h⟩
def Wk.set {v:α}(h:Xg (rk l i v) kl=some r)(n:Q7 (∀F,F.length=l.length->kl F=some r->Wk U p (ML (F.map f)))):Wk U p (∃zs,(l.map f).set i.toNat (f v)=zs/\ML zs):=by obtain⟨v,g,h⟩:=Aa h;exact⟨_,gp g,(n v (XQ g) h).h⟩
def Wk.xv {F:Type}{o:O F}{z:F}{H:D}{f:F->D}{J:F->O ρ}(h:Xg (some (o.getD z)) J=some r)(n:Q3 (∀v,J v=some r->Wk U p (MD (f v))))(M:H=f z):Wk U p (∃v,(o.map f).getD H=v/\MD v):=by obtain⟨v,g,h⟩:=Aa h;exact⟨_,j5 M g,(n v h).h⟩
def Wk.xn {F:Type}{o:O F}{f:F->D}{H:C->O ρ}{J:C->Prop}(h:Xg (some o.isSome) H=some r)(n:Q3 (∀v,H v=some r->Wk U p (J v))):Wk U p (∃b,(o.map f).isSome=b/\J b):=by obtain⟨v,g,h⟩:=Aa h;exact⟨_,ki g,(n v h).h⟩
def Wk.ms {F H:Type}[BEq F]{tk:TK}{ek:F->D}{ev:H->D}{es:I (F×H)}{kd J:D}{x:F}{v:H}{P:I (D×D)->Prop}(e :∀a b,Db tk (ek a) (ek b)=some (a==b))(k:Wk U p (P (Bh ek ev (BJ es x v))))(M:kd=ek x)(Q:J=ev v):Wk U p (∃zs,Ek tk kd J (Bh ek ev es)=some zs/\P zs):=by subst M Q;exact⟨_,Ou e,k.h⟩
def Wk.wK {F:Type}{P:F->Prop}{x:O F}{y:F}(e:x=some y)(k:Wk U p (P y)):Wk U p (∃r,x=some r/\P r):=⟨_,e,k.h⟩
def Wk.wV (h:Xg (gH by' l m) kl=some r)(n:Q3 (∀v,kl v=some r->Wk U p (ML (v.map f)))):Wk U p ((((l.map f).length+(m.map f).length)*by'<=2^47/\(l.map f).length+(m.map f).length<=2^47)/\∃zs,l.map f++m.map f=zs/\ML zs):=⟨(Go.AX.vS (A:=True) h trivial λv e=>(n v e).h).2⟩
def Wk.uT (h:Xg (gH by' [] m) kl=some r)(n:Q3 (∀v,kl v=some r->Wk U p A)):Wk U p (((m.map f).length*by'<=2^47/\(m.map f).length<=2^47)/\A):=⟨Go.AX.uT h λv e=>(n v e).h⟩
def Wk.get (h:Xg (iB l i) k=some r)(n:Q3 (∀v,k v=some r->Wk U p (MD (f v))))(e :∀v,(f v).cells.length=sz):Wk U p ((0<=i/\i<((l.map f).length:Int))/\∃x,(l.map f).getD i.toNat default=x/\x.cells.length=sz/\MD x):=⟨I8 h e λv e=>(n v e).h⟩
def Wk.par (h:Xg (part l i i') kl=some r)(n:Q3 (∀v,kl v=some r->Wk U p (ML (v.map f)))):Wk U p ((0<=i/\i<=i'/\i'<=((l.map f).length:Int))/\∃ys,((l.map f).drop i.toNat).take (i'.toNat-i.toNat)=ys/\ML ys):=⟨pI h λv e=>(n v e).h⟩
def Wk.wy (h:Xg (part l i l.length) kl=some r)(n:Q3 (∀v,kl v=some r->Wk U p (ML (v.map f)))) : Wk U p ((0<=i/\i<=((l.map f).length:Int)/\((l.map f).length:Int)<=((l.map f).length:Int))/\∃ys,((l.map f).drop i.toNat).take (((l.map f).length:Int).toNat-i.toNat)=ys/\ML ys):=⟨pL h λv e=>(n v e).h⟩
def Wk.idx {i:Nat}{x:α}(b:i<l.length)(c:(l.map f).getD i default=f x)(n:Wk U p (MD (f x)))(e:(f x).cells.length=sz):Wk U p ((0<=(i:Int)/\(i:Int)<((l.map f).length:Int))/\∃x,(l.map f).getD (i:Int).toNat default=x/\x.cells.length=sz/\MD x):=⟨GO b,_,c,e,n.h⟩
def lV {α F:Type}{P:α×F->Prop}(h :∀a b,P (a,b)) :∀v,P v:=λ(a,b)=>h a b
def mI {α F H:Type}{P:α×F×H->Prop}(h :∀a b c,P (a,b,c)) :∀v,P v:=λ(a,b,c)=>h a b c
def lN {α F H J:Type}{P:α×F×H×J->Prop}(h :∀a b c d,P (a,b,c,d)) :∀v,P v:=λ(a,b,c,d)=>h a b c d
def lR {α F H J M:Type}{P:α×F×H×J×M->Prop}(h :∀a b c d e,P (a,b,c,d,e)) :∀v,P v:=λ(a,b,c,d,e)=>h a b c d e
def mV {α F H J M Q:Type}{P:α×F×H×J×M×Q->Prop}(h :∀a b c d e x,P (a,b,c,d,e,x)) :∀v,P v:=λ(a,b,c,d,e,x)=>h a b c d e x
end
end Go.AX
end
section
namespace Go.AX.Q25
open Go Go.AX Go.Proofs
def xi:TI:=⟨.int .i64,1,8,[.val (.int .i64 0)]⟩
def xr:TI:=⟨.bool,1,1,[.val (.bool false)]⟩
def xp:TI:=⟨.int .u8,1,1,[.val (.int .u8 0)]⟩
def xx:TI:=⟨.str,1,16,[.val (.string Xa4)]⟩
def o9:TI:=⟨.slice 32,1,24,[.nil 3]⟩
def pW:TI:=⟨.struct [(0,1,3),(1,1,9),(2,1,3),(3,1,3),(4,1,22)],5,64,[.val (.int .i64 0),.val (.string Xa4),.val (.int .i64 0),.val (.int .i64 0),.nil 3]⟩
def ou:TI:=⟨.struct [(0,1,3),(1,1,9),(2,1,3),(3,1,3),(4,1,22)],5,64,[.val (.int .i64 0),.val (.string Xa4),.val (.int .i64 0),.val (.int .i64 0),.nil 3]⟩
def pp:TI:=⟨.slice 71,1,24,[.nil 18]⟩
def pU:TI:=⟨.struct [(0,5,24),(5,1,4),(6,1,25),(7,1,3)],8,104,[.val (.int .i64 0),.val (.string Xa4),.val (.int .i64 0),.val (.int .i64 0),.nil 3,.val (.bool false),.nil 18,.val (.int .i64 0)]⟩
def pf:TI:=⟨.struct [(0,5,24),(5,1,4),(6,1,25),(7,1,3)],8,104,[.val (.int .i64 0),.val (.string Xa4),.val (.int .i64 0),.val (.int .i64 0),.nil 3,.val (.bool false),.nil 18,.val (.int .i64 0)]⟩
def pJ:TI:=⟨.slice 67,1,24,[.nil 4]⟩
def pY:TI:=⟨.slice 93,1,24,[.nil 2]⟩
def pd:TI:=⟨.int .u64,1,8,[.val (.int .u64 0)]⟩
def pA:TI:=⟨.struct [(0,1,4),(1,1,30),(2,1,30)],3,24,[.val (.bool false),.val (.int .u64 0),.val (.int .u64 0)]⟩
def pV:TI:=⟨.struct [(0,1,4),(1,1,30),(2,1,30)],3,24,[.val (.bool false),.val (.int .u64 0),.val (.int .u64 0)]⟩
def pO:TI:=⟨.slice 125,1,24,[.nil 2]⟩
def pX:TI:=⟨.slice 127,1,24,[.nil 3]⟩
def pK:TI:=⟨.slice 96,1,24,[.nil 3]⟩
def oi:TI:=⟨.struct [(0,1,3),(1,1,29),(2,3,32),(5,1,3),(6,1,3),(7,1,3),(8,1,33),(9,1,34),(10,1,35)],11,152,[.val (.int .i64 0),.nil 2,.val (.bool false),.val (.int .u64 0),.val (.int .u64 0),.val (.int .i64 0),.val (.int .i64 0),.val (.int .i64 0),.nil 2,.nil 3,.nil 3]⟩
def ov:TI:=⟨.struct [(0,1,3),(1,1,29),(2,3,32),(5,1,3),(6,1,3),(7,1,3),(8,1,33),(9,1,34),(10,1,35)],11,152,[.val (.int .i64 0),.nil 2,.val (.bool false),.val (.int .u64 0),.val (.int .u64 0),.val (.int .i64 0),.val (.int .i64 0),.val (.int .i64 0),.nil 2,.nil 3,.nil 3]⟩
def pq:TI:=⟨.struct [(0,1,28),(1,11,37),(12,1,28)],13,200,[.nil 4,.val (.int .i64 0),.nil 2,.val (.bool false),.val (.int .u64 0),.val (.int .u64 0),.val (.int .i64 0),.val (.int .i64 0),.val (.int .i64 0),.nil 2,.nil 3,.nil 3,.nil 4]⟩
def pn:TI:=⟨.struct [(0,1,28),(1,11,37),(12,1,28)],13,200,[.nil 4,.val (.int .i64 0),.nil 2,.val (.bool false),.val (.int .u64 0),.val (.int .u64 0),.val (.int .i64 0),.val (.int .i64 0),.val (.int .i64 0),.nil 2,.nil 3,.nil 3,.nil 4]⟩
def pQ:TI:=⟨.slice 3,1,24,[.nil 1]⟩
def pH:TI:=⟨.ptr,1,8,[.val (.pointer none)]⟩
def pt:TI:=⟨.slice 138,1,24,[.nil 2]⟩
def pC:TI:=⟨.slice 143,1,24,[.nil 3]⟩
def oq:TI:=⟨.slice 140,1,24,[.nil 6]⟩
def pe:TI:=⟨.struct [(0,1,47),(1,1,48)],2,48,[.nil 3,.nil 6]⟩
def oj:TI:=⟨.struct [(0,1,47),(1,1,48)],2,48,[.nil 3,.nil 6]⟩
def pu:TI:=⟨.struct [(0,1,3),(1,1,28),(2,1,3),(3,1,3),(4,1,3),(5,1,3),(6,1,3),(7,1,3),(8,1,28),(9,1,46),(10,1,40),(11,1,3),(12,2,50),(14,1,48)],15,232,[.val (.int .i64 0),.nil 4,.val (.int .i64 0),.val (.int .i64 0),.val (.int .i64 0),.val (.int .i64 0),.val (.int .i64 0),.val (.int .i64 0),.nil 4,.nil 2,.nil 1,.val (.int .i64 0),.nil 3,.nil 6,.nil 6]⟩
def og:TI:=⟨.struct [(0,1,3),(1,1,28),(2,1,3),(3,1,3),(4,1,3),(5,1,3),(6,1,3),(7,1,3),(8,1,28),(9,1,46),(10,1,40),(11,1,3),(12,2,50),(14,1,48)],15,232,[.val (.int .i64 0),.nil 4,.val (.int .i64 0),.val (.int .i64 0),.val (.int .i64 0),.val (.int .i64 0),.val (.int .i64 0),.val (.int .i64 0),.nil 4,.nil 2,.nil 1,.val (.int .i64 0),.nil 3,.nil 6,.nil 6]⟩
def ol:TI:=⟨.slice 27,1,24,[.nil 8]⟩
def pZ:TI:=⟨.slice 39,1,24,[.nil 13]⟩
def pG:TI:=⟨.int .i64,1,8,[.val (.int .i64 0)]⟩
def o6:TI:=⟨.struct [(0,3,32),(3,1,3)],4,32,[.val (.bool false),.val (.int .u64 0),.val (.int .u64 0),.val (.int .i64 0)]⟩
def o7:TI:=⟨.struct [(0,3,32),(3,1,3)],4,32,[.val (.bool false),.val (.int .u64 0),.val (.int .u64 0),.val (.int .i64 0)]⟩
def pE:TI:=⟨.struct [(0,4,67),(4,1,3),(5,11,37)],16,192,[.val (.bool false),.val (.int .u64 0),.val (.int .u64 0),.val (.int .i64 0),.val (.int .i64 0),.val (.int .i64 0),.nil 2,.val (.bool false),.val (.int .u64 0),.val (.int .u64 0),.val (.int .i64 0),.val (.int .i64 0),.val (.int .i64 0),.nil 2,.nil 3,.nil 3]⟩
def o8:TI:=⟨.struct [(0,4,67),(4,1,3),(5,11,37)],16,192,[.val (.bool false),.val (.int .u64 0),.val (.int .u64 0),.val (.int .i64 0),.val (.int .i64 0),.val (.int .i64 0),.nil 2,.val (.bool false),.val (.int .u64 0),.val (.int .u64 0),.val (.int .i64 0),.val (.int .i64 0),.val (.int .i64 0),.nil 2,.nil 3,.nil 3]⟩
def om:TI:=⟨.struct [(0,16,69),(16,1,3),(17,1,4)],18,208,[.val (.bool false),.val (.int .u64 0),.val (.int .u64 0),.val (.int .i64 0),.val (.int .i64 0),.val (.int .i64 0),.nil 2,.val (.bool false),.val (.int .u64 0),.val (.int .u64 0),.val (.int .i64 0),.val (.int .i64 0),.val (.int .i64 0),.nil 2,.nil 3,.nil 3,.val (.int .i64 0),.val (.bool false)]⟩
def pS:TI:=⟨.struct [(0,16,69),(16,1,3),(17,1,4)],18,208,[.val (.bool false),.val (.int .u64 0),.val (.int .u64 0),.val (.int .i64 0),.val (.int .i64 0),.val (.int .i64 0),.nil 2,.val (.bool false),.val (.int .u64 0),.val (.int .u64 0),.val (.int .i64 0),.val (.int .i64 0),.val (.int .i64 0),.nil 2,.nil 3,.nil 3,.val (.int .i64 0),.val (.bool false)]⟩
def oz:TI:=⟨.int .u64,1,8,[.val (.int .u64 0)]⟩
def pD:TI:=⟨.slice 40,1,24,[.nil 1]⟩
def pg:TI:=⟨.struct [(0,1,4),(1,1,40)],2,32,[.val (.bool false),.nil 1]⟩
def oe:TI:=⟨.struct [(0,1,4),(1,1,40)],2,32,[.val (.bool false),.nil 1]⟩
def pF:TI:=⟨.slice 5,1,24,[.nil 1]⟩
def pN:TI:=⟨.struct [(0,1,3),(1,1,3),(2,1,94)],3,40,[.val (.int .i64 0),.val (.int .i64 0),.nil 1]⟩
def o5:TI:=⟨.struct [(0,1,3),(1,1,3),(2,1,94)],3,40,[.val (.int .i64 0),.val (.int .i64 0),.nil 1]⟩
def pB:TI:=⟨.struct [(0,1,40),(1,1,3)],2,32,[.nil 1,.val (.int .i64 0)]⟩
def pP:TI:=⟨.struct [(0,1,40),(1,1,3)],2,32,[.nil 1,.val (.int .i64 0)]⟩
def m6:TI:=⟨.ptr,1,8,[.val (.pointer none)]⟩
def oR:TI:=⟨.fn,1,8,[.val .nilFunc]⟩
def nb:TI:=⟨.fn,1,8,[.val .nilFunc]⟩
def nV:TI:=⟨.struct [(0,1,3),(1,1,3)],2,16,[.val (.int .i64 0),.val (.int .i64 0)]⟩
def nK:TI:=⟨.struct [(0,1,3),(1,1,3)],2,16,[.val (.int .i64 0),.val (.int .i64 0)]⟩
def mf:TI:=⟨.struct [(0,1,3),(1,1,3),(2,1,3)],3,24,[.val (.int .i64 0),.val (.int .i64 0),.val (.int .i64 0)]⟩
def nY:TI:=⟨.struct [(0,1,3),(1,1,3),(2,1,3)],3,24,[.val (.int .i64 0),.val (.int .i64 0),.val (.int .i64 0)]⟩
def nq:TI:=⟨.fn,1,8,[.val .nilFunc]⟩
def oS:TI:=⟨.slice 25,1,24,[.nil 1]⟩
def nu:TI:=⟨.struct [(0,1,3),(1,1,3)],2,16,[.val (.int .i64 0),.val (.int .i64 0)]⟩
def nz:TI:=⟨.struct [(0,1,3),(1,1,3)],2,16,[.val (.int .i64 0),.val (.int .i64 0)]⟩
def nW:TI:=⟨.struct [(0,4,67),(4,1,3),(5,1,3)],6,48,[.val (.bool false),.val (.int .u64 0),.val (.int .u64 0),.val (.int .i64 0),.val (.int .i64 0),.val (.int .i64 0)]⟩
def nN:TI:=⟨.struct [(0,4,67),(4,1,3),(5,1,3)],6,48,[.val (.bool false),.val (.int .u64 0),.val (.int .u64 0),.val (.int .i64 0),.val (.int .i64 0),.val (.int .i64 0)]⟩
def mq:TI:=⟨.slice 9,1,24,[.nil 1]⟩
def oD:TI:=⟨.struct [(0,1,9),(1,1,40),(2,1,141)],3,64,[.val (.string Xa4),.nil 1,.nil 1]⟩
def nR:TI:=⟨.struct [(0,1,9),(1,1,40),(2,1,141)],3,64,[.val (.string Xa4),.nil 1,.nil 1]⟩
def mi:TI:=⟨.fn,1,8,[.val .nilFunc]⟩
def nQ:TI:=⟨.fn,1,8,[.val .nilFunc]⟩
def nL:TI:=⟨.fn,1,8,[.val .nilFunc]⟩
def ml:TI:=⟨.fn,1,8,[.val .nilFunc]⟩
def m7:TI:=⟨.arr 2 3,2,16,[.val (.int .i64 0),.val (.int .i64 0)]⟩
def oM:TI:=⟨.fn,1,8,[.val .nilFunc]⟩
def oZ:TI:=⟨.map 9 4,1,8,[.val (.map none)]⟩
def nr:TI:=⟨.ptr,1,8,[.val (.pointer none)]⟩
def nJ:TI:=⟨.struct [(0,15,52),(15,5,24),(20,16,69),(36,1,40),(37,1,3),(38,1,4)],39,528,[.val (.int .i64 0),.nil 4,.val (.int .i64 0),.val (.int .i64 0),.val (.int .i64 0),.val (.int .i64 0),.val (.int .i64 0),.val (.int .i64 0),.nil 4,.nil 2,.nil 1,.val (.int .i64 0),.nil 3,.nil 6,.nil 6,.val (.int .i64 0),.val (.string Xa4),.val (.int .i64 0),.val (.int .i64 0),.nil 3,.val (.bool false),.val (.int .u64 0),.val (.int .u64 0),.val (.int .i64 0),.val (.int .i64 0),.val (.int .i64 0),.nil 2,.val (.bool false),.val (.int .u64 0),.val (.int .u64 0),.val (.int .i64 0),.val (.int .i64 0),.val (.int .i64 0),.nil 2,.nil 3,.nil 3,.nil 1,.val (.int .i64 0),.val (.bool false)]⟩
def nF:TI:=⟨.struct [(0,15,52),(15,5,24),(20,16,69),(36,1,40),(37,1,3),(38,1,4)],39,528,[.val (.int .i64 0),.nil 4,.val (.int .i64 0),.val (.int .i64 0),.val (.int .i64 0),.val (.int .i64 0),.val (.int .i64 0),.val (.int .i64 0),.nil 4,.nil 2,.nil 1,.val (.int .i64 0),.nil 3,.nil 6,.nil 6,.val (.int .i64 0),.val (.string Xa4),.val (.int .i64 0),.val (.int .i64 0),.nil 3,.val (.bool false),.val (.int .u64 0),.val (.int .u64 0),.val (.int .i64 0),.val (.int .i64 0),.val (.int .i64 0),.nil 2,.val (.bool false),.val (.int .u64 0),.val (.int .u64 0),.val (.int .i64 0),.val (.int .i64 0),.val (.int .i64 0),.nil 2,.nil 3,.nil 3,.nil 1,.val (.int .i64 0),.val (.bool false)]⟩
def oO:TI:=⟨.slice 226,1,24,[.nil 2]⟩
def nk:TI:=⟨.fn,1,8,[.val .nilFunc]⟩
def mr:TI:=⟨.struct [(0,1,3),(1,1,224)],2,16,[.val (.int .i64 0),.val .nilFunc]⟩
def oY:TI:=⟨.struct [(0,1,3),(1,1,224)],2,16,[.val (.int .i64 0),.val .nilFunc]⟩
def oc:TI:=⟨.fn,1,8,[.val .nilFunc]⟩
def nZ:TI:=⟨.fn,1,8,[.val .nilFunc]⟩
def nc:TI:=⟨.fn,1,8,[.val .nilFunc]⟩
def oC:TI:=⟨.map 3 94,1,8,[.val (.map none)]⟩
def m3:TI:=⟨.fn,1,8,[.val .nilFunc]⟩
def ni:TI:=⟨.fn,1,8,[.val .nilFunc]⟩
def ma:TI:=⟨.fn,1,8,[.val .nilFunc]⟩
def mb:TI:=⟨.fn,1,8,[.val .nilFunc]⟩
def oL:TI:=⟨.fn,1,8,[.val .nilFunc]⟩
def mc:TI:=⟨.fn,1,8,[.val .nilFunc]⟩
def mz:TI:=⟨.map 3 3,1,8,[.val (.map none)]⟩
def oQ:TI:=⟨.fn,1,8,[.val .nilFunc]⟩
def ny:TI:=⟨.fn,1,8,[.val .nilFunc]⟩
def nE:TI:=⟨.arr 5 3,5,40,[.val (.int .i64 0),.val (.int .i64 0),.val (.int .i64 0),.val (.int .i64 0),.val (.int .i64 0)]⟩
def mw:TI:=⟨.map 9 143,1,8,[.val (.map none)]⟩
def nj:TI:=⟨.map 3 4,1,8,[.val (.map none)]⟩
def oW:TI:=⟨.fn,1,8,[.val .nilFunc]⟩
def nt:TI:=⟨.fn,1,8,[.val .nilFunc]⟩
def oJ:TI:=⟨.fn,1,8,[.val .nilFunc]⟩
def mh:TI:=⟨.fn,1,8,[.val .nilFunc]⟩
def tt:TT:=(.node 103 m6 (.node 46 pt (.node 30 pd (.node 24 ou (.node 9 xx (.node 4 xr (.node 3 xi .qJ .qJ) (.node 5 xp .qJ .qJ)) (.node 23 pW (.node 22 o9 .qJ .qJ) .qJ)) (.node 27 pf (.node 26 pU (.node 25 pp .qJ .qJ) .qJ) (.node 29 pY (.node 28 pJ .qJ .qJ) .qJ))) (.node 36 oi (.node 33 pO (.node 32 pV (.node 31 pA .qJ .qJ) .qJ) (.node 35 pK (.node 34 pX .qJ .qJ) .qJ)) (.node 39 pn (.node 38 pq (.node 37 ov .qJ .qJ) .qJ) (.node 44 pH (.node 40 pQ .qJ .qJ) .qJ)))) (.node 69 o8 (.node 56 ol (.node 50 oj (.node 48 oq (.node 47 pC .qJ .qJ) (.node 49 pe .qJ .qJ)) (.node 52 og (.node 51 pu .qJ .qJ) .qJ)) (.node 66 o6 (.node 59 pG (.node 58 pZ .qJ .qJ) .qJ) (.node 68 pE (.node 67 o7 .qJ .qJ) .qJ))) (.node 93 oe (.node 86 oz (.node 71 pS (.node 70 om .qJ .qJ) .qJ) (.node 92 pg (.node 89 pD .qJ .qJ) .qJ)) (.node 96 o5 (.node 95 pN (.node 94 pF .qJ .qJ) .qJ) (.node 98 pP (.node 97 pB .qJ .qJ) .qJ))))) (.node 221 nF (.node 141 mq (.node 132 nq (.node 125 nK (.node 118 nb (.node 113 oR .qJ .qJ) (.node 124 nV .qJ .qJ)) (.node 127 nY (.node 126 mf .qJ .qJ) .qJ)) (.node 138 nz (.node 137 nu (.node 133 oS .qJ .qJ) .qJ) (.node 140 nN (.node 139 nW .qJ .qJ) .qJ))) (.node 159 ml (.node 149 mi (.node 143 nR (.node 142 oD .qJ .qJ) .qJ) (.node 153 nL (.node 151 nQ .qJ .qJ) .qJ)) (.node 212 oZ (.node 171 oM (.node 167 m7 .qJ .qJ) .qJ) (.node 220 nJ (.node 218 nr .qJ .qJ) .qJ)))) (.node 271 oL (.node 232 nc (.node 226 oY (.node 224 nk (.node 222 oO .qJ .qJ) (.node 225 mr .qJ .qJ)) (.node 230 nZ (.node 227 oc .qJ .qJ) .qJ)) (.node 253 ni (.node 251 m3 (.node 234 oC .qJ .qJ) .qJ) (.node 266 mb (.node 264 ma .qJ .qJ) .qJ))) (.node 320 mw (.node 292 oQ (.node 283 mz (.node 274 mc .qJ .qJ) .qJ) (.node 318 nE (.node 301 ny .qJ .qJ) .qJ)) (.node 324 nt (.node 323 oW (.node 321 nj .qJ .qJ) .qJ) (.node 328 mh (.node 327 oJ .qJ .qJ) .qJ))))))
def dt:py Xai tt:=U3 (by kernel_rfl)
end Go.AX.Q25
end
section
namespace Go.AX
section
variable {P:Program} {E:Env} {w w':B} {S:Sc} {φ:Nat->O (Nat×Rp)} {ob:Nat->O OB}
structure Grown (wl:Prop)(w w':World):Prop where
 hp :∀b,b<w.heap.size->w'.heap[b]?=w.heap[b]?
 sz:w.heap.size<=w'.heap.size
 os:w'.os=w.os
 out:w'.output=w.output
 tape:w'.tape=w.tape
 dr:wl\/w.drawn<=w'.drawn
def Grown.refl (wl:Prop)(w:B):Grown wl w w:=⟨λ_ _=>rfl,Xa2 _,rfl,rfl,rfl,.inr (Xa2 _)⟩
def Grown.trans {wl:Prop}{a b c:B}(h:Grown wl a b)(k:Grown wl b c):Grown wl a c:=
 ⟨λn F=>(k.hp n (Xaj F h.sz)).trans (h.hp n F),Xak h.sz k.sz,k.os.trans h.os,k.out.trans h.out,k.tape.trans h.tape,h.dr.elim .inl λx=>k.dr.imp_right λy=>Xak x y⟩
def Grown.alloc {wl:Prop}(w:B)(o:Obj):Grown wl w (w.alloc o):=⟨λb F=>Dv w o F,by simp,rfl,rfl,rfl,.inr (Xa2 _)⟩
def Grown.drewN {wl:Prop}(w:B)(n:Nat):Grown wl w (w.drewN n):=⟨λ_ _=>rfl,Xa2 _,rfl,rfl,rfl,.inr (Nat.le_add_right _ _)⟩
def Mem.grow (m:Mem E w S φ ob)(h:Grown E.wl.wl w w'):Mem E w' S φ ob/\Kept w S φ ob w' S φ ob:=
 m.grown h.hp h.sz ⟨h.os,h.out,h.tape,h.dr⟩
end
def jX (P : Xcn)(f : Xcs) : Prop := ∃ fn, P.funcs[f]? = some fn ∧ fn.name ≠ "runtime.NumGoroutine" ∧ fn.body.isSome = true
def jj {P : Xcn}{f : Xcs}{fn : Func}(h : P.funcs[f]? = some fn)(F : (fn.name == "runtime.NumGoroutine") = false)(H : fn.body.isSome = true) : jX P f := ⟨fn, h, by simpa using F, H⟩
def eM {wl:WL}{P:Xcn}{f:Xcs}{args:I AV}{gD:I OB}{H:AV}(M:jX P f)(J:gN (qt gD) H) (h :∀(w:B) (S:Sc) (φ:Nat->O (Nat×Rp)) (gb:Nat->Prop) (hg:rQ wl gb (IT φ gD.length) S w) (F:Array A),F.size=args.length->(∀i (K:i<args.length),gM S w φ (qt gD) args[i] (F.getD i Xbn))-> Mem ⟨w,S,IT φ gD.length,wl,gb,hg⟩ w S φ (qt gD)->Calls P f F w λe w'=>∃v,e=.returned v/\Grown wl.wl w w'/\gM S w' φ (qt gD) H v):A0 wl P f args gD H gD:=by refine⟨M,λw S φ gb hg F Q U hn m=>(h w S φ gb hg F Q (λi K=>(U i K).1) m).mono λe w' V=>?_⟩;obtain⟨v,rfl,hg,Y⟩:=V;obtain⟨Z,k'⟩:=m.grow hg;exact⟨v,rfl,S,φ,Z,k',Y,J⟩
end Go.AX
end
section
namespace Go.AX
open Go.Proofs
def Zl (s cut:T):O T:=
 if s.size<=9223372036854775807/\2<=cut.size/\cut.size<4294967281/\cut.data.toList.all (λb=>decide (b.toNat<128))=true then some ⟨(Lib.trimS s.data.toList cut.data.toList).toArray⟩ else none
def iC {wl:WL}{P:Xcn}{ρ:Go.Shelf.Ren}(L:Lays.n160 P ρ)(V:jX P (ρ.f 160))(F:(P.info? (ρ.t 116)).map (λi=>(i.zero,i.size))=some (some (.agg (Array.replicate 256 (.bool false))),256)) {s cut r:T} (h:Zl s cut=some r):A0 wl P (ρ.f 160) [.d (D.s s),.d (D.s cut)] [] (.d (D.s r)) []:=by
 unfold Zl at h;split at h
 ·rename_i Y;obtain⟨Z,h2,h3,h4⟩:=Y;obtain rfl:=X24 h;refine eM V (A5 _ _) λw S φ gb hg H hs J m=>?_;have K:=(J 0 (by simp)).str;have M:=(J 1 (by simp)).str;have hv:H=#[.string s,.string cut]:=by
   match H,hs with
   | ⟨[a,b]⟩,_=>simp at K M;rw[K,M]
  rw[hv];by_cases Q:s.size=0
  ·refine (Any.strings_Trim_empty L s cut w (.inl Q)).mono λe w' ⟨he,hw⟩=>⟨_,he,hw▸.refl wl.wl w,?_⟩;have U:s.data.toList=[]:=Xa7 (by rw[<- Lib.size_eq];exact Q);have:(⟨(Lib.trimS s.data.toList cut.data.toList).toArray⟩:T)=s:=by
    rw[U];conv=>rhs;rw[<- Lib.mk_data s,U]
    rfl
   rw[this];exact .d _ _ (.val _ rfl)
  refine (Any.strings_Trim_set L (zero_of_info F).1 (zero_of_info F).2 s cut w h2 (by omega) Z h3 (ascii_of_all h4)).mono λe w' ⟨he,q,hw⟩=>⟨_,he,?_,.d _ _ (.val _ rfl)⟩;rw[hw];exact ((Grown.alloc w _).trans (.alloc _ _)).trans (.drewN _ q)
 simp at h
end Go.AX
end
section
namespace Go.AX
open Go.Proofs Go.Maps Go.Sort Go.Shelf Go.RowKit
end Go.AX
end
section
namespace Go.AX
open Go.Sort
def s7 {X:Type}(cmp:X->X->O Int)(a b:X):C:=match cmp a b with
 | some r=>decide (r<0)
 | none=>false
def Ur {X:Type}(cmp:X->X->O Int)(l:I X):C:=
 (l.all λa=>l.all λb=>(cmp a b).isSome)&&(l.all λa=>!s7 cmp a a) &&
 (l.all λa=>l.all λb=>l.all λc=>!(s7 cmp a b) || !(s7 cmp b c) || s7 cmp a c) &&
 (l.all λa=>l.all λb=>l.all λc=>s7 cmp a b || s7 cmp b c || !(s7 cmp a c))&&decide (l.length<=1000000000)
def ua {X:Type}(l:I X)(i:Nat):O X:=l[min i (l.length-1)]?
def tP {X:Type}(cmp:X->X->O Int)(l:I X)(i j:Nat):Int:=match ua l i,ua l j with
 | some a,some b=>(cmp a b).getD 0
 | _,_=>0
def Gf {X:Type}(cmp:X->X->O Int)(l:I X):Array Nat:=Sort.pdq (Proofs.ltOf (tP cmp l)) (Xc4 l.length) 0 l.length (Lib.bitLen l.length) true true
def GM {X:Type}(cmp:X->X->O Int)(l:I X):O (I X):=match Ur cmp l with
 | true=>some ((Gf cmp l).toList.filterMap λi=>l[i]?)
 | false=>none
section
variable {X:Type} {cmp:X->X->O Int} {l:I X}
def Jt (h:0<l.length)(i:Nat) :∃x∈l,ua l i=some x:=by
 have F:min i (l.length-1)<l.length:=by omega
 exact⟨l[min i (l.length-1)],Wu F,by unfold ua;exact X14 F⟩
def PM (h:Ur cmp l=true):(∀a∈l,∀b∈l,∃r,cmp a b=some r)/\(∀a∈l,s7 cmp a a=false)/\ (∀a∈l,∀b∈l,∀c∈l,s7 cmp a b=true->s7 cmp b c=true->s7 cmp a c=true)/\(∀a∈l,∀b∈l,∀c∈l,s7 cmp a b=false->s7 cmp b c=false->s7 cmp a c=false)/\l.length<=1000000000:=by
 simp only[Ur,X26,Xm,Xh] at h;obtain⟨⟨⟨⟨P,Q⟩,U⟩,V⟩,Y⟩:=h;refine⟨λa F b H=>Option.isSome_iff_exists.1 (P a F b H),λa F=>by simpa using Q a F,λa F b H c J K M=>?_,λa F b H c J K M=>?_,Y⟩
 ·have:=U a F b H c J;simpa[K,M] using this
 have:=V a F b H c J;simpa[K,M] using this
def Zf (K :∀a∈l,∀b∈l,∃r,cmp a b=some r)(M :∀a∈l,s7 cmp a a=false) (P :∀a∈l,∀b∈l,∀c∈l,s7 cmp a b=true->s7 cmp b c=true->s7 cmp a c=true) (Q :∀a∈l,∀b∈l,∀c∈l,s7 cmp a b=false->s7 cmp b c=false->s7 cmp a c=false) (U:l.length<=1000000000):Ur cmp l=true:=by
 simp only[Ur,X26,Xm,Xh];refine⟨⟨⟨⟨λa F b H=>Option.isSome_iff_exists.2 (K a F b H),λa F=>by simp[M a F]⟩,λa F b H c J=>?_⟩,λa F b H c J=>?_⟩,U⟩
 ·cases g1:s7 cmp a b
  ·simp
  cases g2:s7 cmp b c
  ·simp
  simp[P a F b H c J g1 g2]
 cases g1:s7 cmp a b
 ·cases g2:s7 cmp b c
  ·simp[Q a F b H c J g1 g2]
  simp
 simp
def HB (i j:Nat)(a b:X)(F:ua l i=some a)(H:ua l j=some b):Proofs.ltOf (tP cmp l) i j=s7 cmp a b:=by unfold Proofs.ltOf tP s7;rw[F,H];cases h:cmp a b<;>simp[h]
def Y0 (h:Ur cmp l=true)(H:0<l.length):SWO (Proofs.ltOf (tP cmp l)):=by
 obtain⟨_,U,V,Y,_⟩:=PM h;refine⟨λx=>?_,λx y z=>?_,λx y z=>?_⟩
 ·obtain⟨a,J,F⟩:=Jt H x;rw[HB x x a a F F];exact U a J
 ·obtain⟨a,J,F⟩:=Jt H x;obtain⟨b,P,K⟩:=Jt H y;obtain⟨c,Q,M⟩:=Jt H z;rw[HB _ _ _ _ F K,HB _ _ _ _ K M,HB _ _ _ _ F M];exact V a J b P c Q
 obtain⟨a,J,F⟩:=Jt H x;obtain⟨b,P,K⟩:=Jt H y;obtain⟨c,Q,M⟩:=Jt H z;rw[HB _ _ _ _ F K,HB _ _ _ _ K M,HB _ _ _ _ F M];exact Y a J b P c Q
def Om (h:Ur cmp l=true)(K:0<l.length):(Gf cmp l).size=l.length/\(Gf cmp l).toList.Perm (Xb2 l.length)/\∀i j,i<j->j<l.length->Proofs.ltOf (tP cmp l) (Gf cmp l)[j]! (Gf cmp l)[i]! = false:=by
 obtain⟨⟨H,_,M⟩,P⟩:=pdq_sorts (Proofs.ltOf (tP cmp l)) (Y0 h K) (Xc4 l.length) 0 l.length (Lib.bitLen l.length) true true (Xco _) (by simp) (Or.inl rfl);have H:(Gf cmp l).size=l.length:=by simpa[Gf] using H
 refine⟨H,?_,λi j J Q=>P i j (Xco _) J Q⟩;have e1:((Gf cmp l).extract 0 l.length)=Gf cmp l:=by rw[<- H];exact Array.extract_size
 have e2:((Xc4 l.length).extract 0 l.length)=Xc4 l.length:=by
  have:(Xc4 l.length).size=l.length:=by simp
  conv=>lhs;arg 3;rw[<- this]
  exact Array.extract_size
 have F:((Gf cmp l).extract 0 l.length).toList.Perm ((Xc4 l.length).extract 0 l.length).toList:=M;rw[e1,e2] at F;simpa using F
def QI (l:I X):(Xb2 l.length).filterMap (λi=>l[i]?)=l:=by
 have :∀(n:Nat),n<=l.length->(Xb2 n).filterMap (λi=>l[i]?)=l.take n:=by
  intro n;induction n with
  | zero=>intro _;simp
  | succ n H=>
   intro J;have F:n<l.length:=by omega
   rw[List.range_succ,List.filterMap_append,H (by omega),Xc1];simp[X14 F]
 rw[this _ (Xa2 _),Xcj]
def Ue {r:I X}(h:GM cmp l=some r)(Z:0<l.length):r.length=l.length/\∀i,i<l.length->(Gf cmp l)[i]!<l.length/\r[i]?=l[(Gf cmp l)[i]!]?:=by
 unfold GM at h;split at h
 ·rename_i hs;obtain⟨Q,h2,h3⟩:=Om hs Z;obtain rfl:=X24 h;have U :∀i∈(Gf cmp l).toList,i<l.length:=λi H=>by simpa using h2.mem_iff.1 H
  have key :∀(q:I Nat),(∀i∈q,i<l.length)->(q.filterMap λi=>l[i]?).length=q.length/\∀j (K:j<q.length),(q.filterMap λi=>l[i]?)[j]?=l[q[j]]?:=by
   intro q;induction q with
   | nil=>intro _;exact⟨rfl,λj K=>by simp at K⟩
   | cons x q ih=>
    intro V;obtain⟨M,P⟩:=ih λi H=>V i (X18 _ H);have Y:=V x (Xc6 ..);have e:(x::q).filterMap (λi=>l[i]?)=l[x]::q.filterMap λi=>l[i]?:=by rw[List.filterMap_cons,X14 Y]
    rw[e];refine⟨by simp[M],λj K=>?_⟩;cases j with
    | zero=>simp[X14 Y]
    | succ j=>simpa using P j (by simpa using K)
  obtain⟨M,P⟩:=key (Gf cmp l).toList U;refine⟨by rw[M];simpa using Q,λi H=>?_⟩;have F:i<(Gf cmp l).toList.length:=by simpa[Q] using H
  have J:(Gf cmp l)[i]! = (Gf cmp l).toList[i]:=by rw[getElem!_pos _ i (by simpa using F)];simp
  rw[J];exact⟨U _ (Wu F),P i F⟩
 simp at h
def J3 {r:I X}(h:GM cmp l=some r):r.Perm l/\r.Pairwise λa b=>s7 cmp b a=false:=by
 by_cases M:0<l.length
 ·have h0:=h;obtain⟨P,F⟩:=Ue h M;unfold GM at h;split at h
  ·rename_i V;obtain⟨h1,Y,Z⟩:=Om V M;obtain rfl:=X24 h;refine⟨?_,?_⟩
   ·have:=Y.filterMap λi=>l[i]?;rwa [QI] at this
   rw[List.pairwise_iff_getElem];intro i j hi hj J;have K:i<l.length:=by omega
   have H:j<l.length:=by omega
   obtain⟨Q,U⟩:=F i K;obtain⟨q1,q2⟩:=F j H;rw[X14 hi,X14 Q] at U;rw[X14 hj,X14 q1] at q2;have:=Z i j J H;rw[HB (cmp:=cmp) (l:=l) _ _ _ _ (by unfold ua;rw[Xda (by omega)];exact X14 q1) (by unfold ua;rw[Xda (by omega)];exact X14 Q)] at this;rw[X24 U,X24 q2];exact this
  simp at h
 have:l=[]:=Xa7 (by omega);subst this;unfold GM at h;split at h
 ·obtain rfl:=X24 h;have:(Gf cmp ([]:I X)).toList.filterMap (λi=>([]:I X)[i]?)=[]:=by simp
  rw[this];exact⟨.refl _,.nil⟩
 simp at h
def Ls {r:I X}(h:GM cmp l=some r):r.length=l.length:=(J3 h).1.length_eq
def Sv (h:Ur cmp l=true) :∃r,GM cmp l=some r:=by unfold GM;rw[h];exact⟨_,rfl⟩
end
end Go.AX
end
