/-
  Texts of one proof, packed.
-/
import Derived.Test.YtppcmaidcgimpaaGreatDoorU13
import Derived.Test.YtppcmaidcgimpaaGreatDoorU14
import Derived.Deep.Draws
import Derived.KernelRfl
import Derived.Shelf.SlIterI.Nil
import Derived.Shelf.Strings.SlTrimAscii
import Derived.Test.YtppcmaidcgimpaaGreatDoorProg
set_option linter.all false
set_option maxRecDepth 100000
set_option maxHeartbeats 4000000
open List renaming length_map→X10,length_append→X11,mem_singleton→X14,getElem?_eq_getElem→X15,length_drop→X17,length_take→X18,length_replicate→X20,length_set→X21
open Option.some renaming injEq→X24,inj→X25
open Prod.mk renaming injEq→X26
open Option renaming bind→Wb
open List renaming map→Xa1
open Go renaming maxLen→Xb3,undef→Xck,Program→Xcv,FuncId→Xdm
open Go.Proofs.Tryz renaming prog→Xa9
open Nat renaming blt→Xcf,ble→Xee
open ByteArray renaming empty→Xac
open Go.WideElems renaming rg→Xd6
open Go.WideShapes renaming sorted_perm→Xdo
open Go.IntKind renaming i64→Xdt,signed→Xec
open Go.Shelf renaming Ren→Xe9
open Go.Fence renaming wide→Xef
section
namespace Go.AX
universe u
abbrev X:AV:=.dead
abbrev N:O OB:=none
def dd:Nat->I AV->I AV
 | 0,l=>l
 | n+1,l=>.dead::dd n l
def nn:Nat->I (O OB)->I (O OB)
 | 0,l=>l
 | n+1,l=>none::nn n l
structure Df where
 tm:List (Nat×AV)
 ob:List (Nat×Option OB)
def Hp {α:Type}:I (Nat×α)->I α->(I α->Prop)->Prop
 | [],l,K=>K l
 | (i,a)::d,l,K=>OI l i a λl=>Hp d l K
def H0 {α:Type}:I (Nat×α)->I α->I α
 | [],l=>l
 | (i,a)::d,l=>H0 d (l.set i a)
def zV (B:sI)(d:Df):sI:=⟨H0 d.tm B.tm,H0 d.ob B.ob⟩
def yA (B:sI)(d:Df)(P:sI->Prop):Prop:=Hp d.tm B.tm λtm=>Hp d.ob B.ob λob=>P ⟨tm,ob⟩
def bY {α:Type} :∀(d:I (Nat×α)) (l:I α) (K:I α->Prop),Hp d l K↔K (H0 d l)
 | [],_,_=>Iff.rfl
 | (i,a)::d,l,K=>by simp only[Hp,H0,Ge];exact bY d _ K
def Gi {B:sI}{d:Df}{P:sI->Prop}:yA B d P↔P (zV B d):=by unfold yA zV;rw[bY,bY]
inductive Pl:Type 1 where
 | z
 | g (p:Pl)
 | b (p q:Pl)
 | r (p:Pl)
 | l (p:Pl)
 | n (l:List Nat) (p:Pl)
 | x (i j:Nat)
 | i (fn:Func) (n:Nat) (p:Pl)
 | j (fn:Func) (n:Nat) (p:Pl)
 | m (p:Pl)
 | t (p:Pl)
 | e (p:Pl)
 | s (p:Pl)
 | v {α:Type} (f:α->Pl)
 | y (n m:Nat) (p:Pl)
 | c {τ:Type} (p:Pl) (St:τ->Df) (q:τ->Pl)
 | f {α σ:Type} (slot sz:Nat) (enc:α->D) (St:Nat->σ->Df) (q:σ->Nat->α->Pl)
 | o {α σ:Type} (slot e sz:Nat) (enc:α->D) (St:Nat->σ->Df) (q:σ->Nat->α->Pl)
 | w {σ:Type} (St:σ->Df) (q:σ->Pl)
abbrev Pl.k {τ:Type}(St:τ->Df):Pl:=.c .z St λ_=>.z
abbrev Pl.d {τ:Type}(St:τ->Df)(q:τ->Pl):Pl:=.c .z St q
abbrev Pl.a {τ:Type}(p:Pl)(St:τ->Df):Pl:=.c p St λ_=>.z
abbrev Pl.f0 {α σ:Type}(F sz:Nat)(enc:α->D)(St:Nat->σ->Df):Pl:=.f F sz enc St λ_ _ _=>.z
abbrev Pl.o0 {α σ:Type}(F e sz:Nat)(enc:α->D)(St:Nat->σ->Df):Pl:=.o F e sz enc St λ_ _ _=>.z
abbrev Pl.w0 {σ:Type}(St:σ->Df):Pl:=.w St λ_=>.z
class E (α:Type) where
 e:α->D
 z:Nat
instance:E Int:=⟨D.i,1⟩
instance:E S:=⟨D.u8,1⟩
instance:E j:=⟨D.u64,1⟩
instance:E C:=⟨D.b,1⟩
instance:E T:=⟨D.s,1⟩
instance:E Nat:=⟨D.fn,1⟩
instance {α:Type} [E α]:E (I α):=⟨D.l (E.z α) E.e,1⟩
abbrev ed {α:Type}[E α](a:α):AV:=.d (E.e a)
abbrev e2 {α F:Type}[E α][E F](r:α×F):AV:=.wx [.d (E.e r.1),.d (E.e r.2)]
abbrev e3 {α F H:Type}[E α][E F][E H](r:α×F×H):AV:=.wx [.d (E.e r.1),.d (E.e r.2.1),.d (E.e r.2.2)]
abbrev oN {α:Type}:α->I OB:=λ_=>[]
def u2 {α F:Type}{H:Sort u}(f:α->F->H):α×F->H|(a,b)=>f a b
def u3 {α F H:Type}{J:Sort u}(f:α->F->H->J):α×F×H->J|(a,b,c)=>f a b c
def u4 {α F H J:Type}{M:Sort u}(f:α->F->H->J->M):α×F×H×J->M|(a,b,c,d)=>f a b c d
def u5 {α F H J M:Type}{P:Sort u}(f:α->F->H->J->M->P):α×F×H×J×M->P|(a,b,c,d,e)=>f a b c d e
def u6 {α F H J M P:Type}{Q:Sort u}(f:α->F->H->J->M->P->Q):α×F×H×J×M×P->Q|(a,b,c,d,e,x)=>f a b c d e x
structure Wk (B:sI)(p:Pl)(A:Prop):Prop where
 h:A
def Q3 (A:Prop):Prop:=A
def Q4 (A:Prop):Prop:=A
def Q1 (A:Prop):Prop:=A
def Q2 (A:Prop):Prop:=A
def Q6 (A:Prop):Prop:=A
def Q5 (A:Prop):Prop:=A
def Q7 (A:Prop):Prop:=A
def q1 {A:Prop}(h:A):Q1 A:=h
def q2 {A:Prop}(h:A):Q2 A:=h
def q3 {A:Prop}(h:A):Q3 A:=h
def q4 {A:Prop}(h:A):Q4 A:=h
def q5 {A:Prop}(h:A):Q5 A:=h
def q7 {A:Prop}(h:A):Q7 A:=h
def q6 {A:Prop}(h:A):Q6 A:=h
section
variable {U U':sI} {p q:Pl} {α τ ρ σ:Type} {r:ρ} {np:Nat} {t:sI} {d:τ->Df} {k':τ->O ρ} {v0:τ} {b:C} {X Y:O ρ} {A B:Prop} {K:sI->Prop}
def Wk.v {f:α->Pl}(v:α)(h:Wk U (f v) A):Wk U (.v f) A:=⟨h.h⟩
def Wk.y {n m:Nat}(h:Wk ⟨dd n [],nn m []⟩ p A):Wk U (.y n m p) A:=⟨h.h⟩
def Wk.fin {F H:Type}{x y:F}{z w:H}{a:ρ}(h:some a=some r)(k:some a=some r->x=y/\z=w:=by intro h;cases h;exact⟨rfl,rfl⟩):Wk U p (x=y/\z=w):=⟨k h⟩
def Wk.vu (h:k' v0=some r)(F:yA U' (d v0) (λs=>wg np t s):=by (conv=>whnf);exact wk):Wk U p (∃s,wg np t s/\∃v,k' v=some r/\s=zV U' (d v)):=⟨Gn (St:=λv=>zV U' (d v)) (Gi.1 F) h⟩
def Wk.L7 {n:σ->O ρ}{v:σ}{d:σ->Df}{F:sI->Prop}(h:n v=some r)(g :∀t v,yA U' (d v) (λs=>wg np t s)->n v=some r->F t)(H:yA U' (d v) (λs=>wg np t s)):Wk U p (F t):=⟨g _ _ H h⟩
def Wk.Lb {n:σ->O ρ}{v:σ}{S:σ->sI}{F:sI->Prop}(h:n v=some r)(g :∀t v,wg np t (S v)->n v=some r->F t)(H:wg np t (S v)):Wk U p (F t):=⟨g _ _ H h⟩
def Wk.L3 {St:τ->sI}(h:k' v0=some r)(F:wg np t (St v0):=by exact wk):Wk U p (∃s,wg np t s/\∃v,k' v=some r/\s=St v):=⟨Gn F h⟩
def Wk.Nt {i j:Nat}(h:k' v0=some r)(F:yA U' (d v0) (λs=>wg np (IL i j t) s):=by (conv=>whnf);exact wk)(H:Nat.ble np i=true:=by rfl)(J:Nat.ble np j=true:=by rfl)(M:(Nat.blt i t.ob.length&&Nat.blt j t.ob.length)=true:=by rfl) :
  Wk U (.x i j) (∃s,wg np t s/\∃v,k' v=some r/\s=zV U' (d v)):=⟨Gn (St:=λv=>zV U' (d v)) (.swap i j H J M (Gi.1 F)) h⟩
def Wk.Pk {i j:Nat}{St:τ->sI}(h:k' v0=some r)(F:wg np (IL i j t) (St v0):=by exact wk)(H:Nat.ble np i=true:=by rfl)(J:Nat.ble np j=true:=by rfl)(M:(Nat.blt i t.ob.length&&Nat.blt j t.ob.length)=true:=by rfl) :
  Wk U (.x i j) (∃s,wg np t s/\∃v,k' v=some r/\s=St v):=⟨Gn (.swap i j H J M F) h⟩
def Wk.zF {i j:Nat}{n:σ->O ρ}{v:σ}{d:σ->Df}{F:sI->Prop}(h:n v=some r)(g :∀t v,yA U' (d v) (λs=>wg np t s)->n v=some r->F t)(H:yA U' (d v) (λs=>wg np (IL i j t) s))(J:Xee np i=true)(M:Xee np j=true) (P:(Xcf i t.ob.length&&Xcf j t.ob.length)=true):Wk U (.x i j) (F t):=⟨g _ _ (Gi.2 (.swap i j J M P (Gi.1 H))) h⟩
def Wk.Pc {i j:Nat}{n:σ->O ρ}{v:σ}{S:σ->sI}{F:sI->Prop}(h:n v=some r)(g :∀t v,wg np t (S v)->n v=some r->F t)(H:wg np (IL i j t) (S v))(J:Xee np i=true)(M:Xee np j=true) (P:(Xcf i t.ob.length&&Xcf j t.ob.length)=true):Wk U (.x i j) (F t):=⟨g _ _ (.swap i j J M P H) h⟩
def Wk.cut {Z:(sI->Prop)->Prop}{m:(τ->O ρ)->O ρ}{k:τ->O ρ}{q:τ->Pl}(h:AB m k=some r) (F:Q4 (∀k':τ->O ρ,m k'=some r->Wk U p (Z (λt=>∃s,wg np t s/\∃v,k' v=some r/\s=zV U (d v))))) (H:Q6 (∀v,k v=some r->yA U (d v) λs=>Wk s (q v) (K s))):Wk U (.c p d q) (xU np Z K):=
 ⟨Zt (λv=>zV U (d v)) (λk e=>(F k e).h) (λv e=>(Gi.1 (H v e)).h) h⟩
def Wk.g {Z:(sI->Prop)->Prop}(h:Wk U p (Z K)):Wk U (.g p) (xU np Z K):=⟨xU.go h.h⟩
def Wk.go {Z:(sI->Prop)->Prop}(h:Wk U p (Z K)):Wk U p (xU np Z K):=⟨xU.go h.h⟩
def Wk.wC (h:(if b=true then X else Y)=some r)(F:X=some r->Wk U p A)(H:Y=some r->Wk U q B):Wk U (.b p q) (KD b A B):=⟨Re (λh=>(F h).h) (λh=>(H h).h) h⟩
def Wk.L5 (h:(if b=true then X else Y)=some r)(F:X=some r->Wk U .z A)(H:Y=some r->Wk U .z B):Wk U .z (KD b A B):=⟨Re (λh=>(F h).h) (λh=>(H h).h) h⟩
def Wk.st {l:I α}{i:Nat}(h:i<l.length)(k:Wk U p A):Wk U (.t p) (KD (decide ((i:Int)<(l.length:Int))) A B):=⟨Ea (IC h) k.h⟩
def Wk.se {l:I α}(k:Wk U p B):Wk U (.e p) (KD (decide ((l.length:Int)<(l.length:Int))) A B):=⟨M8 Tv k.h⟩
def Wk.s (k:Wk U p A):Wk U (.s p) A:=⟨k.h⟩
def Wk.e0 (k:Wk U p A):Wk U (.e p) A:=⟨k.h⟩
def Wk.l (h:Wk U p A):Wk U (.l p) (A\/B):=⟨Or.inl h.h⟩
def Wk.inr (h:Wk U p B):Wk U (.r p) (A\/B):=⟨Or.inr h.h⟩
def Wk.inl (h:Wk U p A):Wk U p (A\/B):=⟨Or.inl h.h⟩
def Wk.dr {F:Array Oper}(k:Wk U p A)(h:xy F=true:=by kernel_rfl):Wk U p (Gj F=true/\A):=⟨Ms h k.h⟩
def Wk.tr {F:Array Oper}(k:Wk U p A)(h:(xy F&&Ro F)=true:=by kernel_rfl):Wk U p ((Gj F=true/\Ro F=true)/\A):=⟨Fi h k.h⟩
def Wk.cr {F:Array Oper}{e:List (List Nat×List Nat)}(k:Wk U p A)(h:xi F e=true:=by kernel_rfl):Wk U p (Fh F 0 e=true/\A):=⟨Mu h k.h⟩
def Wk.len {x y:Nat}(k:Wk U p A)(h:x=y:=by exact JZ):Wk U p (x=y/\A):=⟨h,k.h⟩
def Wk.ex {F:Type}{P:F->Prop}{x y:F}(e:x=y)(k:Wk U p (P y)):Wk U p (∃r,x=r/\P r):=⟨_,e,k.h⟩
def Wk.and (h:A)(k:Wk U p B):Wk U p (A/\B):=⟨h,k.h⟩
def Wk.for {body:(AE->sI->Prop)->sI->Prop}{K:AE->sI->Prop}{st:sI}{done:σ->O ρ}{P:(σ->O ρ)->α->Nat->σ->O ρ}{l:I α}{Q:σ}{F sz:Nat}{enc:α->D} {d:Nat->σ->Df} {q:σ->Nat->α->Pl} (h:AI done P l 0 Q=some r) (V:st.tm.getD F .dead=.d (.wE sz (l.map enc))) (Z:yA U (d 0 Q) λs=>wg np st s) (M:Q1 (∀(s:σ) (H:sI->Prop),done s=some r->yA U (d l.length s) λu=>Wk u (.e .z) (body (zX K H) u))) (J:Q2 (∀(s:σ) (next:σ->O ρ) (i:Nat) (x:α) (H:sI->Prop),i<l.length->(l.map enc).getD i default=enc x->Xdt.wrap ((i:Int)+1)=((i+1:Nat):Int)->P next x i s=some r-> (∀t v,yA U (d (i+1) v) (λs=>wg np t s)->next v=some r->H t)->yA U (d i s) λu=>Wk u (.t (q s i x)) (body (zX K H) u))):Wk U (.f F sz enc d q) (xX np body K st):=
 ⟨Bi F sz enc V (λi s=>zV U (d i s)) (Gi.1 Z) (λs H h=>(Gi.1 (M s H h)).h) (λn i x s H h1 h2 h3 h4 h5=>(Gi.1 (J s n i x H h1 h2 h3 h4 λt v w=>h5 t v (Gi.1 w))).h) h⟩
def Wk.own {body:(AE->sI->Prop)->sI->Prop}{K:AE->sI->Prop}{st:sI}{done:σ->O ρ}{P:(σ->O ρ)->α->Nat->σ->O ρ}{l:I α}{Q:σ}{F e sz:Nat}{enc:α->D} {d:Nat->σ->Df} {q:σ->Nat->α->Pl} (h:AI done P l 0 Q=some r) (V:st.ob.getD F none=some (.row e sz (l.map enc) .no)) (Z:yA U (d 0 Q) λs=>wg np st s) (M:Q1 (∀(s:σ) (H:sI->Prop),done s=some r->yA U (d l.length s) λu=>Wk u (.e .z) (body (zX K H) u))) (J:Q2 (∀(s:σ) (next:σ->O ρ) (i:Nat) (x:α) (H:sI->Prop),i<l.length->(l.map enc).getD i default=enc x->Xdt.wrap ((i:Int)+1)=((i+1:Nat):Int)->P next x i s=some r-> (∀t v,yA U (d (i+1) v) (λs=>wg np t s)->next v=some r->H t)->yA U (d i s) λu=>Wk u (.t (q s i x)) (body (zX K H) u))):Wk U (.o F e sz enc d q) (xX np body K st):=
 ⟨Ny F e sz .no enc V (λi s=>zV U (d i s)) (Gi.1 Z) (λs H h=>(Gi.1 (M s H h)).h) (λn i x s H h1 h2 h3 h4 h5=>(Gi.1 (J s n i x H h1 h2 h3 h4 λt v w=>h5 t v (Gi.1 w))).h) h⟩
def Wk.Pu {body:(AE->sI->Prop)->sI->Prop}{K:AE->sI->Prop}{st:sI}{J:(σ->O ρ)->σ->O ρ}{n:Nat}{M:σ}{d:σ->Df}{q:σ->Pl} (h:BD J n M=some r) (P:yA U (d M) λs=>wg np st s) (F:Q5 (∀(s:σ) (next:σ->O ρ) (H:sI->Prop),J next s=some r->(∀t v,yA U (d v) (λs=>wg np t s)->next v=some r->H t)->yA U (d s) λu=>Wk u (q s) (body (zX K H) u))):Wk U (.w d q) (xX np body K st):=
 ⟨F9 (λs=>zV U (d s)) (Gi.1 P) (λn s H Q V=>(Gi.1 (F s n H Q λt v w=>V t v (Gi.1 w))).h) h⟩
variable {l m:I α} {f:α->D} {by' sz:Nat} {i i':Int} {kl:I α->O ρ} {ML:I D->Prop} {MD:D->Prop} {k:α->O ρ}
def Wk.wQ [Decidable A]{k:Unit->O ρ}(h:Wb (wQ A) k=some r)(n:Q3 (∀u,k u=some r->Wk U p B)):Wk U p (A/\B):=by obtain⟨u,g,h⟩:=AY h;exact⟨G0 g,(n u h).h⟩
def Wk.gb (h:Wb (mu l i) k=some r)(n:Q7 (∀v,mu l i=some v->k v=some r->Wk U p A)):Wk U p ((0<=i/\i<((l.map f).length:Int))/\A):=by obtain⟨v,g,h⟩:=AY h;exact⟨MP g,(n v g h).h⟩
def Wk.gd {v:α}(g:mu l i=some v)(n:Wk U p (MD (f v))):Wk U p (∃x,(l.map f).getD i.toNat default=x/\MD x):=⟨_,Kt g,n.h⟩
def Wk.ib {i:Nat}(b:i<l.length)(n:Wk U p A):Wk U p ((0<=(i:Int)/\(i:Int)<((l.map f).length:Int))/\A):=⟨D6 b,n.h⟩
def Wk.set {v:α}(h:Wb (wj l i v) kl=some r)(n:Q7 (∀F,F.length=l.length->kl F=some r->Wk U p (ML (F.map f)))):Wk U p (∃zs,(l.map f).set i.toNat (f v)=zs/\ML zs):=by obtain⟨v,g,h⟩:=AY h;exact⟨_,mS g,(n v (Z9 g) h).h⟩
def Wk.Pp {F:Type}{o:O F}{z:F}{H:D}{f:F->D}{J:F->O ρ}(h:Wb (some (o.getD z)) J=some r)(n:Q3 (∀v,J v=some r->Wk U p (MD (f v))))(M:H=f z):Wk U p (∃v,(o.map f).getD H=v/\MD v):=by obtain⟨v,g,h⟩:=AY h;exact⟨_,UI M g,(n v h).h⟩
def Wk.Pb {F:Type}{o:O F}{f:F->D}{H:C->O ρ}{J:C->Prop}(h:Wb (some o.isSome) H=some r)(n:Q3 (∀v,H v=some r->Wk U p (J v))):Wk U p (∃b,(o.map f).isSome=b/\J b):=by obtain⟨v,g,h⟩:=AY h;exact⟨_,Yg g,(n v h).h⟩
def Wk.ms {F H:Type}[BEq F]{tk:TK}{ek:F->D}{ev:H->D}{es:I (F×H)}{kd J:D}{x:F}{v:H}{P:I (D×D)->Prop}(e :∀a b,EO tk (ek a) (ek b)=some (a==b))(k:Wk U p (P (Am ek ev (BN es x v))))(M:kd=ek x)(Q:J=ev v):Wk U p (∃zs,GE tk kd J (Am ek ev es)=some zs/\P zs):=by subst M Q;exact⟨_,IV e,k.h⟩
def Wk.Li {F:Type}{P:F->Prop}{x:O F}{y:F}(e:x=some y)(k:Wk U p (P y)):Wk U p (∃r,x=some r/\P r):=⟨_,e,k.h⟩
def Wk.Mm (h:Wb (gN by' l m) kl=some r)(n:Q3 (∀v,kl v=some r->Wk U p (ML (v.map f)))):Wk U p ((((l.map f).length+(m.map f).length)*by'<=2^47/\(l.map f).length+(m.map f).length<=2^47)/\∃zs,l.map f++m.map f=zs/\ML zs):=⟨(Go.AX.Ev (A:=True) h trivial λv e=>(n v e).h).2⟩
def Wk.El (h:Wb (gN by' [] m) kl=some r)(n:Q3 (∀v,kl v=some r->Wk U p A)):Wk U p (((m.map f).length*by'<=2^47/\(m.map f).length<=2^47)/\A):=⟨Go.AX.El h λv e=>(n v e).h⟩
def Wk.get (h:Wb (mu l i) k=some r)(n:Q3 (∀v,k v=some r->Wk U p (MD (f v))))(e :∀v,(f v).cells.length=sz):Wk U p ((0<=i/\i<((l.map f).length:Int))/\∃x,(l.map f).getD i.toNat default=x/\x.cells.length=sz/\MD x):=⟨QD h e λv e=>(n v e).h⟩
def Wk.par (h:Wb (part l i i') kl=some r)(n:Q3 (∀v,kl v=some r->Wk U p (ML (v.map f)))):Wk U p ((0<=i/\i<=i'/\i'<=((l.map f).length:Int))/\∃ys,((l.map f).drop i.toNat).take (i'.toNat-i.toNat)=ys/\ML ys):=⟨uh h λv e=>(n v e).h⟩
def Wk.KM (h:Wb (part l i l.length) kl=some r)(n:Q3 (∀v,kl v=some r->Wk U p (ML (v.map f)))) : Wk U p ((0<=i/\i<=((l.map f).length:Int)/\((l.map f).length:Int)<=((l.map f).length:Int))/\∃ys,((l.map f).drop i.toNat).take (((l.map f).length:Int).toNat-i.toNat)=ys/\ML ys):=⟨ul h λv e=>(n v e).h⟩
def Wk.idx {i:Nat}{x:α}(b:i<l.length)(c:(l.map f).getD i default=f x)(n:Wk U p (MD (f x)))(e:(f x).cells.length=sz):Wk U p ((0<=(i:Int)/\(i:Int)<((l.map f).length:Int))/\∃x,(l.map f).getD (i:Int).toNat default=x/\x.cells.length=sz/\MD x):=⟨D6 b,_,c,e,n.h⟩
def qc {α F:Type}{P:α×F->Prop}(h :∀a b,P (a,b)) :∀v,P v:=λ(a,b)=>h a b
def rM {α F H:Type}{P:α×F×H->Prop}(h :∀a b c,P (a,b,c)) :∀v,P v:=λ(a,b,c)=>h a b c
def qQ {α F H J:Type}{P:α×F×H×J->Prop}(h :∀a b c d,P (a,b,c,d)) :∀v,P v:=λ(a,b,c,d)=>h a b c d
def qW {α F H J M:Type}{P:α×F×H×J×M->Prop}(h :∀a b c d e,P (a,b,c,d,e)) :∀v,P v:=λ(a,b,c,d,e)=>h a b c d e
def rY {α F H J M Q:Type}{P:α×F×H×J×M×Q->Prop}(h :∀a b c d e x,P (a,b,c,d,e,x)) :∀v,P v:=λ(a,b,c,d,e,x)=>h a b c d e x
end
end Go.AX
end
section
namespace Go.AX.Q25
open Go Go.AX Go.Proofs
def Nf:TI:=⟨.int .i64,1,8,[.val (.int .i64 0)]⟩
def Pf:TI:=⟨.bool,1,1,[.val (.bool false)]⟩
def Pd:TI:=⟨.int .u8,1,1,[.val (.int .u8 0)]⟩
def Pr:TI:=⟨.str,1,16,[.val (.string Xac)]⟩
def uY:TI:=⟨.slice 32,1,24,[.nil 3]⟩
def vA:TI:=⟨.struct [(0,1,3),(1,1,9),(2,1,3),(3,1,3),(4,1,22)],5,64,[.val (.int .i64 0),.val (.string Xac),.val (.int .i64 0),.val (.int .i64 0),.nil 3]⟩
def uQ:TI:=⟨.struct [(0,1,3),(1,1,9),(2,1,3),(3,1,3),(4,1,22)],5,64,[.val (.int .i64 0),.val (.string Xac),.val (.int .i64 0),.val (.int .i64 0),.nil 3]⟩
def vM:TI:=⟨.slice 71,1,24,[.nil 18]⟩
def uy:TI:=⟨.struct [(0,5,24),(5,1,4),(6,1,25),(7,1,3)],8,104,[.val (.int .i64 0),.val (.string Xac),.val (.int .i64 0),.val (.int .i64 0),.nil 3,.val (.bool false),.nil 18,.val (.int .i64 0)]⟩
def vH:TI:=⟨.struct [(0,5,24),(5,1,4),(6,1,25),(7,1,3)],8,104,[.val (.int .i64 0),.val (.string Xac),.val (.int .i64 0),.val (.int .i64 0),.nil 3,.val (.bool false),.nil 18,.val (.int .i64 0)]⟩
def ui:TI:=⟨.slice 67,1,24,[.nil 4]⟩
def vC:TI:=⟨.slice 93,1,24,[.nil 2]⟩
def vE:TI:=⟨.int .u64,1,8,[.val (.int .u64 0)]⟩
def uZ:TI:=⟨.struct [(0,1,4),(1,1,30),(2,1,30)],3,24,[.val (.bool false),.val (.int .u64 0),.val (.int .u64 0)]⟩
def uz:TI:=⟨.struct [(0,1,4),(1,1,30),(2,1,30)],3,24,[.val (.bool false),.val (.int .u64 0),.val (.int .u64 0)]⟩
def uq:TI:=⟨.slice 125,1,24,[.nil 2]⟩
def vB:TI:=⟨.slice 127,1,24,[.nil 3]⟩
def uk:TI:=⟨.slice 96,1,24,[.nil 3]⟩
def uK:TI:=⟨.struct [(0,1,3),(1,1,29),(2,3,32),(5,1,3),(6,1,3),(7,1,3),(8,1,33),(9,1,34),(10,1,35)],11,152,[.val (.int .i64 0),.nil 2,.val (.bool false),.val (.int .u64 0),.val (.int .u64 0),.val (.int .i64 0),.val (.int .i64 0),.val (.int .i64 0),.nil 2,.nil 3,.nil 3]⟩
def uR:TI:=⟨.struct [(0,1,3),(1,1,29),(2,3,32),(5,1,3),(6,1,3),(7,1,3),(8,1,33),(9,1,34),(10,1,35)],11,152,[.val (.int .i64 0),.nil 2,.val (.bool false),.val (.int .u64 0),.val (.int .u64 0),.val (.int .i64 0),.val (.int .i64 0),.val (.int .i64 0),.nil 2,.nil 3,.nil 3]⟩
def vN:TI:=⟨.struct [(0,1,28),(1,11,37),(12,1,28)],13,200,[.nil 4,.val (.int .i64 0),.nil 2,.val (.bool false),.val (.int .u64 0),.val (.int .u64 0),.val (.int .i64 0),.val (.int .i64 0),.val (.int .i64 0),.nil 2,.nil 3,.nil 3,.nil 4]⟩
def vL:TI:=⟨.struct [(0,1,28),(1,11,37),(12,1,28)],13,200,[.nil 4,.val (.int .i64 0),.nil 2,.val (.bool false),.val (.int .u64 0),.val (.int .u64 0),.val (.int .i64 0),.val (.int .i64 0),.val (.int .i64 0),.nil 2,.nil 3,.nil 3,.nil 4]⟩
def uu:TI:=⟨.slice 3,1,24,[.nil 1]⟩
def ug:TI:=⟨.ptr,1,8,[.val (.pointer none)]⟩
def vO:TI:=⟨.slice 138,1,24,[.nil 2]⟩
def ub:TI:=⟨.slice 143,1,24,[.nil 3]⟩
def uP:TI:=⟨.slice 140,1,24,[.nil 6]⟩
def vG:TI:=⟨.struct [(0,1,47),(1,1,48)],2,48,[.nil 3,.nil 6]⟩
def uL:TI:=⟨.struct [(0,1,47),(1,1,48)],2,48,[.nil 3,.nil 6]⟩
def vP:TI:=⟨.struct [(0,1,3),(1,1,28),(2,1,3),(3,1,3),(4,1,3),(5,1,3),(6,1,3),(7,1,3),(8,1,28),(9,1,46),(10,1,40),(11,1,3),(12,2,50),(14,1,48)],15,232,[.val (.int .i64 0),.nil 4,.val (.int .i64 0),.val (.int .i64 0),.val (.int .i64 0),.val (.int .i64 0),.val (.int .i64 0),.val (.int .i64 0),.nil 4,.nil 2,.nil 1,.val (.int .i64 0),.nil 3,.nil 6,.nil 6]⟩
def uI:TI:=⟨.struct [(0,1,3),(1,1,28),(2,1,3),(3,1,3),(4,1,3),(5,1,3),(6,1,3),(7,1,3),(8,1,28),(9,1,46),(10,1,40),(11,1,3),(12,2,50),(14,1,48)],15,232,[.val (.int .i64 0),.nil 4,.val (.int .i64 0),.val (.int .i64 0),.val (.int .i64 0),.val (.int .i64 0),.val (.int .i64 0),.val (.int .i64 0),.nil 4,.nil 2,.nil 1,.val (.int .i64 0),.nil 3,.nil 6,.nil 6]⟩
def uM:TI:=⟨.slice 27,1,24,[.nil 8]⟩
def vD:TI:=⟨.slice 39,1,24,[.nil 13]⟩
def uf:TI:=⟨.int .i64,1,8,[.val (.int .i64 0)]⟩
def uV:TI:=⟨.struct [(0,3,32),(3,1,3)],4,32,[.val (.bool false),.val (.int .u64 0),.val (.int .u64 0),.val (.int .i64 0)]⟩
def uW:TI:=⟨.struct [(0,3,32),(3,1,3)],4,32,[.val (.bool false),.val (.int .u64 0),.val (.int .u64 0),.val (.int .i64 0)]⟩
def ud:TI:=⟨.struct [(0,4,67),(4,1,3),(5,11,37)],16,192,[.val (.bool false),.val (.int .u64 0),.val (.int .u64 0),.val (.int .i64 0),.val (.int .i64 0),.val (.int .i64 0),.nil 2,.val (.bool false),.val (.int .u64 0),.val (.int .u64 0),.val (.int .i64 0),.val (.int .i64 0),.val (.int .i64 0),.nil 2,.nil 3,.nil 3]⟩
def uX:TI:=⟨.struct [(0,4,67),(4,1,3),(5,11,37)],16,192,[.val (.bool false),.val (.int .u64 0),.val (.int .u64 0),.val (.int .i64 0),.val (.int .i64 0),.val (.int .i64 0),.nil 2,.val (.bool false),.val (.int .u64 0),.val (.int .u64 0),.val (.int .i64 0),.val (.int .i64 0),.val (.int .i64 0),.nil 2,.nil 3,.nil 3]⟩
def uN:TI:=⟨.struct [(0,16,69),(16,1,3),(17,1,4)],18,208,[.val (.bool false),.val (.int .u64 0),.val (.int .u64 0),.val (.int .i64 0),.val (.int .i64 0),.val (.int .i64 0),.nil 2,.val (.bool false),.val (.int .u64 0),.val (.int .u64 0),.val (.int .i64 0),.val (.int .i64 0),.val (.int .i64 0),.nil 2,.nil 3,.nil 3,.val (.int .i64 0),.val (.bool false)]⟩
def uw:TI:=⟨.struct [(0,16,69),(16,1,3),(17,1,4)],18,208,[.val (.bool false),.val (.int .u64 0),.val (.int .u64 0),.val (.int .i64 0),.val (.int .i64 0),.val (.int .i64 0),.nil 2,.val (.bool false),.val (.int .u64 0),.val (.int .u64 0),.val (.int .i64 0),.val (.int .i64 0),.val (.int .i64 0),.nil 2,.nil 3,.nil 3,.val (.int .i64 0),.val (.bool false)]⟩
def uS:TI:=⟨.int .u64,1,8,[.val (.int .u64 0)]⟩
def uc:TI:=⟨.slice 40,1,24,[.nil 1]⟩
def vJ:TI:=⟨.struct [(0,1,4),(1,1,40)],2,32,[.val (.bool false),.nil 1]⟩
def uH:TI:=⟨.struct [(0,1,4),(1,1,40)],2,32,[.val (.bool false),.nil 1]⟩
def ue:TI:=⟨.slice 5,1,24,[.nil 1]⟩
def uo:TI:=⟨.struct [(0,1,3),(1,1,3),(2,1,94)],3,40,[.val (.int .i64 0),.val (.int .i64 0),.nil 1]⟩
def uU:TI:=⟨.struct [(0,1,3),(1,1,3),(2,1,94)],3,40,[.val (.int .i64 0),.val (.int .i64 0),.nil 1]⟩
def ua:TI:=⟨.struct [(0,1,40),(1,1,3)],2,32,[.nil 1,.val (.int .i64 0)]⟩
def ut:TI:=⟨.struct [(0,1,40),(1,1,3)],2,32,[.nil 1,.val (.int .i64 0)]⟩
def sN:TI:=⟨.ptr,1,8,[.val (.pointer none)]⟩
def tz:TI:=⟨.fn,1,8,[.val .nilFunc]⟩
def tH:TI:=⟨.fn,1,8,[.val .nilFunc]⟩
def s9:TI:=⟨.struct [(0,1,3),(1,1,3)],2,16,[.val (.int .i64 0),.val (.int .i64 0)]⟩
def sl:TI:=⟨.struct [(0,1,3),(1,1,3)],2,16,[.val (.int .i64 0),.val (.int .i64 0)]⟩
def ry:TI:=⟨.struct [(0,1,3),(1,1,3),(2,1,3)],3,24,[.val (.int .i64 0),.val (.int .i64 0),.val (.int .i64 0)]⟩
def tD:TI:=⟨.struct [(0,1,3),(1,1,3),(2,1,3)],3,24,[.val (.int .i64 0),.val (.int .i64 0),.val (.int .i64 0)]⟩
def tU:TI:=⟨.fn,1,8,[.val .nilFunc]⟩
def t6:TI:=⟨.slice 25,1,24,[.nil 1]⟩
def tX:TI:=⟨.struct [(0,1,3),(1,1,3)],2,16,[.val (.int .i64 0),.val (.int .i64 0)]⟩
def tZ:TI:=⟨.struct [(0,1,3),(1,1,3)],2,16,[.val (.int .i64 0),.val (.int .i64 0)]⟩
def tC:TI:=⟨.struct [(0,4,67),(4,1,3),(5,1,3)],6,48,[.val (.bool false),.val (.int .u64 0),.val (.int .u64 0),.val (.int .i64 0),.val (.int .i64 0),.val (.int .i64 0)]⟩
def sr:TI:=⟨.struct [(0,4,67),(4,1,3),(5,1,3)],6,48,[.val (.bool false),.val (.int .u64 0),.val (.int .u64 0),.val (.int .i64 0),.val (.int .i64 0),.val (.int .i64 0)]⟩
def sE:TI:=⟨.slice 9,1,24,[.nil 1]⟩
def tc:TI:=⟨.struct [(0,1,9),(1,1,40),(2,1,141)],3,64,[.val (.string Xac),.nil 1,.nil 1]⟩
def s6:TI:=⟨.struct [(0,1,9),(1,1,40),(2,1,141)],3,64,[.val (.string Xac),.nil 1,.nil 1]⟩
def r6:TI:=⟨.fn,1,8,[.val .nilFunc]⟩
def s5:TI:=⟨.fn,1,8,[.val .nilFunc]⟩
def so:TI:=⟨.fn,1,8,[.val .nilFunc]⟩
def sC:TI:=⟨.fn,1,8,[.val .nilFunc]⟩
def sQ:TI:=⟨.arr 2 3,2,16,[.val (.int .i64 0),.val (.int .i64 0)]⟩
def tp:TI:=⟨.fn,1,8,[.val .nilFunc]⟩
def uE:TI:=⟨.map 9 4,1,8,[.val (.map none)]⟩
def tV:TI:=⟨.ptr,1,8,[.val (.pointer none)]⟩
def sj:TI:=⟨.struct [(0,15,52),(15,5,24),(20,16,69),(36,1,40),(37,1,3),(38,1,4)],39,528,[.val (.int .i64 0),.nil 4,.val (.int .i64 0),.val (.int .i64 0),.val (.int .i64 0),.val (.int .i64 0),.val (.int .i64 0),.val (.int .i64 0),.nil 4,.nil 2,.nil 1,.val (.int .i64 0),.nil 3,.nil 6,.nil 6,.val (.int .i64 0),.val (.string Xac),.val (.int .i64 0),.val (.int .i64 0),.nil 3,.val (.bool false),.val (.int .u64 0),.val (.int .u64 0),.val (.int .i64 0),.val (.int .i64 0),.val (.int .i64 0),.nil 2,.val (.bool false),.val (.int .u64 0),.val (.int .u64 0),.val (.int .i64 0),.val (.int .i64 0),.val (.int .i64 0),.nil 2,.nil 3,.nil 3,.nil 1,.val (.int .i64 0),.val (.bool false)]⟩
def sb:TI:=⟨.struct [(0,15,52),(15,5,24),(20,16,69),(36,1,40),(37,1,3),(38,1,4)],39,528,[.val (.int .i64 0),.nil 4,.val (.int .i64 0),.val (.int .i64 0),.val (.int .i64 0),.val (.int .i64 0),.val (.int .i64 0),.val (.int .i64 0),.nil 4,.nil 2,.nil 1,.val (.int .i64 0),.nil 3,.nil 6,.nil 6,.val (.int .i64 0),.val (.string Xac),.val (.int .i64 0),.val (.int .i64 0),.nil 3,.val (.bool false),.val (.int .u64 0),.val (.int .u64 0),.val (.int .i64 0),.val (.int .i64 0),.val (.int .i64 0),.nil 2,.val (.bool false),.val (.int .u64 0),.val (.int .u64 0),.val (.int .i64 0),.val (.int .i64 0),.val (.int .i64 0),.nil 2,.nil 3,.nil 3,.nil 1,.val (.int .i64 0),.val (.bool false)]⟩
def tq:TI:=⟨.slice 226,1,24,[.nil 2]⟩
def tQ:TI:=⟨.fn,1,8,[.val .nilFunc]⟩
def sH:TI:=⟨.struct [(0,1,3),(1,1,224)],2,16,[.val (.int .i64 0),.val .nilFunc]⟩
def uD:TI:=⟨.struct [(0,1,3),(1,1,224)],2,16,[.val (.int .i64 0),.val .nilFunc]⟩
def uG:TI:=⟨.fn,1,8,[.val .nilFunc]⟩
def tG:TI:=⟨.fn,1,8,[.val .nilFunc]⟩
def tK:TI:=⟨.fn,1,8,[.val .nilFunc]⟩
def ta:TI:=⟨.map 3 94,1,8,[.val (.map none)]⟩
def sM:TI:=⟨.fn,1,8,[.val .nilFunc]⟩
def tO:TI:=⟨.fn,1,8,[.val .nilFunc]⟩
def rj:TI:=⟨.fn,1,8,[.val .nilFunc]⟩
def rl:TI:=⟨.fn,1,8,[.val .nilFunc]⟩
def tj:TI:=⟨.fn,1,8,[.val .nilFunc]⟩
def rx:TI:=⟨.fn,1,8,[.val .nilFunc]⟩
def sK:TI:=⟨.map 3 3,1,8,[.val (.map none)]⟩
def tw:TI:=⟨.fn,1,8,[.val .nilFunc]⟩
def tY:TI:=⟨.fn,1,8,[.val .nilFunc]⟩
def sX:TI:=⟨.arr 5 3,5,40,[.val (.int .i64 0),.val (.int .i64 0),.val (.int .i64 0),.val (.int .i64 0),.val (.int .i64 0)]⟩
def sJ:TI:=⟨.map 9 143,1,8,[.val (.map none)]⟩
def tP:TI:=⟨.map 3 4,1,8,[.val (.map none)]⟩
def uA:TI:=⟨.fn,1,8,[.val .nilFunc]⟩
def tW:TI:=⟨.fn,1,8,[.val .nilFunc]⟩
def tg:TI:=⟨.fn,1,8,[.val .nilFunc]⟩
def rz:TI:=⟨.fn,1,8,[.val .nilFunc]⟩
def tt:TT:=(.node 103 sN (.node 46 vO (.node 30 vE (.node 24 uQ (.node 9 Pr (.node 4 Pf (.node 3 Nf .wi .wi) (.node 5 Pd .wi .wi)) (.node 23 vA (.node 22 uY .wi .wi) .wi)) (.node 27 vH (.node 26 uy (.node 25 vM .wi .wi) .wi) (.node 29 vC (.node 28 ui .wi .wi) .wi))) (.node 36 uK (.node 33 uq (.node 32 uz (.node 31 uZ .wi .wi) .wi) (.node 35 uk (.node 34 vB .wi .wi) .wi)) (.node 39 vL (.node 38 vN (.node 37 uR .wi .wi) .wi) (.node 44 ug (.node 40 uu .wi .wi) .wi)))) (.node 69 uX (.node 56 uM (.node 50 uL (.node 48 uP (.node 47 ub .wi .wi) (.node 49 vG .wi .wi)) (.node 52 uI (.node 51 vP .wi .wi) .wi)) (.node 66 uV (.node 59 uf (.node 58 vD .wi .wi) .wi) (.node 68 ud (.node 67 uW .wi .wi) .wi))) (.node 93 uH (.node 86 uS (.node 71 uw (.node 70 uN .wi .wi) .wi) (.node 92 vJ (.node 89 uc .wi .wi) .wi)) (.node 96 uU (.node 95 uo (.node 94 ue .wi .wi) .wi) (.node 98 ut (.node 97 ua .wi .wi) .wi))))) (.node 221 sb (.node 141 sE (.node 132 tU (.node 125 sl (.node 118 tH (.node 113 tz .wi .wi) (.node 124 s9 .wi .wi)) (.node 127 tD (.node 126 ry .wi .wi) .wi)) (.node 138 tZ (.node 137 tX (.node 133 t6 .wi .wi) .wi) (.node 140 sr (.node 139 tC .wi .wi) .wi))) (.node 159 sC (.node 149 r6 (.node 143 s6 (.node 142 tc .wi .wi) .wi) (.node 153 so (.node 151 s5 .wi .wi) .wi)) (.node 212 uE (.node 171 tp (.node 167 sQ .wi .wi) .wi) (.node 220 sj (.node 218 tV .wi .wi) .wi)))) (.node 271 tj (.node 232 tK (.node 226 uD (.node 224 tQ (.node 222 tq .wi .wi) (.node 225 sH .wi .wi)) (.node 230 tG (.node 227 uG .wi .wi) .wi)) (.node 253 tO (.node 251 sM (.node 234 ta .wi .wi) .wi) (.node 266 rl (.node 264 rj .wi .wi) .wi))) (.node 320 sJ (.node 292 tw (.node 283 sK (.node 274 rx .wi .wi) .wi) (.node 318 sX (.node 301 tY .wi .wi) .wi)) (.node 324 tW (.node 323 uA (.node 321 tP .wi .wi) .wi) (.node 328 rz (.node 327 tg .wi .wi) .wi))))))
def Ys:ur Xa9 tt:=Xu (by kernel_rfl)
end Go.AX.Q25
end
section
namespace Go.AX
section
variable {P:Program} {E:Env} {w w':B} {S:Sc} {φ:Nat->O (Nat×Rp)} {ob:Nat->O OB}
structure Grown (wl:Prop)(w w':World):Prop where
 hp :∀b,b<w.heap.size->w'.heap[b]?=w.heap[b]?
 sz:w.heap.size<=w'.heap.size
 os:w'.os=w.os
 out:w'.output=w.output
 tape:w'.tape=w.tape
 dr:wl\/w.drawn<=w'.drawn
def Grown.refl (wl:Prop)(w:B):Grown wl w w:=⟨λ_ _=>rfl,Xam _,rfl,rfl,rfl,.inr (Xam _)⟩
def Grown.trans {wl:Prop}{a b c:B}(h:Grown wl a b)(k:Grown wl b c):Grown wl a c:=
 ⟨λn F=>(k.hp n (Xbd F h.sz)).trans (h.hp n F),Xb1 h.sz k.sz,k.os.trans h.os,k.out.trans h.out,k.tape.trans h.tape,h.dr.elim .inl λx=>k.dr.imp_right λy=>Xb1 x y⟩
def Grown.alloc {wl:Prop}(w:B)(o:Obj):Grown wl w (w.alloc o):=⟨λb F=>Dn w o F,by simp,rfl,rfl,rfl,.inr (Xam _)⟩
def Grown.drewN {wl:Prop}(w:B)(n:Nat):Grown wl w (w.drewN n):=⟨λ_ _=>rfl,Xam _,rfl,rfl,rfl,.inr (Nat.le_add_right _ _)⟩
def Grown.below {w w':B}(h:Go.RowKit.Below w.heap.size w w'):Grown True w w':=⟨h.block,h.size,h.os,h.output,h.tape,.inl trivial⟩
def Mem.grow (m:Mem E w S φ ob)(h:Grown E.wl.wl w w'):Mem E w' S φ ob/\Kept w S φ ob w' S φ ob:=
 m.grown h.hp h.sz ⟨h.os,h.out,h.tape,h.dr⟩
def Mem.Kk (m:Mem E w S φ ob)(b o:Nat)(Q:b<w.heap.size)(U:E.w0.heap.size<=b)(F :∀r c,ob r≠none->φ r≠some (b,c)) : Mem E w (λx y=>S x y\/(x=b/\y=o)) φ ob/\Kept w S φ ob w (λx y=>S x y\/(x=b/\y=o)) φ ob:=by
 have M:Kept w S φ ob w (λx y=>S x y\/(x=b/\y=o)) φ ob:=⟨λ_ _ h=>⟨.inl h,rfl⟩,λr _=>.refl φ ob r,λ_ h=>h⟩;refine⟨⟨λr x H=>(m.obj r x H).wc M rfl (λY c J=>⟨rfl,λy K=>?_⟩) (m.xv r x H),m.inj,m.xv,λb o h=>.inl (m.sS b o h),m.kS,?_,?_,m.fr,m.sz,m.ow,m.os⟩,M⟩
 ·rcases K with K|⟨e,_⟩
  ·exact K
  subst e;exact absurd J (F r c (by rw[H];simp))
 ·rintro x y (h|⟨rfl,rfl⟩)
  ·exact m.bS x y h
  exact Q
 rintro x y (h|⟨rfl,rfl⟩) h1 V
 ·exact m.nS x y h h1 V
 omega
def Mem.attach (m:Mem E w S φ ob)(r b:Nat)(c:Rp)(x:OB)(hr:ob r=none)(hb:b<w.heap.size)(a1:E.w0.heap.size<=b)(H :∀F c',ob F≠none->φ F≠some (b,c'))(hx:x.refs=[]) (a6:Kept w S φ ob w S (vd φ r (some (b,c))) (vd ob r (some x))->xb S w (vd φ r (some (b,c))) (vd ob r (some x)) r x) : Mem E w S (vd φ r (some (b,c))) (vd ob r (some x))/\Kept w S φ ob w S (vd φ r (some (b,c))) (vd ob r (some x)):=by
 have Q :∀F,ob F≠none->F≠r:=λF h e=>h (e▸hr);have U:Kept w S φ ob w S (vd φ r (some (b,c))) (vd ob r (some x)):=by
  refine⟨λb o h=>⟨h,rfl⟩,λF h=>.inl ?_,λF h=>?_⟩
  ·rw[AM _ _ _ _ (Q F h),AM _ _ _ _ (Q F h)];exact⟨rfl,rfl,id⟩
  rw[AM _ _ _ _ (Q F h)];exact h
 refine⟨⟨?_,?_,?_,m.sS,m.kS,m.bS,m.nS,m.fr,m.sz,?_,m.os⟩,U⟩
 ·intro F o h;by_cases J:F=r
  ·subst J;simp only[gM,X24] at h;subst h;exact a6 U
  rw[AM _ _ _ _ J] at h;exact (m.obj F o h).wc U (AM _ _ _ _ J) (λb c hb=>⟨rfl,λ_ h=>h⟩) (m.xv F o h)
 ·intro r1 V b' c1 c2 Y Z K M;by_cases e1:r1=r
  ·by_cases e2:V=r
   ·rw[e1,e2]
   subst e1;rw[gM] at K;rw[AM _ _ _ _ e2] at M Z;simp only[X24,X26] at K;rw[<- K.1] at M;exact absurd M (H V c2 Z)
  by_cases e2:V=r
  ·subst e2;rw[gM] at M;rw[AM _ _ _ _ e1] at K Y;simp only[X24,X26] at M;rw[<- M.1] at K;exact absurd K (H r1 c1 Y)
  rw[AM _ _ _ _ e1] at K Y;rw[AM _ _ _ _ e2] at M Z;exact m.inj r1 V b' c1 c2 Y Z K M
 ·intro F o h a7 hm;by_cases J:F=r
  ·subst J;simp only[gM,X24] at h;subst h;rw[hx] at hm;simp at hm
  rw[AM _ _ _ _ J] at h;exact U.c _ (m.xv F o h a7 hm)
 intro F b' c' h g;by_cases J:F=r
 ·subst J;simp only[gM,X24,X26] at g;rw[<- g.1];exact⟨hb,.inl a1⟩
 rw[AM _ _ _ _ J] at g h;exact m.ow F b' c' h g
def Mem.yQ (m:Mem E w S φ ob)(r:Nat)(hr:ob r=none){base e:Nat}{v:A}{xs:I A}(h1 :∀x∈xs,x.oneCell'=true)(U:w.ownsRow base e 1 v xs.length xs)(aa:E.w0.heap.size<=base) (M :∀r' b c,ob r'≠none->φ r'=some (b,c)->b<base) (hS :∀b o,S b o->b<base) : ∃φ',Mem E w S φ' (vd ob r (some (.row e 1 (xs.map .val) .no)))/\Kept w S φ ob w S φ' (vd ob r (some (.row e 1 (xs.map .val) .no)))/\gT S w φ' (vd ob r (some (.row e 1 (xs.map .val) .no))) (.own r xs.length) v:=by
 rcases U.2 with ⟨hv,hz⟩|⟨g,H,J,hv,hg,V,c1,c2,c3,c4⟩
 ·obtain rfl:xs=[]:=Xar hz;obtain⟨m1,k1⟩:=m.empty r e 1 hr (by omega);refine⟨_,m1,k1,?_⟩;rw[hv];refine .own r 0 _ 0 0 none rfl rfl (λe' a1 a6 f' K=>?_) λcs K=>by simp at K
  simp only[gM,X24,OB.row.injEq] at K;obtain⟨rfl,rfl,rfl,rfl⟩:=K;exact⟨Xam _,λ_=>.inl ⟨gM _ _ _,rfl,_,rfl⟩⟩
 have a7:=xq V
 obtain⟨m1,k1⟩:=m.attach r g (H,0) (.row e 1 (xs.map .val) .no) hr a7 (by omega) (λr' c' h1 h2=>by have:=M r' g c' h1 h2;omega) rfl (λhk=>by
  refine⟨by omega,λi Y=>by simp[D.cells],λi Y j Q=>?_,.inr ⟨g,(H,0),J,λi _=>xs.getD i Xck,gM _ _ _,V,by simpa using c1,c2,by simp;omega,λi j Y Q=>?_,λi Y j Q=>?_,λo _ a8=>by have:=hS g o a8;omega,λ_ _ _ _ h=>nomatch h⟩⟩
  ·have Z:j=0:=by simp[D.cells] at Q;exact Q
   subst Z;simp[D.cells,D.isAgg]
  ·have F:i<xs.length:=by simpa using Y
   have Z:j=0:=by omega
   subst Z;have hl:i<(J.toList.take (xs.length*1)).length:=by rw[c4];exact F
   have e1:J.toList[i]?=some xs[i]:=by
    have:(J.toList.take (xs.length*1))[i]?=some xs[i]:=by rw[c4];exact X15 F
    rwa [List.getElem?_take_of_lt (by omega)] at this
   simp[F] at e1⊢;exact e1
  have Z:j=0:=by simp[D.cells] at Q;exact Q
  subst Z;have F:i<xs.length:=by simpa using Y
  simp only[Xb2,D.cells,Xaz,Xa6,X15 F,Xb7]
  exact .val _ (h1 _ (Xae F)))
 refine⟨_,m1,k1,?_⟩;rw[hv];refine .own r xs.length _ xs.length H _ rfl rfl (λe' a1 a6 f' K=>?_) λcs K=>by simp at K
 simp only[gM,X24,OB.row.injEq] at K;obtain⟨rfl,rfl,rfl,rfl⟩:=K;exact⟨by simp,λ_=>.inr ⟨g,(H,0),gM _ _ _,rfl⟩⟩
end
def bW (P : Xcv)(f : Xdm) : Prop := ∃ fn, P.funcs[f]? = some fn ∧ fn.name ≠ "runtime.NumGoroutine" ∧ fn.body.isSome = true
def X8 {P : Xcv}{f : Xdm}{fn : Func}(h : P.funcs[f]? = some fn)(F : (fn.name == "runtime.NumGoroutine") = false)(H : fn.body.isSome = true) : bW P f := ⟨fn, h, by simpa using F, H⟩
def kK {wl:WL}{P:Xcv}{f:Xdm}{args:I AV}{gL:I OB}{H:AV}(M:bW P f)(J:iA (vi gL) H) (h :∀(w:B) (S:Sc) (φ:Nat->O (Nat×Rp)) (gb:Nat->Prop) (hg:xp wl gb (KG φ gL.length) S w) (F:Array A),F.size=args.length->(∀i (K:i<args.length),gT S w φ (vi gL) args[i] (F.getD i Xck))-> Mem ⟨w,S,KG φ gL.length,wl,gb,hg⟩ w S φ (vi gL)->Calls P f F w λe w'=>∃v,e=.returned v/\Grown wl.wl w w'/\gT S w' φ (vi gL) H v):Ao wl P f args gL H gL:=by refine⟨M,λw S φ gb hg F Q U hn m=>(h w S φ gb hg F Q (λi K=>(U i K).1) m).mono λe w' V=>?_⟩;obtain⟨v,rfl,hg,Y⟩:=V;obtain⟨Z,k'⟩:=m.grow hg;exact⟨v,rfl,S,φ,Z,k',Y,J⟩
end Go.AX
end
section
namespace Go.AX
open Go.Proofs
def XP (s cut:T):O T:=
 if s.size<=9223372036854775807/\2<=cut.size/\cut.size<4294967281/\cut.data.toList.all (λb=>decide (b.toNat<128))=true then some ⟨(Lib.trimS s.data.toList cut.data.toList).toArray⟩ else none
def mc {wl:WL}{P:Xcv}{ρ:Xe9}(L:Lays.n160 P ρ)(V:bW P (ρ.f 160))(F:(P.info? (ρ.t 116)).map (λi=>(i.zero,i.size))=some (some (.agg (Array.replicate 256 (.bool false))),256)) {s cut r:T} (h:XP s cut=some r):Ao wl P (ρ.f 160) [.d (D.s s),.d (D.s cut)] [] (.d (D.s r)) []:=by
 unfold XP at h;split at h
 ·rename_i Y;obtain⟨Z,h2,h3,h4⟩:=Y;obtain rfl:=X25 h;refine kK V (BM _ _) λw S φ gb hg H hs J m=>?_;have K:=(J 0 (by simp)).str;have M:=(J 1 (by simp)).str;have hv:H=#[.string s,.string cut]:=by
   match H,hs with
   | ⟨[a,b]⟩,_=>simp at K M;rw[K,M]
  rw[hv];by_cases Q:s.size=0
  ·refine (Any.strings_Trim_empty L s cut w (.inl Q)).mono λe w' ⟨he,hw⟩=>⟨_,he,hw▸.refl wl.wl w,?_⟩;have U:s.data.toList=[]:=Xar (by rw[<- Lib.size_eq];exact Q);have:(⟨(Lib.trimS s.data.toList cut.data.toList).toArray⟩:T)=s:=by
    rw[U];conv=>rhs;rw[<- Lib.mk_data s,U]
    rfl
   rw[this];exact .d _ _ (.val _ rfl)
  refine (Any.strings_Trim_set L (zero_of_info F).1 (zero_of_info F).2 s cut w h2 (by omega) Z h3 (ascii_of_all h4)).mono λe w' ⟨he,q,hw⟩=>⟨_,he,?_,.d _ _ (.val _ rfl)⟩;rw[hw];exact ((Grown.alloc w _).trans (.alloc _ _)).trans (.drewN _ q)
 simp at h
end Go.AX
end
section
namespace Go.AX
open Go.Proofs Go.Maps Go.Sort Go.Shelf Go.RowKit
def YP {F:Array A}{v:A}(H:F.size=1)(h:F.getD 0 Xck=v):F=#[v]:=by
 match F,H with
 | ⟨[a]⟩,_=>simp at h;rw[h]
def W0 {wl:WL}{P:Xcv}{f g:Xdm}{t:Nat}(V:bW P f)(Y :∀(b:Nat) (w:B),Calls P f #[.map (some b)] w λe w'=>e=.returned (.func (.func g) #[] #[.pointer (some ⟨w.heap.size,0,none⟩)])/\w'=w.alloc (.cells #[.map (some b)] t)) {k e:Nat} {es:I (D×D)}:Ao wl P f [.mp 0] [.map k e es] (.it g 0) [.map k e es]:=by
 refine⟨V,λw S φ gb hg F Z hr hn m=>?_⟩;have J:=(hr 0 (by simp)).1;simp only[Xaz] at J;generalize K:F.getD 0 Xck=v at J;have K:=YP Z K;cases J with|mp _ b c M hb Q=>
 rw[K];refine (Y b w).mono λe' w' ⟨he,hw⟩=>?_;have U:vi [OB.map k e es] 0≠none:=by simp[vi]
 obtain⟨m1,k1⟩:=m.grow (w':=w') (by rw[hw];exact .alloc w _);have w8:w'.heap.size=w.heap.size+1:=by rw[hw];simp
 obtain⟨m2,k2⟩:=m1.Kk w.heap.size 0 (by omega) (Xam _) (λr c' h1 h2=>by have:=(m.ow r _ _ h1 h2).1;omega);refine⟨_,he,_,_,m2,k1.trans k2,.it g 0 b c _ M hb Q (.inr ⟨rfl,rfl⟩) ?_,λr H=>?_⟩
 ·rw[hw,cellAt,World.cell?_alloc_at _ _ _ _ rfl];rfl
 simp only[AV.refs,X14] at H;rw[H];exact U
def SC {V:Type}(m:I (Int×V)):O (I Int):=
 if (m.map (·.1)).Nodup/\(m.all λp=>decide (-9223372036854775808<=p.1/\p.1<=9223372036854775807))=true/\m.length<=1000000000000 then some ((m.map (·.1)).mergeSort λx y=>decide (x<=y)) else none
def UA {l H:I Int}(h:l.Perm H):(l.mergeSort λx y=>decide (x<=y))=H.mergeSort λx y=>decide (x<=y):=by
 have J :∀a b c:Int,decide (a<=b)=true->decide (b<=c)=true->decide (a<=c)=true:=λa b c K M=>by simp at *;omega
 have F :∀a b:Int,(decide (a<=b) || decide (b<=a))=true:=λa b=>by simp;omega
 refine List.Perm.eq_of_pairwise (le:=λx y=>decide (x<=y)=true) (λa b _ _ K M=>by simp at *;omega) (List.pairwise_mergeSort J F l) (List.pairwise_mergeSort J F H) ?_;exact (List.mergeSort_perm l _).trans (h.trans (List.mergeSort_perm H _).symm)
def Un {wl:WL}{P:Xcv}{H J:Xe9}(LK:SlLaysZI.n7 P H)(LS:SlLaysZI.n6 P J)(hf:bW P (J.f 6))(Z :∀m,AnyZI.SortsIn P J Xef m) (e9 :∀args w,(callFunc (J.f 9) args).run P w=.ok (.enter (J.f 9) args) w) (eg :∀args w,(callFunc (H.f 10) args).run P w=.ok (.enter (H.f 10) args) w) {V:Type} {ev:V->D} {m:I (Int×V)} {r:I Int} (h:SC m=some r) {k e:Nat} : Ao wl.high P (J.f 6) [.it (H.f 10) 0] [.map k e (Am D.i ev m)] (.own 1 (Xa1 D.i r).length) [.map k e (Am D.i ev m),.row (J.t 26) 1 (Xa1 D.i r) .no]:=by
 unfold SC at h;split at h;rotate_left
 ·simp at h
 rename_i a1;obtain⟨aj,ak,aq⟩:=a1;obtain rfl:=X25 h;refine⟨hf,λw S φ gb hg aa hs hr hn mm=>?_⟩;have r0:=(hr 0 (by simp)).1;simp only[Xaz] at r0;generalize hv:aa.getD 0 Xck=v at r0;have hv:=YP hs hv;cases r0 with|it _ _ b c B ab hb au hS a6=>
 rw[hv];obtain⟨b',c',arr,M,q1,q2,⟨q3,q4⟩,q5,q6⟩:=mm.obj 0 _ (show vi [OB.map k e (Am D.i ev m)] 0=some _ from rfl);rw[ab] at q1;simp only[X24,X26] at q1;obtain⟨rfl,rfl⟩:=q1;have w8:arr.size=m.length:=by rw[q3];simp[Am]
 have ae :∀i (hi:i<m.length),arr[i]?.map (·.key)=some (.int .i64 m[i].1):=by intro i hi;obtain⟨x,g1,⟨u,g2,g3,_⟩,_⟩:=q6 i (by simpa[Am] using hi);simp only[Am,Xb2] at g2;rw[g1];simp only[Xbf,g3];injection g2 with g2;rw[<- g2]
 have K:arr.toList.map (·.key)=m.map λp=>Value.int .i64 p.1:=by
  apply List.ext_getElem?;intro i;by_cases hi:i<m.length
  ·have:=ae i hi;simp only[Xd3,Array.getElem?_toList,X15 hi,Xbf];exact this
  rw[Xc1 (by simp;omega),Xc1 (by simp;omega)]
 let R:A->O (DataW Unit×I MemPlace):=λ_=>some (.nil,[]);have hu:P.underlying (H.t 26)=some (.int .i64):=LK.t26;have af :∀x∈arr.toList,∃n:Int,x.key=.int .i64 n/\keyOf P (H.t 26) x.key=some (.int .i64 n):=by
  intro x hx;have:x.key∈arr.toList.map (·.key):=Xaf.2 ⟨x,hx,rfl⟩;rw[K] at this;obtain⟨p,hp,he⟩:=Xaf.1 this;have hw:(Lit.int .i64 p.1).wf=true:=by have:=Xa0.1 ak p hp;simp only[Wd] at this;simp[Lit.wf,IntKind.min,IntKind.max,Xec,IntKind.bits];omega
  exact⟨p.1,he.symm,by rw[<- he];simp[keyOf,hu,mapKey,hw]⟩
 have F:WideElems.Fit P (H.t 26) R arr M:=by
  refine⟨by unfold Xb3;omega,⟨q4.1,q4.2,?_⟩,λx hx=>?_⟩
  ·rw[K];have:(m.map λp=>Value.int .i64 p.1)=(m.map (·.1)).map (Value.int .i64):=by simp
   rw[this];exact List.pairwise_map.2 (aj.imp λh e=>h (by injection e))
  obtain⟨n,_,h2⟩:=af x hx;exact⟨_,by simp[WideElems.rd,h2,R];rfl⟩
 have hD :∃D0:DataW Unit,w.ownsMap P (H.t 26) R b arr.size D0/\(intKeys D0).Perm (m.map (·.1))/\Maps.size D0=m.length:=by
  refine⟨_,⟨arr,M,q2,F,Xam _,rfl⟩,?_,?_⟩
  ·have h1:=(Xdo (arr.toList.map (Xd6 P (H.t 26) R))).map λp=>Go.intOf p.1;refine h1.trans ?_;have:(arr.toList.map (Xd6 P (H.t 26) R)).map (λp=>Go.intOf p.1)=m.map (·.1):=by
    have h2:arr.toList.map (λx=>(Xd6 P (H.t 26) R x).1)=(arr.toList.map (·.key)).map λv=>match v with|.int _ n=>Lit.int .i64 n|_=>.bool false:=by rw[List.map_map];apply List.map_congr_left;intro x hx;obtain⟨n,g1,g2⟩:=af x hx;rw[g1] at g2;simp[Xd6,WideElems.rd,g2,R,g1]
    have h3:(arr.toList.map (Xd6 P (H.t 26) R)).map (λp=>Go.intOf p.1)=(arr.toList.map (λx=>(Xd6 P (H.t 26) R x).1)).map Go.intOf:=by simp
    rw[h3,h2,K];simp[Go.intOf]
   rw[this]
  have:=(Xdo (arr.toList.map (Xd6 P (H.t 26) R))).length_eq;simp only[X10,Xan] at this;simp only[Maps.size];omega
 obtain⟨D0,ag,a7,al⟩:=hD;have ax:=(mm.ow 0 b c (by simp[vi]) ab).1;have an:=mm.bS B 0 hS;have ah:SeqGives Xef 2 P (H.f 10) #[.pointer (some ⟨B,0,none⟩)] encZ (λss=>ss.Perm (intKeys D0)) (Maps.size D0) w:=
  AnyZI.keys_gives (ρ:=H) { LK with } Xef _ trivial rfl (by omega) B b arr.size D0 w an a6 ag
 have cS:=AnyZI.sorted_in LS Xef 5 trivial trivial trivial trivial rfl (by omega) (Z _) e9 (H.f 10) #[.pointer (some ⟨B,0,none⟩)] trivial eg _ _ (by unfold Xb3;omega) (by omega) w ah;refine (callsIn_wide.1 cS).mono λe' w' ⟨v,ss,he,ao,U,ar,Q⟩=>?_;have ai:(ss.mergeSort λx y=>decide (x<=y))=(m.map (·.1)).mergeSort λx y=>decide (x<=y):=UA (ao.trans a7);obtain⟨m1,k1⟩:=mm.grow (w':=w') (.below Q);have a8:((m.map (·.1)).mergeSort λx y=>decide (x<=y)).length=ss.length:=by rw[<- ai,List.length_mergeSort]
 rw[ai] at U
 obtain⟨φ',m2,k2,Y⟩:=m1.yQ 1 (by simp[vi]) (e:=J.t 26) (v:=v) (xs:=(((m.map (·.1)).mergeSort λx y=>decide (x<=y)).map encZ)) (base:=w.heap.size) (λx hx=>by
   obtain⟨n,_,rfl⟩:=Xaf.1 hx
   rfl) (by rw[X10,a8];exact U) (Xam _) (λr' b' c' h1 h2=>(mm.ow r' b' c' h1 h2).1) (λb' o' h=>mm.bS b' o' h)
 have ap:vd (vi [OB.map k e (Am D.i ev m)]) 1 (some (.row (J.t 26) 1 ((((m.map (·.1)).mergeSort λx y=>decide (x<=y)).map encZ).map .val) .no)) =
   vi [OB.map k e (Am D.i ev m),.row (J.t 26) 1 (Xa1 D.i ((m.map (·.1)).mergeSort λx y=>decide (x<=y))) .no]:=by
  funext q;match q with
  | 0=>rfl
  | 1=>simp[vd,vi,Function.comp_def]
  | q+2=>simp[vd,vi]
 rw[ap] at m2 k2 Y;refine⟨v,he,S,φ',m2,k1.trans k2,?_,λq hq=>?_⟩
 ·simpa using Y
 simp only[AV.refs,X14] at hq;rw[hq];simp[vi]
end Go.AX
end
