/-
  Texts of one proof, packed.
-/
import Derived.Test.YtgbncopbacigiaaGreatDoorD13
import Derived.Test.YtgbncopbacigiaaGreatDoorD14
import Derived.Test.YtgbncopbacigiaaGreatDoorD8
import Derived.Deep.Draws
import Derived.KernelRfl
import Derived.Laws.Externs
import Derived.Laws.IdiomCopy
import Derived.Laws.NewBlocks
import Derived.Lib.AppendZeros
import Derived.Lib.AppendZerosOnto
import Derived.Lib.JoinLaws
import Derived.Lib.Overlaps
import Derived.Lib.SliceRun
import Derived.Lib.Walk
import Derived.Shelf.RegionOpenPlain
import Derived.Shelf.SlSortCmp.Insertion
import Derived.Shelf.Spec.SlicesInsert
import Derived.Shelf.Strings.SlTrimAscii
import Derived.Sort.AssemblyPlain
import Derived.Test.YtgbncopbacigiaaGreatDoorProg
import Derived.WalkKit
set_option linter.all false
set_option maxRecDepth 100000
set_option maxHeartbeats 4000000
open List renaming length_map→X10,length_append→X11,getElem?_eq_getElem→X15,length_drop→X17,length_take→X18,mem_cons_of_mem→X19,length_replicate→X20,length_set→X21
open Option.some renaming inj→X25
open Bool renaming and_eq_true→X27
open Option renaming bind→Xd
open List renaming range→Xb4
open Go renaming Program→Xcz,FuncId→Xcx
open Nat renaming blt→Xbr,ble→Xdi
open ByteArray renaming empty→Xaj
open Array renaming range→Xdd
open Go.Proofs.Tryz renaming prog→Xc9
open Go.IntKind renaming i64→Xdc
section
namespace Go.AX
universe u
abbrev X:AV:=.dead
abbrev N:C OB:=none
def dd:Nat->O AV->O AV
 | 0,l=>l
 | n+1,l=>.dead::dd n l
def nn:Nat->O (C OB)->O (C OB)
 | 0,l=>l
 | n+1,l=>none::nn n l
structure Df where
 tm:List (Nat×AV)
 ob:List (Nat×Option OB)
def xA {α:Type}:O (Nat×α)->O α->(O α->Prop)->Prop
 | [],l,K=>K l
 | (i,a)::d,l,K=>KP l i a λl=>xA d l K
def xw {α:Type}:O (Nat×α)->O α->O α
 | [],l=>l
 | (i,a)::d,l=>xw d (l.set i a)
def vt (B:r9)(d:Df):r9:=⟨xw d.tm B.tm,xw d.ob B.ob⟩
def ug (B:r9)(d:Df)(P:r9->Prop):Prop:=xA d.tm B.tm λtm=>xA d.ob B.ob λob=>P ⟨tm,ob⟩
def XK {α:Type} :∀(d:O (Nat×α)) (l:O α) (K:O α->Prop),xA d l K↔K (xw d l)
 | [],_,_=>Iff.rfl
 | (i,a)::d,l,K=>by simp only[xA,xw,Eb];exact XK d _ K
def Ee {B:r9}{d:Df}{P:r9->Prop}:ug B d P↔P (vt B d):=by unfold ug vt;rw[XK,XK]
inductive Pl:Type 1 where
 | z
 | g (p:Pl)
 | b (p q:Pl)
 | r (p:Pl)
 | l (p:Pl)
 | n (l:List Nat) (p:Pl)
 | x (i j:Nat)
 | i (fn:Func) (n:Nat) (p:Pl)
 | j (fn:Func) (n:Nat) (p:Pl)
 | m (p:Pl)
 | t (p:Pl)
 | e (p:Pl)
 | s (p:Pl)
 | v {α:Type} (f:α->Pl)
 | y (n m:Nat) (p:Pl)
 | c {τ:Type} (p:Pl) (St:τ->Df) (q:τ->Pl)
 | f {α σ:Type} (slot sz:Nat) (enc:α->D) (St:Nat->σ->Df) (q:σ->Nat->α->Pl)
 | o {α σ:Type} (slot e sz:Nat) (enc:α->D) (St:Nat->σ->Df) (q:σ->Nat->α->Pl)
 | w {σ:Type} (St:σ->Df) (q:σ->Pl)
abbrev Pl.k {τ:Type}(St:τ->Df):Pl:=.c .z St λ_=>.z
abbrev Pl.d {τ:Type}(St:τ->Df)(q:τ->Pl):Pl:=.c .z St q
abbrev Pl.a {τ:Type}(p:Pl)(St:τ->Df):Pl:=.c p St λ_=>.z
abbrev Pl.f0 {α σ:Type}(F sz:Nat)(enc:α->D)(St:Nat->σ->Df):Pl:=.f F sz enc St λ_ _ _=>.z
abbrev Pl.o0 {α σ:Type}(F e sz:Nat)(enc:α->D)(St:Nat->σ->Df):Pl:=.o F e sz enc St λ_ _ _=>.z
abbrev Pl.w0 {σ:Type}(St:σ->Df):Pl:=.w St λ_=>.z
class E (α:Type) where
 e:α->D
 z:Nat
instance:E Int:=⟨D.i,1⟩
instance:E S:=⟨D.u8,1⟩
instance:E j:=⟨D.u64,1⟩
instance:E I:=⟨D.b,1⟩
instance:E T:=⟨D.s,1⟩
instance:E Nat:=⟨D.fn,1⟩
instance {α:Type} [E α]:E (O α):=⟨D.l (E.z α) E.e,1⟩
abbrev ed {α:Type}[E α](a:α):AV:=.d (E.e a)
abbrev e2 {α F:Type}[E α][E F](r:α×F):AV:=.sH [.d (E.e r.1),.d (E.e r.2)]
abbrev e3 {α F H:Type}[E α][E F][E H](r:α×F×H):AV:=.sH [.d (E.e r.1),.d (E.e r.2.1),.d (E.e r.2.2)]
abbrev oN {α:Type}:α->O OB:=λ_=>[]
def u2 {α F:Type}{H:Sort u}(f:α->F->H):α×F->H|(a,b)=>f a b
def u3 {α F H:Type}{J:Sort u}(f:α->F->H->J):α×F×H->J|(a,b,c)=>f a b c
def u4 {α F H J:Type}{M:Sort u}(f:α->F->H->J->M):α×F×H×J->M|(a,b,c,d)=>f a b c d
def u6 {α F H J M P:Type}{Q:Sort u}(f:α->F->H->J->M->P->Q):α×F×H×J×M×P->Q|(a,b,c,d,e,x)=>f a b c d e x
structure Wk (B:r9)(p:Pl)(A:Prop):Prop where
 h:A
def Q3 (A:Prop):Prop:=A
def Q4 (A:Prop):Prop:=A
def Q1 (A:Prop):Prop:=A
def Q2 (A:Prop):Prop:=A
def Q6 (A:Prop):Prop:=A
def Q5 (A:Prop):Prop:=A
def Q7 (A:Prop):Prop:=A
def q1 {A:Prop}(h:A):Q1 A:=h
def q2 {A:Prop}(h:A):Q2 A:=h
def q3 {A:Prop}(h:A):Q3 A:=h
def q4 {A:Prop}(h:A):Q4 A:=h
def q5 {A:Prop}(h:A):Q5 A:=h
def q7 {A:Prop}(h:A):Q7 A:=h
def q6 {A:Prop}(h:A):Q6 A:=h
section
variable {U U':r9} {p q:Pl} {α τ ρ σ:Type} {r:ρ} {np:Nat} {t:r9} {d:τ->Df} {k':τ->C ρ} {v0:τ} {b:I} {X Y:C ρ} {A B:Prop} {K:r9->Prop}
def Wk.v {f:α->Pl}(v:α)(h:Wk U (f v) A):Wk U (.v f) A:=⟨h.h⟩
def Wk.y {n m:Nat}(h:Wk ⟨dd n [],nn m []⟩ p A):Wk U (.y n m p) A:=⟨h.h⟩
def Wk.fin {F H:Type}{x y:F}{z w:H}{a:ρ}(h:some a=some r)(k:some a=some r->x=y/\z=w:=by intro h;cases h;exact⟨rfl,rfl⟩):Wk U p (x=y/\z=w):=⟨k h⟩
def Wk.sj (h:k' v0=some r)(F:ug U' (d v0) (λs=>s5 np t s):=by (conv=>whnf);exact wk):Wk U p (∃s,s5 np t s/\∃v,k' v=some r/\s=vt U' (d v)):=⟨Ff (St:=λv=>vt U' (d v)) (Ee.1 F) h⟩
def Wk.yp {n:σ->C ρ}{v:σ}{d:σ->Df}{F:r9->Prop}(h:n v=some r)(g :∀t v,ug U' (d v) (λs=>s5 np t s)->n v=some r->F t)(H:ug U' (d v) (λs=>s5 np t s)):Wk U p (F t):=⟨g _ _ H h⟩
def Wk.yq {n:σ->C ρ}{v:σ}{S:σ->r9}{F:r9->Prop}(h:n v=some r)(g :∀t v,s5 np t (S v)->n v=some r->F t)(H:s5 np t (S v)):Wk U p (F t):=⟨g _ _ H h⟩
def Wk.yh {St:τ->r9}(h:k' v0=some r)(F:s5 np t (St v0):=by exact wk):Wk U p (∃s,s5 np t s/\∃v,k' v=some r/\s=St v):=⟨Ff F h⟩
def Wk.zg {i j:Nat}(h:k' v0=some r)(F:ug U' (d v0) (λs=>s5 np (GN i j t) s):=by (conv=>whnf);exact wk)(H:Nat.ble np i=true:=by rfl)(J:Nat.ble np j=true:=by rfl)(M:(Nat.blt i t.ob.length&&Nat.blt j t.ob.length)=true:=by rfl) :
  Wk U (.x i j) (∃s,s5 np t s/\∃v,k' v=some r/\s=vt U' (d v)):=⟨Ff (St:=λv=>vt U' (d v)) (.swap i j H J M (Ee.1 F)) h⟩
def Wk.zq {i j:Nat}{St:τ->r9}(h:k' v0=some r)(F:s5 np (GN i j t) (St v0):=by exact wk)(H:Nat.ble np i=true:=by rfl)(J:Nat.ble np j=true:=by rfl)(M:(Nat.blt i t.ob.length&&Nat.blt j t.ob.length)=true:=by rfl) :
  Wk U (.x i j) (∃s,s5 np t s/\∃v,k' v=some r/\s=St v):=⟨Ff (.swap i j H J M F) h⟩
def Wk.vg {i j:Nat}{n:σ->C ρ}{v:σ}{d:σ->Df}{F:r9->Prop}(h:n v=some r)(g :∀t v,ug U' (d v) (λs=>s5 np t s)->n v=some r->F t)(H:ug U' (d v) (λs=>s5 np (GN i j t) s))(J:Xdi np i=true)(M:Xdi np j=true) (P:(Xbr i t.ob.length&&Xbr j t.ob.length)=true):Wk U (.x i j) (F t):=⟨g _ _ (Ee.2 (.swap i j J M P (Ee.1 H))) h⟩
def Wk.zl {i j:Nat}{n:σ->C ρ}{v:σ}{S:σ->r9}{F:r9->Prop}(h:n v=some r)(g :∀t v,s5 np t (S v)->n v=some r->F t)(H:s5 np (GN i j t) (S v))(J:Xdi np i=true)(M:Xdi np j=true) (P:(Xbr i t.ob.length&&Xbr j t.ob.length)=true):Wk U (.x i j) (F t):=⟨g _ _ (.swap i j J M P H) h⟩
def Wk.cut {Z:(r9->Prop)->Prop}{m:(τ->C ρ)->C ρ}{k:τ->C ρ}{q:τ->Pl}(h:AC m k=some r) (F:Q4 (∀k':τ->C ρ,m k'=some r->Wk U p (Z (λt=>∃s,s5 np t s/\∃v,k' v=some r/\s=vt U (d v))))) (H:Q6 (∀v,k v=some r->ug U (d v) λs=>Wk s (q v) (K s))):Wk U (.c p d q) (tL np Z K):=
 ⟨Vy (λv=>vt U (d v)) (λk e=>(F k e).h) (λv e=>(Ee.1 (H v e)).h) h⟩
def Wk.g {Z:(r9->Prop)->Prop}(h:Wk U p (Z K)):Wk U (.g p) (tL np Z K):=⟨tL.go h.h⟩
def Wk.go {Z:(r9->Prop)->Prop}(h:Wk U p (Z K)):Wk U p (tL np Z K):=⟨tL.go h.h⟩
def Wk.sy (h:(if b=true then X else Y)=some r)(F:X=some r->Wk U p A)(H:Y=some r->Wk U q B):Wk U (.b p q) (Hv b A B):=⟨NQ (λh=>(F h).h) (λh=>(H h).h) h⟩
def Wk.yk (h:(if b=true then X else Y)=some r)(F:X=some r->Wk U .z A)(H:Y=some r->Wk U .z B):Wk U .z (Hv b A B):=⟨NQ (λh=>(F h).h) (λh=>(H h).h) h⟩
def Wk.st {l:O α}{i:Nat}(h:i<l.length)(k:Wk U p A):Wk U (.t p) (Hv (decide ((i:Int)<(l.length:Int))) A B):=⟨GH (JV h) k.h⟩
def Wk.se {l:O α}(k:Wk U p B):Wk U (.e p) (Hv (decide ((l.length:Int)<(l.length:Int))) A B):=⟨VX fo k.h⟩
def Wk.s (k:Wk U p A):Wk U (.s p) A:=⟨k.h⟩
def Wk.e0 (k:Wk U p A):Wk U (.e p) A:=⟨k.h⟩
def Wk.l (h:Wk U p A):Wk U (.l p) (A\/B):=⟨Or.inl h.h⟩
def Wk.inr (h:Wk U p B):Wk U (.r p) (A\/B):=⟨Or.inr h.h⟩
def Wk.inl (h:Wk U p A):Wk U p (A\/B):=⟨Or.inl h.h⟩
def Wk.dr {F:Array Oper}(k:Wk U p A)(h:tu F=true:=by kernel_rfl):Wk U p (Ef F=true/\A):=⟨yY h k.h⟩
def Wk.tr {F:Array Oper}(k:Wk U p A)(h:(tu F&&Na F)=true:=by kernel_rfl):Wk U p ((Ef F=true/\Na F=true)/\A):=⟨zm h k.h⟩
def Wk.cr {F:Array Oper}{e:List (List Nat×List Nat)}(k:Wk U p A)(h:te F e=true:=by kernel_rfl):Wk U p (EF F 0 e=true/\A):=⟨yZ h k.h⟩
def Wk.len {x y:Nat}(k:Wk U p A)(h:x=y:=by exact MO):Wk U p (x=y/\A):=⟨h,k.h⟩
def Wk.ex {F:Type}{P:F->Prop}{x y:F}(e:x=y)(k:Wk U p (P y)):Wk U p (∃r,x=r/\P r):=⟨_,e,k.h⟩
def Wk.and (h:A)(k:Wk U p B):Wk U p (A/\B):=⟨h,k.h⟩
def Wk.for {body:(AE->r9->Prop)->r9->Prop}{K:AE->r9->Prop}{st:r9}{done:σ->C ρ}{P:(σ->C ρ)->α->Nat->σ->C ρ}{l:O α}{Q:σ}{F sz:Nat}{enc:α->D} {d:Nat->σ->Df} {q:σ->Nat->α->Pl} (h:AI done P l 0 Q=some r) (V:st.tm.getD F .dead=.d (.su sz (l.map enc))) (Z:ug U (d 0 Q) λs=>s5 np st s) (M:Q1 (∀(s:σ) (H:r9->Prop),done s=some r->ug U (d l.length s) λu=>Wk u (.e .z) (body (vu K H) u))) (J:Q2 (∀(s:σ) (next:σ->C ρ) (i:Nat) (x:α) (H:r9->Prop),i<l.length->(l.map enc).getD i default=enc x->Xdc.wrap ((i:Int)+1)=((i+1:Nat):Int)->P next x i s=some r-> (∀t v,ug U (d (i+1) v) (λs=>s5 np t s)->next v=some r->H t)->ug U (d i s) λu=>Wk u (.t (q s i x)) (body (vu K H) u))):Wk U (.f F sz enc d q) (tP np body K st):=
 ⟨By F sz enc V (λi s=>vt U (d i s)) (Ee.1 Z) (λs H h=>(Ee.1 (M s H h)).h) (λn i x s H h1 h2 h3 h4 h5=>(Ee.1 (J s n i x H h1 h2 h3 h4 λt v w=>h5 t v (Ee.1 w))).h) h⟩
def Wk.own {body:(AE->r9->Prop)->r9->Prop}{K:AE->r9->Prop}{st:r9}{done:σ->C ρ}{P:(σ->C ρ)->α->Nat->σ->C ρ}{l:O α}{Q:σ}{F e sz:Nat}{enc:α->D} {d:Nat->σ->Df} {q:σ->Nat->α->Pl} (h:AI done P l 0 Q=some r) (V:st.ob.getD F none=some (.row e sz (l.map enc) .no)) (Z:ug U (d 0 Q) λs=>s5 np st s) (M:Q1 (∀(s:σ) (H:r9->Prop),done s=some r->ug U (d l.length s) λu=>Wk u (.e .z) (body (vu K H) u))) (J:Q2 (∀(s:σ) (next:σ->C ρ) (i:Nat) (x:α) (H:r9->Prop),i<l.length->(l.map enc).getD i default=enc x->Xdc.wrap ((i:Int)+1)=((i+1:Nat):Int)->P next x i s=some r-> (∀t v,ug U (d (i+1) v) (λs=>s5 np t s)->next v=some r->H t)->ug U (d i s) λu=>Wk u (.t (q s i x)) (body (vu K H) u))):Wk U (.o F e sz enc d q) (tP np body K st):=
 ⟨QY F e sz .no enc V (λi s=>vt U (d i s)) (Ee.1 Z) (λs H h=>(Ee.1 (M s H h)).h) (λn i x s H h1 h2 h3 h4 h5=>(Ee.1 (J s n i x H h1 h2 h3 h4 λt v w=>h5 t v (Ee.1 w))).h) h⟩
def Wk.zx {body:(AE->r9->Prop)->r9->Prop}{K:AE->r9->Prop}{st:r9}{J:(σ->C ρ)->σ->C ρ}{n:Nat}{M:σ}{d:σ->Df}{q:σ->Pl} (h:Ai J n M=some r) (P:ug U (d M) λs=>s5 np st s) (F:Q5 (∀(s:σ) (next:σ->C ρ) (H:r9->Prop),J next s=some r->(∀t v,ug U (d v) (λs=>s5 np t s)->next v=some r->H t)->ug U (d s) λu=>Wk u (q s) (body (vu K H) u))):Wk U (.w d q) (tP np body K st):=
 ⟨E3 (λs=>vt U (d s)) (Ee.1 P) (λn s H Q V=>(Ee.1 (F s n H Q λt v w=>V t v (Ee.1 w))).h) h⟩
variable {l m:O α} {f:α->D} {by' sz:Nat} {i i':Int} {kl:O α->C ρ} {ML:O D->Prop} {MD:D->Prop} {k:α->C ρ}
def Wk.sR [Decidable A]{k:Unit->C ρ}(h:Xd (sR A) k=some r)(n:Q3 (∀u,k u=some r->Wk U p B)):Wk U p (A/\B):=by obtain⟨u,g,h⟩:=Aa h;exact⟨Ew g,(n u h).h⟩
def Wk.gb (h:Xd (iX l i) k=some r)(n:Q7 (∀v,iX l i=some v->k v=some r->Wk U p A)):Wk U p ((0<=i/\i<((l.map f).length:Int))/\A):=by obtain⟨v,g,h⟩:=Aa h;exact⟨I5 g,(n v g h).h⟩
def Wk.gd {v:α}(g:iX l i=some v)(n:Wk U p (MD (f v))):Wk U p (∃x,(l.map f).getD i.toNat default=x/\MD x):=⟨_,Nk g,n.h⟩
def Wk.ib {i:Nat}(b:i<l.length)(n:Wk U p A):Wk U p ((0<=(i:Int)/\(i:Int)<((l.map f).length:Int))/\A):=⟨Eo b,n.h⟩
def Wk.set {v:α}(h:Xd (sx l i v) kl=some r)(n:Q7 (∀F,F.length=l.length->kl F=some r->Wk U p (ML (F.map f)))):Wk U p (∃zs,(l.map f).set i.toNat (f v)=zs/\ML zs):=by obtain⟨v,g,h⟩:=Aa h;exact⟨_,mf g,(n v (gC g) h).h⟩
def Wk.zt {F:Type}{o:C F}{z:F}{H:D}{f:F->D}{J:F->C ρ}(h:Xd (some (o.getD z)) J=some r)(n:Q3 (∀v,J v=some r->Wk U p (MD (f v))))(M:H=f z):Wk U p (∃v,(o.map f).getD H=v/\MD v):=by obtain⟨v,g,h⟩:=Aa h;exact⟨_,j4 M g,(n v h).h⟩
def Wk.zj {F:Type}{o:C F}{f:F->D}{H:I->C ρ}{J:I->Prop}(h:Xd (some o.isSome) H=some r)(n:Q3 (∀v,H v=some r->Wk U p (J v))):Wk U p (∃b,(o.map f).isSome=b/\J b):=by obtain⟨v,g,h⟩:=Aa h;exact⟨_,kp g,(n v h).h⟩
def Wk.ms {F H:Type}[BEq F]{tk:TK}{ek:F->D}{ev:H->D}{es:O (F×H)}{kd J:D}{x:F}{v:H}{P:O (D×D)->Prop}(e :∀a b,C7 tk (ek a) (ek b)=some (a==b))(k:Wk U p (P (BS ek ev (A3 es x v))))(M:kd=ek x)(Q:J=ev v):Wk U p (∃zs,ER tk kd J (BS ek ev es)=some zs/\P zs):=by subst M Q;exact⟨_,NZ e,k.h⟩
def Wk.yD {F:Type}{P:F->Prop}{x:C F}{y:F}(e:x=some y)(k:Wk U p (P y)):Wk U p (∃r,x=some r/\P r):=⟨_,e,k.h⟩
def Wk.yS (h:Xd (gE by' l m) kl=some r)(n:Q3 (∀v,kl v=some r->Wk U p (ML (v.map f)))):Wk U p ((((l.map f).length+(m.map f).length)*by'<=2^47/\(l.map f).length+(m.map f).length<=2^47)/\∃zs,l.map f++m.map f=zs/\ML zs):=⟨(Go.AX.xG (A:=True) h trivial λv e=>(n v e).h).2⟩
def Wk.vH (h:Xd (gE by' [] m) kl=some r)(n:Q3 (∀v,kl v=some r->Wk U p A)):Wk U p (((m.map f).length*by'<=2^47/\(m.map f).length<=2^47)/\A):=⟨Go.AX.vH h λv e=>(n v e).h⟩
def Wk.get (h:Xd (iX l i) k=some r)(n:Q3 (∀v,k v=some r->Wk U p (MD (f v))))(e :∀v,(f v).cells.length=sz):Wk U p ((0<=i/\i<((l.map f).length:Int))/\∃x,(l.map f).getD i.toNat default=x/\x.cells.length=sz/\MD x):=⟨Fq h e λv e=>(n v e).h⟩
def Wk.wS (h:Xd (part l i i') kl=some r)(n:Q3 (∀v,kl v=some r->Wk U p (ML (v.map f)))):Wk U p ((0<=i/\i<=i'/\i'<=((l.map f).length:Int))/\∃ys,((l.map f).drop i.toNat).take (i'.toNat-i.toNat)=ys/\ML ys):=⟨qO h λv e=>(n v e).h⟩
def Wk.ye (h:Xd (part l i l.length) kl=some r)(n:Q3 (∀v,kl v=some r->Wk U p (ML (v.map f)))) : Wk U p ((0<=i/\i<=((l.map f).length:Int)/\((l.map f).length:Int)<=((l.map f).length:Int))/\∃ys,((l.map f).drop i.toNat).take (((l.map f).length:Int).toNat-i.toNat)=ys/\ML ys):=⟨qS h λv e=>(n v e).h⟩
def Wk.idx {i:Nat}{x:α}(b:i<l.length)(c:(l.map f).getD i default=f x)(n:Wk U p (MD (f x)))(e:(f x).cells.length=sz):Wk U p ((0<=(i:Int)/\(i:Int)<((l.map f).length:Int))/\∃x,(l.map f).getD (i:Int).toNat default=x/\x.cells.length=sz/\MD x):=⟨Eo b,_,c,e,n.h⟩
def lv {α F:Type}{P:α×F->Prop}(h :∀a b,P (a,b)) :∀v,P v:=λ(a,b)=>h a b
def mc {α F H:Type}{P:α×F×H->Prop}(h :∀a b c,P (a,b,c)) :∀v,P v:=λ(a,b,c)=>h a b c
def lh {α F H J:Type}{P:α×F×H×J->Prop}(h :∀a b c d,P (a,b,c,d)) :∀v,P v:=λ(a,b,c,d)=>h a b c d
def ln {α F H J M:Type}{P:α×F×H×J×M->Prop}(h :∀a b c d e,P (a,b,c,d,e)) :∀v,P v:=λ(a,b,c,d,e)=>h a b c d e
def mz {α F H J M Q:Type}{P:α×F×H×J×M×Q->Prop}(h :∀a b c d e x,P (a,b,c,d,e,x)) :∀v,P v:=λ(a,b,c,d,e,x)=>h a b c d e x
end
end Go.AX
end
section
namespace Go.AX.Q29
open Go Go.AX Go.Proofs
def zd:TI:=⟨.int .i64,1,8,[.val (.int .i64 0)]⟩
def zp:TI:=⟨.bool,1,1,[.val (.bool false)]⟩
def zn:TI:=⟨.int .u8,1,1,[.val (.int .u8 0)]⟩
def zu:TI:=⟨.str,1,16,[.val (.string Xaj)]⟩
def qG:TI:=⟨.slice 3,1,24,[.nil 1]⟩
def ql:TI:=⟨.ptr,1,8,[.val (.pointer none)]⟩
def rB:TI:=⟨.slice 80,1,24,[.nil 4]⟩
def qh:TI:=⟨.slice 132,1,24,[.nil 2]⟩
def qt:TI:=⟨.slice 137,1,24,[.nil 3]⟩
def qP:TI:=⟨.slice 134,1,24,[.nil 6]⟩
def qn:TI:=⟨.struct [(0,1,27),(1,1,28)],2,48,[.nil 3,.nil 6]⟩
def qp:TI:=⟨.struct [(0,1,27),(1,1,28)],2,48,[.nil 3,.nil 6]⟩
def qH:TI:=⟨.struct [(0,1,3),(1,1,25),(2,1,3),(3,1,3),(4,1,3),(5,1,3),(6,1,3),(7,1,3),(8,1,25),(9,1,26),(10,1,22),(11,1,3),(12,2,30),(14,1,28)],15,232,[.val (.int .i64 0),.nil 4,.val (.int .i64 0),.val (.int .i64 0),.val (.int .i64 0),.val (.int .i64 0),.val (.int .i64 0),.val (.int .i64 0),.nil 4,.nil 2,.nil 1,.val (.int .i64 0),.nil 3,.nil 6,.nil 6]⟩
def qi:TI:=⟨.struct [(0,1,3),(1,1,25),(2,1,3),(3,1,3),(4,1,3),(5,1,3),(6,1,3),(7,1,3),(8,1,25),(9,1,26),(10,1,22),(11,1,3),(12,2,30),(14,1,28)],15,232,[.val (.int .i64 0),.nil 4,.val (.int .i64 0),.val (.int .i64 0),.val (.int .i64 0),.val (.int .i64 0),.val (.int .i64 0),.val (.int .i64 0),.nil 4,.nil 2,.nil 1,.val (.int .i64 0),.nil 3,.nil 6,.nil 6]⟩
def qX:TI:=⟨.slice 72,1,24,[.nil 7]⟩
def qm:TI:=⟨.slice 108,1,24,[.nil 8]⟩
def qR:TI:=⟨.struct [(0,15,32),(15,1,33),(16,1,34)],17,280,[.val (.int .i64 0),.nil 4,.val (.int .i64 0),.val (.int .i64 0),.val (.int .i64 0),.val (.int .i64 0),.val (.int .i64 0),.val (.int .i64 0),.nil 4,.nil 2,.nil 1,.val (.int .i64 0),.nil 3,.nil 6,.nil 6,.nil 7,.nil 8]⟩
def pj:TI:=⟨.struct [(0,15,32),(15,1,33),(16,1,34)],17,280,[.val (.int .i64 0),.nil 4,.val (.int .i64 0),.val (.int .i64 0),.val (.int .i64 0),.val (.int .i64 0),.val (.int .i64 0),.val (.int .i64 0),.nil 4,.nil 2,.nil 1,.val (.int .i64 0),.nil 3,.nil 6,.nil 6,.nil 7,.nil 8]⟩
def pz:TI:=⟨.slice 43,1,24,[.nil 1]⟩
def rE:TI:=⟨.struct [(0,17,36),(17,1,37)],18,304,[.val (.int .i64 0),.nil 4,.val (.int .i64 0),.val (.int .i64 0),.val (.int .i64 0),.val (.int .i64 0),.val (.int .i64 0),.val (.int .i64 0),.nil 4,.nil 2,.nil 1,.val (.int .i64 0),.nil 3,.nil 6,.nil 6,.nil 7,.nil 8,.nil 1]⟩
def rA:TI:=⟨.struct [(0,17,36),(17,1,37)],18,304,[.val (.int .i64 0),.nil 4,.val (.int .i64 0),.val (.int .i64 0),.val (.int .i64 0),.val (.int .i64 0),.val (.int .i64 0),.val (.int .i64 0),.nil 4,.nil 2,.nil 1,.val (.int .i64 0),.nil 3,.nil 6,.nil 6,.nil 7,.nil 8,.nil 1]⟩
def qc:TI:=⟨.slice 74,1,24,[.nil 24]⟩
def qj:TI:=⟨.slice 82,1,24,[.nil 16]⟩
def qN:TI:=⟨.slice 87,1,24,[.nil 22]⟩
def pZ:TI:=⟨.struct [(0,1,22),(1,1,3)],2,32,[.nil 1,.val (.int .i64 0)]⟩
def pn:TI:=⟨.struct [(0,1,22),(1,1,3)],2,32,[.nil 1,.val (.int .i64 0)]⟩
def qM:TI:=⟨.int .i64,1,8,[.val (.int .i64 0)]⟩
def qL:TI:=⟨.slice 98,1,24,[.nil 2]⟩
def rF:TI:=⟨.int .u64,1,8,[.val (.int .u64 0)]⟩
def qD:TI:=⟨.struct [(0,1,4),(1,1,60),(2,1,60)],3,24,[.val (.bool false),.val (.int .u64 0),.val (.int .u64 0)]⟩
def qf:TI:=⟨.struct [(0,1,4),(1,1,60),(2,1,60)],3,24,[.val (.bool false),.val (.int .u64 0),.val (.int .u64 0)]⟩
def pg:TI:=⟨.slice 157,1,24,[.nil 2]⟩
def po:TI:=⟨.slice 159,1,24,[.nil 3]⟩
def qU:TI:=⟨.slice 162,1,24,[.nil 3]⟩
def qC:TI:=⟨.struct [(0,1,3),(1,1,59),(2,3,62),(5,1,3),(6,1,3),(7,1,3),(8,1,63),(9,1,64),(10,1,65)],11,152,[.val (.int .i64 0),.nil 2,.val (.bool false),.val (.int .u64 0),.val (.int .u64 0),.val (.int .i64 0),.val (.int .i64 0),.val (.int .i64 0),.nil 2,.nil 3,.nil 3]⟩
def qE:TI:=⟨.struct [(0,1,3),(1,1,59),(2,3,62),(5,1,3),(6,1,3),(7,1,3),(8,1,63),(9,1,64),(10,1,65)],11,152,[.val (.int .i64 0),.nil 2,.val (.bool false),.val (.int .u64 0),.val (.int .u64 0),.val (.int .i64 0),.val (.int .i64 0),.val (.int .i64 0),.nil 2,.nil 3,.nil 3]⟩
def qJ:TI:=⟨.struct [(0,1,25),(1,11,67),(12,1,25)],13,200,[.nil 4,.val (.int .i64 0),.nil 2,.val (.bool false),.val (.int .u64 0),.val (.int .u64 0),.val (.int .i64 0),.val (.int .i64 0),.val (.int .i64 0),.nil 2,.nil 3,.nil 3,.nil 4]⟩
def qF:TI:=⟨.struct [(0,1,25),(1,11,67),(12,1,25)],13,200,[.nil 4,.val (.int .i64 0),.nil 2,.val (.bool false),.val (.int .u64 0),.val (.int .u64 0),.val (.int .i64 0),.val (.int .i64 0),.val (.int .i64 0),.nil 2,.nil 3,.nil 3,.nil 4]⟩
def pw:TI:=⟨.slice 139,1,24,[.nil 2]⟩
def qe:TI:=⟨.struct [(0,1,3),(1,1,4),(2,1,4),(3,1,4),(4,1,3),(5,1,22),(6,1,70)],7,72,[.val (.int .i64 0),.val (.bool false),.val (.bool false),.val (.bool false),.val (.int .i64 0),.nil 1,.nil 2]⟩
def pV:TI:=⟨.struct [(0,1,3),(1,1,4),(2,1,4),(3,1,4),(4,1,3),(5,1,22),(6,1,70)],7,72,[.val (.int .i64 0),.val (.bool false),.val (.bool false),.val (.bool false),.val (.int .i64 0),.nil 1,.nil 2]⟩
def pY:TI:=⟨.struct [(0,1,3),(1,1,3),(2,1,3),(3,1,3),(4,13,69),(17,7,72)],24,304,[.val (.int .i64 0),.val (.int .i64 0),.val (.int .i64 0),.val (.int .i64 0),.nil 4,.val (.int .i64 0),.nil 2,.val (.bool false),.val (.int .u64 0),.val (.int .u64 0),.val (.int .i64 0),.val (.int .i64 0),.val (.int .i64 0),.nil 2,.nil 3,.nil 3,.nil 4,.val (.int .i64 0),.val (.bool false),.val (.bool false),.val (.bool false),.val (.int .i64 0),.nil 1,.nil 2]⟩
def qq:TI:=⟨.struct [(0,1,3),(1,1,3),(2,1,3),(3,1,3),(4,13,69),(17,7,72)],24,304,[.val (.int .i64 0),.val (.int .i64 0),.val (.int .i64 0),.val (.int .i64 0),.nil 4,.val (.int .i64 0),.nil 2,.val (.bool false),.val (.int .u64 0),.val (.int .u64 0),.val (.int .i64 0),.val (.int .i64 0),.val (.int .i64 0),.nil 2,.nil 3,.nil 3,.nil 4,.val (.int .i64 0),.val (.bool false),.val (.bool false),.val (.bool false),.val (.int .i64 0),.nil 1,.nil 2]⟩
def pu:TI:=⟨.struct [(0,3,62),(3,1,3)],4,32,[.val (.bool false),.val (.int .u64 0),.val (.int .u64 0),.val (.int .i64 0)]⟩
def qW:TI:=⟨.struct [(0,3,62),(3,1,3)],4,32,[.val (.bool false),.val (.int .u64 0),.val (.int .u64 0),.val (.int .i64 0)]⟩
def pq:TI:=⟨.struct [(0,4,80),(4,1,3),(5,11,67)],16,192,[.val (.bool false),.val (.int .u64 0),.val (.int .u64 0),.val (.int .i64 0),.val (.int .i64 0),.val (.int .i64 0),.nil 2,.val (.bool false),.val (.int .u64 0),.val (.int .u64 0),.val (.int .i64 0),.val (.int .i64 0),.val (.int .i64 0),.nil 2,.nil 3,.nil 3]⟩
def qZ:TI:=⟨.struct [(0,4,80),(4,1,3),(5,11,67)],16,192,[.val (.bool false),.val (.int .u64 0),.val (.int .u64 0),.val (.int .i64 0),.val (.int .i64 0),.val (.int .i64 0),.nil 2,.val (.bool false),.val (.int .u64 0),.val (.int .u64 0),.val (.int .i64 0),.val (.int .i64 0),.val (.int .i64 0),.nil 2,.nil 3,.nil 3]⟩
def qA:TI:=⟨.struct [(0,1,3),(1,4,80),(5,1,4),(6,16,82)],22,240,[.val (.int .i64 0),.val (.bool false),.val (.int .u64 0),.val (.int .u64 0),.val (.int .i64 0),.val (.bool false),.val (.bool false),.val (.int .u64 0),.val (.int .u64 0),.val (.int .i64 0),.val (.int .i64 0),.val (.int .i64 0),.nil 2,.val (.bool false),.val (.int .u64 0),.val (.int .u64 0),.val (.int .i64 0),.val (.int .i64 0),.val (.int .i64 0),.nil 2,.nil 3,.nil 3]⟩
def rD:TI:=⟨.struct [(0,1,3),(1,4,80),(5,1,4),(6,16,82)],22,240,[.val (.int .i64 0),.val (.bool false),.val (.int .u64 0),.val (.int .u64 0),.val (.int .i64 0),.val (.bool false),.val (.bool false),.val (.int .u64 0),.val (.int .u64 0),.val (.int .i64 0),.val (.int .i64 0),.val (.int .i64 0),.nil 2,.val (.bool false),.val (.int .u64 0),.val (.int .u64 0),.val (.int .i64 0),.val (.int .i64 0),.val (.int .i64 0),.nil 2,.nil 3,.nil 3]⟩
def qw:TI:=⟨.fn,1,8,[.val .nilFunc]⟩
def qK:TI:=⟨.fn,1,8,[.val .nilFunc]⟩
def qI:TI:=⟨.struct [(0,1,4),(1,1,22)],2,32,[.val (.bool false),.nil 1]⟩
def qY:TI:=⟨.struct [(0,1,4),(1,1,22)],2,32,[.val (.bool false),.nil 1]⟩
def o9:TI:=⟨.slice 62,1,24,[.nil 3]⟩
def nj:TI:=⟨.struct [(0,1,3),(1,1,9),(2,1,3),(3,1,3),(4,1,102)],5,64,[.val (.int .i64 0),.val (.string Xaj),.val (.int .i64 0),.val (.int .i64 0),.nil 3]⟩
def oG:TI:=⟨.struct [(0,1,3),(1,1,9),(2,1,3),(3,1,3),(4,1,102)],5,64,[.val (.int .i64 0),.val (.string Xaj),.val (.int .i64 0),.val (.int .i64 0),.nil 3]⟩
def oZ:TI:=⟨.slice 143,1,24,[.nil 18]⟩
def pL:TI:=⟨.struct [(0,5,104),(5,1,4),(6,1,106),(7,1,3)],8,104,[.val (.int .i64 0),.val (.string Xaj),.val (.int .i64 0),.val (.int .i64 0),.nil 3,.val (.bool false),.nil 18,.val (.int .i64 0)]⟩
def oM:TI:=⟨.struct [(0,5,104),(5,1,4),(6,1,106),(7,1,3)],8,104,[.val (.int .i64 0),.val (.string Xaj),.val (.int .i64 0),.val (.int .i64 0),.nil 3,.val (.bool false),.nil 18,.val (.int .i64 0)]⟩
def pR:TI:=⟨.int .u64,1,8,[.val (.int .u64 0)]⟩
def ni:TI:=⟨.struct [(0,1,3),(1,1,3)],2,16,[.val (.int .i64 0),.val (.int .i64 0)]⟩
def oq:TI:=⟨.struct [(0,1,3),(1,1,3)],2,16,[.val (.int .i64 0),.val (.int .i64 0)]⟩
def pI:TI:=⟨.struct [(0,4,80),(4,1,3),(5,1,3)],6,48,[.val (.bool false),.val (.int .u64 0),.val (.int .u64 0),.val (.int .i64 0),.val (.int .i64 0),.val (.int .i64 0)]⟩
def o5:TI:=⟨.struct [(0,4,80),(4,1,3),(5,1,3)],6,48,[.val (.bool false),.val (.int .u64 0),.val (.int .u64 0),.val (.int .i64 0),.val (.int .i64 0),.val (.int .i64 0)]⟩
def oL:TI:=⟨.slice 9,1,24,[.nil 1]⟩
def nK:TI:=⟨.struct [(0,1,9),(1,1,22),(2,1,135)],3,64,[.val (.string Xaj),.nil 1,.nil 1]⟩
def ou:TI:=⟨.struct [(0,1,9),(1,1,22),(2,1,135)],3,64,[.val (.string Xaj),.nil 1,.nil 1]⟩
def o4:TI:=⟨.struct [(0,1,3),(1,1,3)],2,16,[.val (.int .i64 0),.val (.int .i64 0)]⟩
def oa:TI:=⟨.struct [(0,1,3),(1,1,3)],2,16,[.val (.int .i64 0),.val (.int .i64 0)]⟩
def pA:TI:=⟨.struct [(0,16,82),(16,1,3),(17,1,4)],18,208,[.val (.bool false),.val (.int .u64 0),.val (.int .u64 0),.val (.int .i64 0),.val (.int .i64 0),.val (.int .i64 0),.nil 2,.val (.bool false),.val (.int .u64 0),.val (.int .u64 0),.val (.int .i64 0),.val (.int .i64 0),.val (.int .i64 0),.nil 2,.nil 3,.nil 3,.val (.int .i64 0),.val (.bool false)]⟩
def oS:TI:=⟨.struct [(0,16,82),(16,1,3),(17,1,4)],18,208,[.val (.bool false),.val (.int .u64 0),.val (.int .u64 0),.val (.int .i64 0),.val (.int .i64 0),.val (.int .i64 0),.nil 2,.val (.bool false),.val (.int .u64 0),.val (.int .u64 0),.val (.int .i64 0),.val (.int .i64 0),.val (.int .i64 0),.nil 2,.nil 3,.nil 3,.val (.int .i64 0),.val (.bool false)]⟩
def nM:TI:=⟨.fn,1,8,[.val .nilFunc]⟩
def nX:TI:=⟨.struct [(0,1,3),(1,1,3)],2,16,[.val (.int .i64 0),.val (.int .i64 0)]⟩
def nJ:TI:=⟨.struct [(0,1,3),(1,1,3)],2,16,[.val (.int .i64 0),.val (.int .i64 0)]⟩
def pB:TI:=⟨.struct [(0,1,3),(1,1,3),(2,1,3)],3,24,[.val (.int .i64 0),.val (.int .i64 0),.val (.int .i64 0)]⟩
def nP:TI:=⟨.struct [(0,1,3),(1,1,3),(2,1,3)],3,24,[.val (.int .i64 0),.val (.int .i64 0),.val (.int .i64 0)]⟩
def nu:TI:=⟨.slice 5,1,24,[.nil 1]⟩
def nI:TI:=⟨.struct [(0,1,3),(1,1,3),(2,1,160)],3,40,[.val (.int .i64 0),.val (.int .i64 0),.nil 1]⟩
def pP:TI:=⟨.struct [(0,1,3),(1,1,3),(2,1,160)],3,40,[.val (.int .i64 0),.val (.int .i64 0),.nil 1]⟩
def oJ:TI:=⟨.fn,1,8,[.val .nilFunc]⟩
def nk:TI:=⟨.fn,1,8,[.val .nilFunc]⟩
def pG:TI:=⟨.int .u32,1,4,[.val (.int .u32 0)]⟩
def oo:TI:=⟨.fn,1,8,[.val .nilFunc]⟩
def oC:TI:=⟨.fn,1,8,[.val .nilFunc]⟩
def oe:TI:=⟨.fn,1,8,[.val .nilFunc]⟩
def nV:TI:=⟨.map 9 4,1,8,[.val (.map none)]⟩
def pN:TI:=⟨.fn,1,8,[.val .nilFunc]⟩
def pU:TI:=⟨.fn,1,8,[.val .nilFunc]⟩
def ov:TI:=⟨.fn,1,8,[.val .nilFunc]⟩
def oh:TI:=⟨.arr 2 3,2,16,[.val (.int .i64 0),.val (.int .i64 0)]⟩
def oY:TI:=⟨.fn,1,8,[.val .nilFunc]⟩
def pE:TI:=⟨.fn,1,8,[.val .nilFunc]⟩
def od:TI:=⟨.fn,1,8,[.val .nilFunc]⟩
def oj:TI:=⟨.map 3 160,1,8,[.val (.map none)]⟩
def oU:TI:=⟨.fn,1,8,[.val .nilFunc]⟩
def ng:TI:=⟨.fn,1,8,[.val .nilFunc]⟩
def oc:TI:=⟨.struct [(0,1,3),(1,1,3)],2,16,[.val (.int .i64 0),.val (.int .i64 0)]⟩
def pJ:TI:=⟨.slice 305,1,24,[.nil 2]⟩
def oW:TI:=⟨.arr 5 3,5,40,[.val (.int .i64 0),.val (.int .i64 0),.val (.int .i64 0),.val (.int .i64 0),.val (.int .i64 0)]⟩
def pT:TI:=⟨.fn,1,8,[.val .nilFunc]⟩
def ny:TI:=⟨.map 3 3,1,8,[.val (.map none)]⟩
def nY:TI:=⟨.struct [(0,1,4),(1,1,4),(2,1,4),(3,1,4),(4,1,3)],5,16,[.val (.bool false),.val (.bool false),.val (.bool false),.val (.bool false),.val (.int .i64 0)]⟩
def om:TI:=⟨.struct [(0,1,4),(1,1,4),(2,1,4),(3,1,4),(4,1,3)],5,16,[.val (.bool false),.val (.bool false),.val (.bool false),.val (.bool false),.val (.int .i64 0)]⟩
def nH:TI:=⟨.fn,1,8,[.val .nilFunc]⟩
def tt:TT:=(.node 98 qY (.node 55 qM (.node 32 qi (.node 25 rB (.node 9 zu (.node 4 zp (.node 3 zd .s4 .s4) (.node 5 zn .s4 .s4)) (.node 23 ql (.node 22 qG .s4 .s4) .s4)) (.node 29 qn (.node 27 qt (.node 26 qh .s4 .s4) (.node 28 qP .s4 .s4)) (.node 31 qH (.node 30 qp .s4 .s4) .s4))) (.node 39 rA (.node 36 pj (.node 34 qm (.node 33 qX .s4 .s4) (.node 35 qR .s4 .s4)) (.node 38 rE (.node 37 pz .s4 .s4) .s4)) (.node 44 qN (.node 43 qj (.node 40 qc .s4 .s4) .s4) (.node 53 pn (.node 52 pZ .s4 .s4) .s4)))) (.node 71 qe (.node 65 qU (.node 62 qf (.node 60 rF (.node 59 qL .s4 .s4) (.node 61 qD .s4 .s4)) (.node 64 po (.node 63 pg .s4 .s4) .s4)) (.node 68 qJ (.node 67 qE (.node 66 qC .s4 .s4) .s4) (.node 70 pw (.node 69 qF .s4 .s4) .s4))) (.node 82 qZ (.node 79 pu (.node 73 pY (.node 72 pV .s4 .s4) (.node 74 qq .s4 .s4)) (.node 81 pq (.node 80 qW .s4 .s4) .s4)) (.node 92 qw (.node 87 rD (.node 86 qA .s4 .s4) .s4) (.node 97 qI (.node 94 qK .s4 .s4) .s4))))) (.node 162 pP (.node 136 nK (.node 129 pR (.node 106 oZ (.node 103 nj (.node 102 o9 .s4 .s4) (.node 104 oG .s4 .s4)) (.node 108 oM (.node 107 pL .s4 .s4) .s4)) (.node 133 pI (.node 132 oq (.node 131 ni .s4 .s4) .s4) (.node 135 oL (.node 134 o5 .s4 .s4) .s4))) (.node 156 nX (.node 142 pA (.node 138 o4 (.node 137 ou .s4 .s4) (.node 139 oa .s4 .s4)) (.node 154 nM (.node 143 oS .s4 .s4) .s4)) (.node 159 nP (.node 158 pB (.node 157 nJ .s4 .s4) .s4) (.node 161 nI (.node 160 nu .s4 .s4) .s4)))) (.node 271 pE (.node 225 nV (.node 190 oo (.node 167 nk (.node 165 oJ .s4 .s4) (.node 185 pG .s4 .s4)) (.node 211 oe (.node 209 oC .s4 .s4) .s4)) (.node 259 ov (.node 227 pU (.node 226 pN .s4 .s4) .s4) (.node 268 oY (.node 261 oh .s4 .s4) .s4))) (.node 308 oW (.node 296 ng (.node 275 oj (.node 273 od .s4 .s4) (.node 294 oU .s4 .s4)) (.node 307 pJ (.node 305 oc .s4 .s4) .s4)) (.node 320 nY (.node 318 ny (.node 310 pT .s4 .s4) .s4) (.node 339 nH (.node 321 om .s4 .s4) .s4))))))
def cT:rc Xc9 tt:=TY (by kernel_rfl)
end Go.AX.Q29
end
section
namespace Go.AX
section
variable {P:Program} {E:Env} {w w':B} {S:Sc} {φ:Nat->C (Nat×Rp)} {ob:Nat->C OB}
structure Grown (wl:Prop)(w w':World):Prop where
 hp :∀b,b<w.heap.size->w'.heap[b]?=w.heap[b]?
 sz:w.heap.size<=w'.heap.size
 os:w'.os=w.os
 out:w'.output=w.output
 tape:w'.tape=w.tape
 dr:wl\/w.drawn<=w'.drawn
def Grown.refl (wl:Prop)(w:B):Grown wl w w:=⟨λ_ _=>rfl,Xa8 _,rfl,rfl,rfl,.inr (Xa8 _)⟩
def Grown.trans {wl:Prop}{a b c:B}(h:Grown wl a b)(k:Grown wl b c):Grown wl a c:=
 ⟨λn F=>(k.hp n (Xap F h.sz)).trans (h.hp n F),Xa3 h.sz k.sz,k.os.trans h.os,k.out.trans h.out,k.tape.trans h.tape,h.dr.elim .inl λx=>k.dr.imp_right λy=>Xa3 x y⟩
def Grown.alloc {wl:Prop}(w:B)(o:Obj):Grown wl w (w.alloc o):=⟨λb F=>GQ w o F,by simp,rfl,rfl,rfl,.inr (Xa8 _)⟩
def Grown.drewN {wl:Prop}(w:B)(n:Nat):Grown wl w (w.drewN n):=⟨λ_ _=>rfl,Xa8 _,rfl,rfl,rfl,.inr (Nat.le_add_right _ _)⟩
def Mem.grow (m:Mem E w S φ ob)(h:Grown E.wl.wl w w'):Mem E w' S φ ob/\Kept w S φ ob w' S φ ob:=
 m.grown h.hp h.sz ⟨h.os,h.out,h.tape,h.dr⟩
end
def wn (P : Xcz)(f : Xcx) : Prop := ∃ fn, P.funcs[f]? = some fn ∧ fn.name ≠ "runtime.NumGoroutine" ∧ fn.body.isSome = true
def wt {P : Xcz}{f : Xcx}{fn : Func}(h : P.funcs[f]? = some fn)(F : (fn.name == "runtime.NumGoroutine") = false)(H : fn.body.isSome = true) : wn P f := ⟨fn, h, by simpa using F, H⟩
end Go.AX
end
section
namespace Go.AX
open Go.Proofs
end Go.AX
end
section
namespace Go.AX
open Go.Sort
def tM {X:Type}(cmp:X->X->C Int)(a b:X):I:=match cmp a b with
 | some r=>decide (r<0)
 | none=>false
def Uf {X:Type}(cmp:X->X->C Int)(l:O X):I:=
 (l.all λa=>l.all λb=>(cmp a b).isSome)&&(l.all λa=>!tM cmp a a) &&
 (l.all λa=>l.all λb=>l.all λc=>!(tM cmp a b) || !(tM cmp b c) || tM cmp a c) &&
 (l.all λa=>l.all λb=>l.all λc=>tM cmp a b || tM cmp b c || !(tM cmp a c))&&decide (l.length<=1000000000)
def wj {X:Type}(l:O X)(i:Nat):C X:=l[min i (l.length-1)]?
def wT {X:Type}(cmp:X->X->C Int)(l:O X)(i j:Nat):Int:=match wj l i,wj l j with
 | some a,some b=>(cmp a b).getD 0
 | _,_=>0
def JU {X:Type}(cmp:X->X->C Int)(l:O X):Array Nat:=Sort.pdq (Proofs.ltOf (wT cmp l)) (Xdd l.length) 0 l.length (Lib.bitLen l.length) true true
def LD {X:Type}(cmp:X->X->C Int)(l:O X):C (O X):=match Uf cmp l with
 | true=>some ((JU cmp l).toList.filterMap λi=>l[i]?)
 | false=>none
section
variable {X:Type} {cmp:X->X->C Int} {l:O X}
def I8 (h:0<l.length)(i:Nat) :∃x∈l,wj l i=some x:=by
 have F:min i (l.length-1)<l.length:=by omega
 exact⟨l[min i (l.length-1)],Wx F,by unfold wj;exact X15 F⟩
def aU (h:Uf cmp l=true):(∀a∈l,∀b∈l,∃r,cmp a b=some r)/\(∀a∈l,tM cmp a a=false)/\ (∀a∈l,∀b∈l,∀c∈l,tM cmp a b=true->tM cmp b c=true->tM cmp a c=true)/\(∀a∈l,∀b∈l,∀c∈l,tM cmp a b=false->tM cmp b c=false->tM cmp a c=false)/\l.length<=1000000000:=by
 simp only[Uf,X27,Wo,Xe] at h;obtain⟨⟨⟨⟨P,Q⟩,U⟩,V⟩,Y⟩:=h;refine⟨λa F b H=>Option.isSome_iff_exists.1 (P a F b H),λa F=>by simpa using Q a F,λa F b H c J K M=>?_,λa F b H c J K M=>?_,Y⟩
 ·have:=U a F b H c J;simpa[K,M] using this
 have:=V a F b H c J;simpa[K,M] using this
def jy (K :∀a∈l,∀b∈l,∃r,cmp a b=some r)(M :∀a∈l,tM cmp a a=false) (P :∀a∈l,∀b∈l,∀c∈l,tM cmp a b=true->tM cmp b c=true->tM cmp a c=true) (Q :∀a∈l,∀b∈l,∀c∈l,tM cmp a b=false->tM cmp b c=false->tM cmp a c=false) (U:l.length<=1000000000):Uf cmp l=true:=by
 simp only[Uf,X27,Wo,Xe];refine⟨⟨⟨⟨λa F b H=>Option.isSome_iff_exists.2 (K a F b H),λa F=>by simp[M a F]⟩,λa F b H c J=>?_⟩,λa F b H c J=>?_⟩,U⟩
 ·cases g1:tM cmp a b
  ·simp
  cases g2:tM cmp b c
  ·simp
  simp[P a F b H c J g1 g2]
 cases g1:tM cmp a b
 ·cases g2:tM cmp b c
  ·simp[Q a F b H c J g1 g2]
  simp
 simp
def Gz (i j:Nat)(a b:X)(F:wj l i=some a)(H:wj l j=some b):Proofs.ltOf (wT cmp l) i j=tM cmp a b:=by unfold Proofs.ltOf wT tM;rw[F,H];cases h:cmp a b<;>simp[h]
def iz (h:Uf cmp l=true)(H:0<l.length):SWO (Proofs.ltOf (wT cmp l)):=by
 obtain⟨_,U,V,Y,_⟩:=aU h;refine⟨λx=>?_,λx y z=>?_,λx y z=>?_⟩
 ·obtain⟨a,J,F⟩:=I8 H x;rw[Gz x x a a F F];exact U a J
 ·obtain⟨a,J,F⟩:=I8 H x;obtain⟨b,P,K⟩:=I8 H y;obtain⟨c,Q,M⟩:=I8 H z;rw[Gz _ _ _ _ F K,Gz _ _ _ _ K M,Gz _ _ _ _ F M];exact V a J b P c Q
 obtain⟨a,J,F⟩:=I8 H x;obtain⟨b,P,K⟩:=I8 H y;obtain⟨c,Q,M⟩:=I8 H z;rw[Gz _ _ _ _ F K,Gz _ _ _ _ K M,Gz _ _ _ _ F M];exact Y a J b P c Q
def SE (h:Uf cmp l=true)(K:0<l.length):(JU cmp l).size=l.length/\(JU cmp l).toList.Perm (Xb4 l.length)/\∀i j,i<j->j<l.length->Proofs.ltOf (wT cmp l) (JU cmp l)[j]! (JU cmp l)[i]! = false:=by
 obtain⟨⟨H,_,M⟩,P⟩:=pdq_sorts (Proofs.ltOf (wT cmp l)) (iz h K) (Xdd l.length) 0 l.length (Lib.bitLen l.length) true true (Xd9 _) (by simp) (Or.inl rfl);have H:(JU cmp l).size=l.length:=by simpa[JU] using H
 refine⟨H,?_,λi j J Q=>P i j (Xd9 _) J Q⟩;have e1:((JU cmp l).extract 0 l.length)=JU cmp l:=by rw[<- H];exact Array.extract_size
 have e2:((Xdd l.length).extract 0 l.length)=Xdd l.length:=by
  have:(Xdd l.length).size=l.length:=by simp
  conv=>lhs;arg 3;rw[<- this]
  exact Array.extract_size
 have F:((JU cmp l).extract 0 l.length).toList.Perm ((Xdd l.length).extract 0 l.length).toList:=M;rw[e1,e2] at F;simpa using F
def Om (l:O X):(Xb4 l.length).filterMap (λi=>l[i]?)=l:=by
 have :∀(n:Nat),n<=l.length->(Xb4 n).filterMap (λi=>l[i]?)=l.take n:=by
  intro n;induction n with
  | zero=>intro _;simp
  | succ n H=>
   intro J;have F:n<l.length:=by omega
   rw[List.range_succ,List.filterMap_append,H (by omega),Xb8];simp[X15 F]
 rw[this _ (Xa8 _),Xcj]
def aL {r:O X}(h:LD cmp l=some r)(Z:0<l.length):r.length=l.length/\∀i,i<l.length->(JU cmp l)[i]!<l.length/\r[i]?=l[(JU cmp l)[i]!]?:=by
 unfold LD at h;split at h
 ·rename_i hs;obtain⟨Q,h2,h3⟩:=SE hs Z;obtain rfl:=X25 h;have U :∀i∈(JU cmp l).toList,i<l.length:=λi H=>by simpa using h2.mem_iff.1 H
  have key :∀(q:O Nat),(∀i∈q,i<l.length)->(q.filterMap λi=>l[i]?).length=q.length/\∀j (K:j<q.length),(q.filterMap λi=>l[i]?)[j]?=l[q[j]]?:=by
   intro q;induction q with
   | nil=>intro _;exact⟨rfl,λj K=>by simp at K⟩
   | cons x q ih=>
    intro V;obtain⟨M,P⟩:=ih λi H=>V i (X19 _ H);have Y:=V x (Xc1 ..);have e:(x::q).filterMap (λi=>l[i]?)=l[x]::q.filterMap λi=>l[i]?:=by rw[Xbc,X15 Y]
    rw[e];refine⟨by simp[M],λj K=>?_⟩;cases j with
    | zero=>simp[X15 Y]
    | succ j=>simpa using P j (by simpa using K)
  obtain⟨M,P⟩:=key (JU cmp l).toList U;refine⟨by rw[M];simpa using Q,λi H=>?_⟩;have F:i<(JU cmp l).toList.length:=by simpa[Q] using H
  have J:(JU cmp l)[i]! = (JU cmp l).toList[i]:=by rw[getElem!_pos _ i (by simpa using F)];simp
  rw[J];exact⟨U _ (Wx F),P i F⟩
 simp at h
def RL {r:O X}(h:LD cmp l=some r):r.Perm l/\r.Pairwise λa b=>tM cmp b a=false:=by
 by_cases M:0<l.length
 ·have h0:=h;obtain⟨P,F⟩:=aL h M;unfold LD at h;split at h
  ·rename_i V;obtain⟨h1,Y,Z⟩:=SE V M;obtain rfl:=X25 h;refine⟨?_,?_⟩
   ·have:=Y.filterMap λi=>l[i]?;rwa [Om] at this
   rw[List.pairwise_iff_getElem];intro i j hi hj J;have K:i<l.length:=by omega
   have H:j<l.length:=by omega
   obtain⟨Q,U⟩:=F i K;obtain⟨q1,q2⟩:=F j H;rw[X15 hi,X15 Q] at U;rw[X15 hj,X15 q1] at q2;have:=Z i j J H;rw[Gz (cmp:=cmp) (l:=l) _ _ _ _ (by unfold wj;rw[Nat.min_eq_left (by omega)];exact X15 q1) (by unfold wj;rw[Nat.min_eq_left (by omega)];exact X15 Q)] at this;rw[X25 U,X25 q2];exact this
  simp at h
 have:l=[]:=Xab (by omega);subst this;unfold LD at h;split at h
 ·obtain rfl:=X25 h;have:(JU cmp ([]:O X)).toList.filterMap (λi=>([]:O X)[i]?)=[]:=by simp
  rw[this];exact⟨.refl _,.nil⟩
 simp at h
def aS {r:O X}(h:LD cmp l=some r):r.length=l.length:=(RL h).1.length_eq
def X9 (h:Uf cmp l=true) :∃r,LD cmp l=some r:=by unfold LD;rw[h];exact⟨_,rfl⟩
end
end Go.AX
end
section
namespace Go.AX
open Go.Shelf Go.RowKit Go.Lib Go.Proofs
end Go.AX
end
