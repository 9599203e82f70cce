/-
  Texts of one proof, packed.
-/
import Derived.Test.YthbbpeeghmpcfaaGreatDoorR13
import Derived.Below
import Derived.Carry
import Derived.ChangeOld
import Derived.LaidHandle
import Derived.LaidMore
import Derived.MakeChecks
import Derived.OpenShut
import Derived.ProofKit
import Derived.WalkKit
import Derived.WideKeyElems2
set_option linter.all false
set_option maxRecDepth 100000
set_option maxHeartbeats 4000000
open List renaming length_map→X1,length_append→X2,getElem?_eq_getElem→X12,getElem?_eq_some_iff→X13,length_drop→X14,length_take→X15,mem_cons_of_mem→X16,length_replicate→X17,length_set→X18,mem_append→X20
open Option.some renaming injEq→X21,inj→X22
open Prod.mk renaming injEq→X23
open Bool renaming and_eq_true→X24,eq_iff_iff→X25
open Nat renaming le_of_ble_eq_true→X26
open Int renaming toNat→Xa0
open List renaming map→Xa5,replicate→Xaa,range→Xbu
open Go renaming undef→Xck,MapEntry→Xcq,Program→Xdn,FuncId→Xdy,reachBytes→Xb5
open Nat renaming blt→Xcu,ble→Xeo
open UInt64 renaming ofNat→Xao
open UInt8 renaming ofNat→Xbw
open Go.IntKind renaming i64→Xda
open Go.ByteArray renaming toList_eq→Xen
section
namespace Go.AX
def AC {τ ρ:Type}(m:(τ->C ρ)->C ρ)(k:τ->C ρ):C ρ:=m k
def gN {α:Type}(l:O α)(i:Int):C α:=if 0<=i/\i<l.length then l[i.toNat]? else none
def Bu {α:Type}(l:O α)(i:Int)(x:α):C (O α):=if 0<=i/\i<l.length then some (l.set i.toNat x) else none
def gO {α:Type}(b:Nat)(l m:O α):C (O α):=if (l.length+m.length)*b<=2^47/\l.length+m.length<=2^47 then some (l++m) else none
def part {α:Type}(l:O α)(a b:Int):C (O α):=if 0<=a/\a<=b/\b<=l.length then some ((l.drop a.toNat).take (b.toNat-a.toNat)) else none
def Ch (p:Prop)[Decidable p]:C Unit:=if p then some () else none
abbrev AG (x:Int):Int:=Xda.wrap x
def AL {α σ ρ:Type}(done:σ->C ρ)(body:(σ->C ρ)->α->Nat->σ->C ρ):O α->Nat->σ->C ρ
 | [],_,s=>done s
 | x::t,i,s=>body (AL done body t (i+1)) x i s
def Ad {σ ρ:Type}(body:(σ->C ρ)->σ->C ρ):Nat->σ->C ρ
 | 0,_=>none
 | n+1,s=>body (Ad body n) s
def xv:Nat:=2^64
abbrev D.u8 (x:S):D:=.val (.int .u8 (x.toNat:Int))
abbrev D.fn (n:Nat):D:=.val (.func (.func n) #[] #[])
abbrev D.u64 (x:j):D:=.val (.int .u64 (x.toNat:Int))
abbrev D.l {α:Type}(sz:Nat)(f:α->D)(l:O α):D:=.Cg sz (l.map f)
def AM {α ρ:Type}{x:C α}{f:α->C ρ}{r:ρ}(h:x.bind f=some r) :∃a,x=some a/\f a=some r:=by
 cases x with
 | none=>cases h
 | some a=>exact⟨a,rfl,h⟩
def Pg {b:I}{ρ:Type}{X Y:C ρ}{r:ρ}{A B:Prop}(F:X=some r->A)(H:Y=some r->B):(if b=true then X else Y)=some r->JC b A B:=by
 intro h;cases b
 ·exact H h
 exact F h
def HA {b:I}{A B:Prop}(F:b=true)(h:A):JC b A B:=by subst F;exact h
def nH {b:I}{A B:Prop}(F:b=false)(h:B):JC b A B:=by subst F;exact h
def Dw {α F:Type}{f:α->F}{l:O α}{i:Int}{v:α}(h:gN l i=some v):0<=i/\i<((l.map f).length:Int):=by
 unfold gN at h;split at h
 ·rename_i H;simpa using H
 cases h
def FY {α:Type}{f:α->D}{l:O α}{i:Int}{v:α}(h:gN l i=some v):(l.map f).getD i.toNat default=f v:=by
 unfold gN at h;split at h
 ·rename_i F;simp[h]
 cases h
def SD {α:Type}{f:α->AV}{l:O α}{i:Int}{v:α}(h:gN l i=some v):(l.map f)[0+i.toNat]?=some (f v):=by
 unfold gN at h;split at h
 ·simp[h]
 cases h
def um {s:T}{i:Int}{v:S}(h:gN s.toList i=some v):0<=i/\i<(s.size:Int):=by
 have e:s.toList.length=s.size:=by rw[Xen,Xba];rfl
 unfold gN at h;split at h
 ·rename_i F;rw[e] at F;exact F
 cases h
def rf {s:T}{i:Int}{v:S}(h:gN s.toList i=some v):s.toList.getD i.toNat 0=v:=by
 unfold gN at h;split at h
 ·simp[h]
 cases h
def bs (l:O S):T:=⟨l.toArray⟩
def oj {α:Type}{f:α->D}{l F:O α}{i:Int}{v:α}(h:Bu l i v=some F):(l.map f).set i.toNat (f v)=F.map f:=by
 unfold Bu at h;split at h
 ·cases h;rw[List.map_set]
 cases h
def Zo {α:Type}{l F:O α}{i:Int}{v:α}(h:Bu l i v=some F):F.length=l.length:=by
 unfold Bu at h;split at h
 ·cases h;simp
 cases h
def vK {α:Type}{b:Nat}{l m F:O α}(h:gO b l m=some F):F=l++m:=by
 unfold gO at h;split at h
 ·cases h;rfl
 cases h
def ly {α:Type}{b:Nat}{l m F:O α}{f g:α->D}(h:gO b l m=some F):((l.map f).length+(m.map g).length)*b<=2^47/\(l.map f).length+(m.map g).length<=2^47:=by
 unfold gO at h;split at h
 ·rename_i H;simpa using H
 cases h
def sM {α:Type}{b:Nat}{m F:O α}{g:α->D}(h:gO b [] m=some F):(m.map g).length*b<=2^47/\(m.map g).length<=2^47:=by simpa using ly (f:=g) (g:=g) h
def ug {α:Type}{b:Nat}{l m F:O α}{f:α->D}(h:gO b l m=some F):l.map f++m.map f=F.map f:=by rw[vK h,List.map_append]
def Wm {α:Type}{f:α->D}{l F:O α}{a b:Int}(h:part l a b=some F):0<=a/\a<=b/\b<=((l.map f).length:Int):=by
 unfold part at h;split at h
 ·rename_i H;simpa using H
 cases h
def gG {α:Type}{f:α->D}{l F:O α}{a:Int}(h:part l a l.length=some F):0<=a/\a<=((l.map f).length:Int)/\((l.map f).length:Int)<=((l.map f).length:Int):=by have:=Wm (f:=f) h;simp at this⊢;exact this
def Ko {α:Type}{f:α->D}{l F:O α}{a b:Int}(h:part l a b=some F):((l.map f).drop a.toNat).take (b.toNat-a.toNat)=F.map f:=by
 unfold part at h;split at h
 ·cases h;rw[List.map_take,List.map_drop]
 cases h
def XW {α:Type}{f:α->D}{l F:O α}{a:Int}(h:part l a l.length=some F):((l.map f).drop a.toNat).take (((l.map f).length:Int).toNat-a.toNat)=F.map f:=by have:=Ko (f:=f) h;simpa using this
def dT {n c:Int}{b:Nat}{u:Unit}(h:Ch (0<=n/\n<=c/\c<=1048576)=some u)(F:b<=65536):0<=n/\n<=c/\c<=1048576/\b<=65536:=by
 unfold Ch at h;split at h
 ·rename_i q;exact⟨q.1,q.2.1,q.2.2,F⟩
 cases h
def xF {n:Int}{b:Nat}{u:Unit}(h:Ch (0<n/\n<=1048576)=some u)(F:b<=65536):0<n/\n<=1048576/\b<=65536:=by
 unfold Ch at h;split at h
 ·rename_i q;exact⟨q.1,q.2,F⟩
 cases h
def A1 {K V:Type}[BEq K]:O (K×V)->K->C V
 | [],_=>none
 | p::l,k=>if k==p.1 then some p.2 else A1 l k
def A3 {K V:Type}[BEq K]:O (K×V)->K->V->O (K×V)
 | [],k,v=>[(k,v)]
 | p::l,k,v=>if k==p.1 then (k,v)::l else p::A3 l k v
def BK {K V:Type}(ek:K->D)(ev:V->D)(l:O (K×V)):O (D×D):=l.map λp=>(ek p.1,ev p.2)
def IX {K V:Type}[BEq K]{tk:TK}{ek:K->D}{ev:V->D}{l:O (K×V)}{k:K}(h :∀a b,Cf tk (ek a) (ek b)=some (a==b)):BG tk (ek k) (BK ek ev l)=some ((A1 l k).map ev):=by
 induction l with
 | nil=>rfl
 | cons p l F=>
  simp only[BK,Xbk,BG,h,A1];cases k==p.1
  ·simpa[BK] using F
  simp
def P2 {K V:Type}[BEq K]{tk:TK}{ek:K->D}{ev:V->D}{l:O (K×V)}{k:K}{v:V}(h :∀a b,Cf tk (ek a) (ek b)=some (a==b)):FA tk (ek k) (ev v) (BK ek ev l)=some (BK ek ev (A3 l k v)):=by
 induction l with
 | nil=>rfl
 | cons p l F=>
  simp only[BK,Xbk,FA,h,A3];cases k==p.1
  ·simp only[BK] at F;simp[F]
  simp
def RO {K V:Type}[BEq K]{tk:TK}{ek:K->D}{ev:V->D}{l:O (K×V)}{k:K}{u:Unit}(h :∀a b,Cf tk (ek a) (ek b)=some (a==b))(g:Ch ((A1 l k).isNone=true)=some u):BG tk (ek k) (BK ek ev l)=some none:=by
 rw[IX h];unfold Ch at g;split at g
 ·rename_i q;cases hm:A1 l k with
  | none=>rfl
  | some v=>rw[hm] at q;simp at q
 simp at g
def ut {V:Type}{f:V->D}{o:C V}{z:V}{F:D}(H:F=f z):(o.map f).getD F=f (o.getD z):=by cases o<;>simp[H]
def uS {V:Type}{f:V->D}{o:C V}:(o.map f).isSome=o.isSome:=by cases o<;>rfl
def r7 {V:Type}{f:V->D}{o:C V}{z v:V}{F:D}(H:F=f z)(g:some (o.getD z)=some v):(o.map f).getD F=f v:=by rw[ut H,X22 g]
def s6 {V:Type}{f:V->D}{o:C V}{b:I}(g:some o.isSome=some b):(o.map f).isSome=b:=by rw[uS,X22 g]
def JP (a b:Int):Cf (.int .i64) (D.i a) (D.i b)=some (a==b):=by simp[Cf]
def SC (a b:T):Cf .str (D.s a) (D.s b)=some (a==b):=rfl
def pM (a b:S):Cf (.int .u8) (D.u8 a) (D.u8 b)=some (a==b):=by simp only[Cf,Xet,X21];rw[X25];simp only[Xbh,Int.natCast_inj];exact UInt8.toNat_inj
def Dc {p:Prop}[Decidable p]{u:Unit}(h:Ch p=some u):p:=by
 unfold Ch at h;split at h
 ·assumption
 cases h
def ZS {τ ρ:Type}{np:Nat}{X:(wD->Prop)->Prop}{K:wD->Prop}{m:(τ->C ρ)->C ρ}{k:τ->C ρ}{r:ρ}(St:τ->wD) (H :∀F:τ->C ρ,m F=some r->X (λt=>∃s,zU np t s/\∃v,F v=some r/\s=St v)) (J :∀v,k v=some r->K (St v)):AC m k=some r->HR np X K:=
 λh=>.cut (λs=>∃v,k v=some r/\s=St v) (H k h) λ_ ⟨v,M,P⟩=>P▸J v M
def nT {α:Type}{l:O α}{a b:Int}{u:Unit}{f:α->D}(h:Ch (0<=a/\a<=b/\b<=(l.length:Int))=some u):0<=a/\a<=b/\b<=((l.map f).length:Int):=by rw[X1];exact Dc h
def Hk {α:Type}{l:O α}{a:Int}{u:Unit}{f:α->D}(h:Ch (0<=a/\a<=(l.length:Int)/\(l.length:Int)<=(l.length:Int))=some u):0<=a/\a<=((l.map f).length:Int)/\((l.map f).length:Int)<=((l.map f).length:Int):=by rw[X1];exact Dc h
def PU {α:Type}{l:O α}{a n:Nat}{f:α->D}:((l.map f).drop a).take n=Xa5 f ((l.drop a).take n):=by simp
def KG {α:Type}{l:O α}{a n:Nat}{i:Int}{v:α}(h:gN ((l.drop a).take n) i=some v):0<=i/\i<(n:Int):=by
 unfold gN at h;split at h
 ·rename_i F;have:((l.drop a).take n).length<=n:=List.length_take_le _ _;omega
 simp at h
def KP {α:Type}{l:O α}{a n:Nat}{i:Int}{v:α}{f:α->D}(h:gN ((l.drop a).take n) i=some v):(l.map f).getD (a+i.toNat) default=f v:=by
 unfold gN at h;split at h
 ·rename_i F;rw[List.getElem?_take,Xa2 (by have:((l.drop a).take n).length<=n:=List.length_take_le _ _;omega),List.getElem?_drop] at h;simp[Xa8,h]
 simp at h
def nb {α:Type}{f:α->D}{l:O α}{a n:Nat}:((l.map f).drop a).take n=((l.drop a).take n).map f:=by simp
def QB {α:Type}{l v:O α}{a b:Int}{f:α->D}(h:part l a b=some v):0<=a/\a<=b/\b<=b/\b<=((l.map f).length:Int):=by have:=Wm (f:=f) h;exact⟨this.1,this.2.1,Int.le_refl _,this.2.2⟩
def ia {α:Type}{l v:O α}{a:Int}{f:α->D}(h:part l a l.length=some v):0<=a/\a<=((l.map f).length:Int)/\((l.map f).length:Int)<=((l.map f).length:Int)/\((l.map f).length:Int)<=((l.map f).length:Int):=by have:=gG (f:=f) h;exact⟨this.1,this.2.1,Int.le_refl _,Int.le_refl _⟩
def qc {α:Type}{l v:O α}{a b m:Int}{f:α->D}{u:Unit}(h:part l a b=some v)(J:Ch (b<=m/\m<=(l.length:Int))=some u):0<=a/\a<=b/\b<=m/\m<=((l.map f).length:Int):=by have F:=Wm (f:=f) h;have H:=Dc J;rw[X1];exact⟨F.1,F.2.1,H.1,H.2⟩
def Xo {α:Type}{l:O α}{a n:Nat}{z:α}{f:α->D}:(l.map f).take a++Xaa n (f z)++(l.map f).drop (a+n)=Xa5 f (l.take a++Xaa n z++l.drop (a+n)):=by simp
def Qt {α:Type}(l:O α)(a n:Nat)(s:O α):O α:=l.take a++s.take n++l.drop (a+min s.length n)
def ul {α:Type}{l s:O α}{f:α->D}:(l.map f).take 0++(s.map f).take (l.map f).length++(l.map f).drop (0+min (s.map f).length (l.map f).length)=Xa5 f (Qt l 0 l.length s):=by simp[Qt]
def uz {α:Type}{l s:O α}{f:α->D}:min (s.map f).length (l.map f).length=min s.length l.length:=by simp
def cw (s F:wD):O AV->O D->Prop
 | [],[]=>True
 | a::l,y::H=>(y.isAgg=false/\CF s F a (.d y))/\cw s F l H
 | _,_=>False
def Ua {s H:wD} :∀{F:O AV} {ys:O D},cw s H F ys->ys.length=F.length
 | [],[],_=>rfl
 | _::_,_::_,h=>by simp[Ua h.2]
def UQ {s J:wD} :∀{H:O AV} {ys:O D},cw s J H ys->∀i (F:i<H.length) (hi':i<ys.length),ys[i].isAgg=false/\CF s J H[i] (.d ys[i])
 | [],[],_,i,F,_=>by simp at F
 | _::_,_::_,h,0,_,_=>h.1
 | _::_,_::_,h,i+1,F,hi'=>UQ h.2 i (by simpa using F) (by simpa using hi')
def _root_.Go.AX.CF.box {s K:wD}(r:Nat)(F:O AV)(ys:O D)(sz:Nat)(h:s.ob.getD r none=some (.box F))(P:K.ob.getD r none=none)(zx:sz=F.length)(Q:0<F.length)(H:cw s K F ys):CF s K (.own r 1) (.d (.Cg sz [.agg ys])):=
 .lstB r F ys sz h P zx (Ua H) Q (λi J M=>(UQ H i J M).2) λi J=>(UQ H i (by rw[<- Ua H];exact J) J).1
def aw (s F:wD):O AV->O AV->Prop
 | [],[]=>True
 | a::l,y::H=>CF s F a y/\aw s F l H
 | _,_=>False
def jD:O AV->I
 | []=>true
 | a::l=>a.one&&jD l
def dw (s F:wD):O D->O AV->Prop
 | [],[]=>True
 | a::l,y::H=>CF s F (.d a) y/\dw s F l H
 | _,_=>False
def Qc {s K:wD} :∀{J F:O AV},aw s K J F->J.length=F.length/\∀i (H:i<J.length) (hi':i<F.length),CF s K J[i] F[i]
 | [],[],_=>⟨rfl,λi H=>by simp at H⟩
 | _::_,_::_,h=>⟨by simp[(Qc h.2).1],λi H hi'=>match i,H,hi' with
  | 0,_,_=>h.1
  | i+1,H,hi'=>(Qc h.2).2 i (by simpa using H) (by simpa using hi')⟩
def We {s K:wD} :∀{J:O D} {F:O AV},dw s K J F->J.length=F.length/\∀i (H:i<J.length) (hi':i<F.length),CF s K (.d J[i]) F[i]
 | [],[],_=>⟨rfl,λi H=>by simp at H⟩
 | _::_,_::_,h=>⟨by simp[(We h.2).1],λi H hi'=>match i,H,hi' with
  | 0,_,_=>h.1
  | i+1,H,hi'=>(We h.2).2 i (by simpa using H) (by simpa using hi')⟩
def TB :∀{F:O AV},jD F=true->∀i (H:i<F.length),F[i].one=true
 | _::_,h,0,_=>by simp only[jD,X24] at h;exact h.1
 | _::_,h,i+1,H=>by simp only[jD,X24] at h;exact TB h.2 i (by simpa using H)
def _root_.Go.AX.CF.tupL {s J:wD}{H F:O AV}(h:aw s J H F):CF s J (.Ca H) (.Ca F):=.Ca H F (Qc h).1 (Qc h).2
def _root_.Go.AX.CF.aggL {s J:wD}{H F:O AV}(K:jD F=true)(h:aw s J H F):CF s J (.agg H) (.agg F):=.agg H F (Qc h).1 (Qc h).2 (TB K)
def _root_.Go.AX.CF.Wd {s J:wD}{H:O D}{F:O AV}(K:jD F=true)(h:dw s J H F):CF s J (.d (.agg H)) (.agg F):=.dagg H F (We h).1 (We h).2 (TB K)
def _root_.Go.AX.CF.PI {s K:wD}{H:O AV}{ys:O D}(h:cw s K H ys):CF s K (.agg H) (.d (.agg ys)):=.aggD H ys (Ua h).symm (λi F J=>(UQ h i F J).2) λi F=>(UQ h i (by rw[<- Ua h];exact F) F).1
def mG {x:Int}:BG (.int .i64) (D.i x) []=some none:=rfl
def H2 {x k:Int}{v:D}{l:O (D×D)}(h:(x==k)=true):BG (.int .i64) (D.i x) ((D.i k,v)::l)=some (some v):=by
 have e:Cf (.int .i64) (D.i x) (D.i k)=some true:=by simp[Cf,D.i,h]
 simp only[BG,e]
def Ac {x k:Int}{v:D}{l:O (D×D)}{q:C (C D)}(h:¬ (x==k)=true)(F:BG (.int .i64) (D.i x) l=q):BG (.int .i64) (D.i x) ((D.i k,v)::l)=q:=by
 have h:(x==k)=false:=by simpa using h
 have e:Cf (.int .i64) (D.i x) (D.i k)=some false:=by simp[Cf,D.i,h]
 simp only[BG,e];exact F
def Rb {c:Prop}[Decidable c]{α:Type}{a b r:α}(g:c)(h:(if c then a else b)=r):a=r:=by rwa [Xa2 g] at h
def Qo {c:Prop}[Decidable c]{α:Type}{a b r:α}(g:¬ c)(h:(if c then a else b)=r):b=r:=by rwa [Xa1 g] at h
def su {α:Type}{f:α->D}{l:O α}{i:Int}{v:α}(h:gN l i=some v):Xa0 i<(Xa5 f l).length:=by have:=Dw (f:=f) h;omega
def Fh {τ ρ:Type}{np:Nat}{t:wD}{St:τ->wD}{k:τ->C ρ}{r:ρ}{v:τ}(F:zU np t (St v))(h:k v=some r) :∃s,zU np t s/\∃v,k v=some r/\s=St v:=
 ⟨_,F,v,h,rfl⟩
def Cj {np:Nat}{body:(AE->wD->Prop)->wD->Prop}{K:AE->wD->Prop}{st:wD}{α σ ρ:Type}{done:σ->C ρ}{V:(σ->C ρ)->α->Nat->σ->C ρ}{l:O α}{Q:σ}{r:ρ} (F sz:Nat) (enc:α->D) (hs:st.tm.getD F .dead=.d (.Cg sz (l.map enc))) (St:Nat->σ->wD) (hw:zU np st (St 0 Q)) (M :∀(s:σ) (U:wD->Prop),done s=some r->body (S6 K U) (St l.length s)) (H :∀(next:σ->C ρ) (i:Nat) (x:α) (s:σ) (U:wD->Prop),i<l.length->(l.map enc).getD i default=enc x->Xda.wrap ((i:Int)+1)=((i+1:Nat):Int)->V next x i s=some r-> (∀t v,zU np t (St (i+1) v)->next v=some r->U t)->body (S6 K U) (St i s)):AL done V l 0 Q=some r->Ka np body K st:=by
 intro h;refine .mk λhb _=>?_;have hl:l.length<=9223372036854775807:=by simpa using hb F sz _ hs
 refine⟨λs n=>∃(i:Nat) (v:σ),n=l.length-i/\i<=l.length/\AL done V (l.drop i) i v=some r/\s=St i v,⟨St 0 Q,l.length,hw,0,Q,by simp,by simp,by simpa using h,rfl⟩,?_⟩;rintro _ n ⟨i,v,hn,hi,P,rfl⟩;by_cases he:i=l.length
 ·subst he;simp only[List.drop_length,AL] at P;exact M v _ P
 have J:i<l.length:=by omega
 rw[Xbt J] at P;simp only[AL] at P;exact H _ i l[i] v _ J (by simp[J]) (QW (by omega) ⟨by omega,by omega⟩) P
  λt v' Y Z=>⟨_,l.length-(i+1),by omega,Y,i+1,v',rfl,by omega,Z,rfl⟩
def O1 {np:Nat}{body:(AE->wD->Prop)->wD->Prop}{K:AE->wD->Prop}{st:wD}{α σ ρ:Type}{done:σ->C ρ}{V:(σ->C ρ)->α->Nat->σ->C ρ}{l:O α}{Q:σ}{r:ρ} (F e sz:Nat) (fz:FZ) (enc:α->D) (hs:st.ob.getD F none=some (.row e sz (l.map enc) fz)) (St:Nat->σ->wD) (hw:zU np st (St 0 Q)) (M :∀(s:σ) (U:wD->Prop),done s=some r->body (S6 K U) (St l.length s)) (H :∀(next:σ->C ρ) (i:Nat) (x:α) (s:σ) (U:wD->Prop),i<l.length->(l.map enc).getD i default=enc x->Xda.wrap ((i:Int)+1)=((i+1:Nat):Int)->V next x i s=some r-> (∀t v,zU np t (St (i+1) v)->next v=some r->U t)->body (S6 K U) (St i s)):AL done V l 0 Q=some r->Ka np body K st:=by
 intro h;refine .mk λ_ hb=>?_;have hl:l.length<=9223372036854775807:=by simpa using hb F _ _ _ _ hs
 refine⟨λs n=>∃(i:Nat) (v:σ),n=l.length-i/\i<=l.length/\AL done V (l.drop i) i v=some r/\s=St i v,⟨St 0 Q,l.length,hw,0,Q,by simp,by simp,by simpa using h,rfl⟩,?_⟩;rintro _ n ⟨i,v,hn,hi,P,rfl⟩;by_cases he:i=l.length
 ·subst he;simp only[List.drop_length,AL] at P;exact M v _ P
 have J:i<l.length:=by omega
 rw[Xbt J] at P;simp only[AL] at P;exact H _ i l[i] v _ J (by simp[J]) (QW (by omega) ⟨by omega,by omega⟩) P
  λt v' Y Z=>⟨_,l.length-(i+1),by omega,Y,i+1,v',rfl,by omega,Z,rfl⟩
def K6 {α:Type}{l:O α}{i:Nat}(h:i<l.length):decide ((i:Int)<(l.length:Int))=true:=by simpa using h
def vB {α:Type}{l:O α}:decide ((l.length:Int)<(l.length:Int))=false:=by simp
def Fv {α F:Type}{f:α->F}{l:O α}{i:Nat}(h:i<l.length):0<=(i:Int)/\(i:Int)<((l.map f).length:Int):=⟨by omega,by simpa using h⟩
def BO {np:Nat}{body:(AE->wD->Prop)->wD->Prop}{K:AE->wD->Prop}{st:wD}{σ ρ:Type}{J:(σ->C ρ)->σ->C ρ}{n:Nat}{H:σ}{r:ρ} (St:σ->wD) (V:zU np st (St H)) (F :∀(next:σ->C ρ) (s:σ) (Q:wD->Prop),J next s=some r->(∀t v,zU np t (St v)->next v=some r->Q t)->body (S6 K Q) (St s)):Ad J n H=some r->Ka np body K st:=by
 intro h;refine .mk λ_ _=>⟨λs n=>∃v,Ad J n v=some r/\s=St v,⟨St H,n,V,H,h,rfl⟩,?_⟩;rintro _ m ⟨v,U,rfl⟩;cases m with
 | zero=>cases U
 | succ m=>exact F _ v _ U λt Y M P=>⟨_,m,Nat.lt_succ_self m,M,Y,P,rfl⟩
def UO (F:O Nat)(acc:O Nat):Nat:=F.foldl (λm j=>m ||| 2^j ||| acc.getD (acc.length-1-j) 0) 0
def pJ:O z->O Nat->O Nat
 | [],acc=>acc
 | o::l,acc=>pJ l (UO (Bz o) acc::acc)
def Xh (F:Array z)(o:z)(m:Nat):O z->I
 | []=>true
 | q::prev=>(m.testBit prev.length || q.apart F o)&&Xh F o m prev
def GC.go (H:Array z):O z->O z->O Nat->I
 | [],_,_=>true
 | o::l,prev,F=>(Bz o).all (λj=>Xcu j prev.length)&&(match o.op with|.select _ _=>false|_=>true)&&Xh H o (UO (Bz o) F) prev &&
   GC.go H l (o::prev) (UO (Bz o) F::F)
def GC (F:Array z):I:=GC.go F F.toList [] []
def LX :∀(a b:O z) (acc:O (O Nat)),JD (a++b) acc=JD b (JD a acc)
 | [],_,_=>rfl
 | o::a,b,acc=>LX a b _
def Q8 :∀(l:O z) (acc:O (O Nat)),∃p,JD l acc=p++acc/\p.length=l.length
 | [],acc=>⟨[],rfl,rfl⟩
 | o::l,acc=>by obtain⟨p,F,H⟩:=Q8 l (((Bz o).flatMap λj=>j::acc.getD (acc.length-1-j) [])::acc);exact⟨p++[(Bz o).flatMap λj=>j::acc.getD (acc.length-1-j) []],by rw[JD,F];simp,by simp[H]⟩
def KM (masks:O Nat)(acc:O (O Nat)):Prop:=masks.length=acc.length/\∀k j,(masks.getD k 0).testBit j=true->j∈acc.getD k []
def Uc {masks:O Nat}{acc:O (O Nat)}(h:KM masks acc)(F:O Nat)(j:Nat)(J:(UO F masks).testBit j=true):j∈F.flatMap λj=>j::acc.getD (acc.length-1-j) []:=by
 have key :∀(F:O Nat) (m:Nat),(F.foldl (λm j=>m ||| 2^j ||| masks.getD (masks.length-1-j) 0) m).testBit j=true->
   m.testBit j=true\/j∈F.flatMap λj=>j::acc.getD (acc.length-1-j) []:=by
  intro F;induction F with
  | nil=>intro m h;exact .inl h
  | cons p F K=>
   intro m H;simp only[Xaj] at H;rcases K _ H with g|g
   ·simp only[Nat.testBit_or,Xdp,Nat.testBit_two_pow,Xy] at g;rcases g with (g|g)|g
    ·exact .inl g
    ·subst g;exact .inr (by simp)
    rw[h.1] at g;have:=h.2 _ _ g;exact .inr (by simp only[Xat,X20,Xa7];exact .inl (.inr this))
   exact .inr (by simp only[Xat,X20];exact .inr g)
 rcases key F 0 J with g|g
 ·simp at g
 exact g
def KM.cons {masks:O Nat}{acc:O (O Nat)}(h:KM masks acc)(F:O Nat):KM (UO F masks::masks) ((F.flatMap λj=>j::acc.getD (acc.length-1-j) [])::acc):=by
 refine⟨by simp[h.1],λk j H=>?_⟩;cases k with
 | zero=>exact Uc h F j H
 | succ k=>exact h.2 k j H
def lH :∀(l:O z) {masks:O Nat} {acc:O (O Nat)},KM masks acc->KM (pJ l masks) (JD l acc)
 | [],_,_,h=>h
 | o::l,_,_,h=>lH l (h.cons (Bz o))
def Vq {J:Array z}{o:z}{m:Nat} :∀{F:O z},Xh J o m F=true->∀j q,j<F.length->F.reverse[j]?=some q->m.testBit j=true\/q.apart J o=true
 | [],_,j,q,M,_=>by simp at M
 | p::F,h,j,q,M,H=>by
  simp only[Xh,X24,Xdp] at h;simp only[Xel] at H;by_cases he:j=F.length
  ·subst he;rw[Xas (by simp)] at H;simp at H;subst H;exact h.1
  have K:j<F.length:=by simp at M;omega
  rw[Xaf (by simpa using K)] at H;exact Vq h.2 j q K H
def WC {H:Array z} :∀(l F:O z) (masks:O Nat),F.reverse++l=H.toList->KM masks (JD F.reverse [])->GC.go H l F masks=true-> ∀i o,F.length<=i->H[i]?=some o->((Bz o).all (λj=>Xcu j i)&&(match o.op with|.select _ _=>false|_=>true) && (Xbu i).all λj=>(G2 H i).contains j || (match H[j]? with
    | none=>false
    | some q=>q.apart H o))=true
 | [],F,masks,J,_,_,i,o,hi,P=>by
  have:H.toList.length=F.length:=by rw[<- J];simp
  simp only[Xba] at this;have:=(Xcm.1 P).1;omega
 | q::l,F,masks,J,Z,h,i,o,hi,P=>by
  simp only[GC.go,X24] at h;obtain⟨⟨⟨h1,h2⟩,h3⟩,h4⟩:=h;by_cases he:i=F.length
  ·subst he;have K:H.toList[F.length]?=some o:=by simpa using P
   rw[<- J,Xas (by simp)] at K;simp at K;subst K;have ha:G2 H F.length=(Bz q).flatMap λj=>j::(JD F.reverse []).getD ((JD F.reverse []).length-1-j) []:=by
    unfold G2;rw[<- J,LX,JD];obtain⟨p,hp,a6⟩:=Q8 l (((Bz q).flatMap λj=>j::(JD F.reverse []).getD ((JD F.reverse []).length-1-j) [])::JD F.reverse []);have hs:H.size-1-F.length=p.length:=by
     have:H.toList.length=F.length+(l.length+1):=by rw[<- J];simp
     simp only[Xba] at this;omega
    rw[hp,hs];simp
   simp only[X24];refine⟨⟨h1,h2⟩,?_⟩;rw[Xa6];intro j Q;have Q:=Xe3.1 Q;have U :∃p,H[j]?=some p/\F.reverse[j]?=some p:=by
    have M:j<F.reverse.length:=by simpa using Q
    refine⟨F.reverse[j],?_,X12 M⟩;have:H.toList[j]?=some F.reverse[j]:=by rw[<- J,Xaf M,X12 M]
    simpa using this
   obtain⟨p,V,Y⟩:=U;rw[Xdp];rcases Vq h3 j p Q Y with g|g
   ·left;rw[ha];simpa using Uc Z (Bz q) j g
   right;rw[V];exact g
  refine WC l (q::F) _ (by simpa using J) ?_ h4 i o (by simp;omega) P;rw[Xel,LX];exact Z.cons (Bz q)
def YZ {F:Array z}(h:GC F=true):FX F=true:=by unfold FX;rw[Xa6];intro i H;have H:=Xe3.1 H;have:=WC F.toList [] [] (by simp) ⟨rfl,λk j J=>by simp at J⟩ h i F[i] (by simp) (by simp[H]);simp only[H,getElem?_pos];exact this
def Fl.Hp (M:O Nat)(n i:Nat)(J wr:O Nat):Nat->O (O Nat×O Nat)->I
 | _,[]=>true
 | j,(F,H)::l=>((M.getD (n-1-j) 0).testBit i || ((wr.all λr=>!F.contains r)&&J.all λr=>!H.contains r))&&Fl.Hp M n i J wr (j+1) l
def Fl.go (M:O Nat)(n:Nat):Nat->O (O Nat×O Nat)->I
 | _,[]=>true
 | i,(F,wr)::l=>Fl.Hp M n i F wr (i+1) l&&Fl.go M n (i+1) l
def Fl (F:Array z)(H:O (O Nat×O Nat)):I:=Fl.go (pJ F.toList []) F.size 0 H
def oV {F:Array z}{J:O (O Nat×O Nat)}(h:Fl F J=true):Eu F 0 J=true:=by
 have Q:=lH F.toList (masks:=[]) (acc:=[]) ⟨rfl,λk j U=>by simp at U⟩;have c :∀(l:O (O Nat×O Nat)) (i:Nat) (K wr:O Nat) (j:Nat),Fl.Hp (pJ F.toList []) F.size i K wr j l=true->Eu.Hp F i K wr j l=true:=by
  intro l;induction l with
  | nil=>intro i K wr j _;rfl
  | cons x l P=>
   intro i K wr j H;obtain⟨V,Y⟩:=x;simp only[Fl.Hp,X24] at H;simp only[Eu.Hp,X24];refine⟨?_,P _ _ _ _ H.2⟩;have M:=H.1;rw[Xdp] at M⊢;rcases M with g|g
   ·exact .inl (by simpa[G2] using Q.2 _ _ g)
   exact .inr g
 have g :∀(l:O (O Nat×O Nat)) (i:Nat),Fl.go (pJ F.toList []) F.size i l=true->Eu F i l=true:=by
  intro l;induction l with
  | nil=>intro i _;rfl
  | cons x l P=>intro i H;obtain⟨K,wr⟩:=x;simp only[Fl.go,X24] at H;simp only[Eu,X24];exact⟨c _ _ _ _ _ H.1,P _ H.2⟩
 exact g _ _ h
def dOB {F:Array z}{K:Prop}(h:GC F=true)(k:K):FX F=true/\K:=⟨YZ h,k⟩
def tOB {F:Array z}{K:Prop}(h:(GC F&&P3 F)=true)(k:K):(FX F=true/\P3 F=true)/\K:=by simp only[X24] at h;exact⟨⟨YZ h.1,h.2⟩,k⟩
def cOB {F:Array z}{e:O (O Nat×O Nat)}{K:Prop}(h:Fl F e=true)(k:K):Eu F 0 e=true/\K:=⟨oV h,k⟩
def QC (x:S):Xda.wrap (x.toNat:Int)=(x.toNat:Int):=by have:=x.toNat_lt;exact QW rfl ⟨by omega,by omega⟩
def Ak (x:Int):S:=Xbw (x%256).toNat
def AZ (x:Int):j:=Xao (x%18446744073709551616).toNat
def W6 (x:Int):IntKind.u8.wrap x=((Ak x).toNat:Int):=by
 have e:(2^IntKind.u8.bits:Int)=256:=by decide
 simp only[IntKind.wrap,IntKind.signed,e,Ak,Xam];simp;omega
def Ol (x:Int):IntKind.u64.wrap x=((AZ x).toNat:Int):=by
 have e:(2^IntKind.u64.bits:Int)=18446744073709551616:=by decide
 simp only[IntKind.wrap,IntKind.signed,e,AZ,Xar];simp;omega
def bC {n:Int}(h:0<=n/\n<256):((Ak n).toNat:Int)=n:=by simp only[Ak,Xam];simp;omega
def YG {n:Int}(h:0<=n/\n<18446744073709551616):((AZ n).toNat:Int)=n:=by simp only[AZ,Xar];simp;omega
def KF {n m:Nat}(s:Nat)(h:n<m):0<=(n:Int).fdiv (2^s)/\(n:Int).fdiv (2^s)<m:=by
 have e:(2^s:Int)=((2^s:Nat):Int):=by simp
 rw[e,Xc8 _ (Xdf _),<- Int.natCast_ediv];have:=Nat.div_le_self n (2^s);generalize n/2^s=q at *;omega
def mP (x:S)(s:Nat):(x.toNat:Int).fdiv (2^s)=((Ak ((x.toNat:Int).fdiv (2^s))).toNat:Int):=(bC (KF s x.toNat_lt)).symm
def fN (x:j)(s:Nat):(x.toNat:Int).fdiv (2^s)=((AZ ((x.toNat:Int).fdiv (2^s))).toNat:Int):=(YG (KF s x.toNat_lt)).symm
end Go.AX
end
section
namespace Go.AX
open Go.RowKit Go.Deep Go.ChangeShapes Go.WideShapes Go.ChangeAt
section
variable {H:Type} {enc:TypeId×A->H} {P:Program} {w:B} {L:Th H P}
def Ex.map' {t:Nat}{α K:Type}{cells:α->O D}{ok:α->Prop}(h:Ex L enc w t cells ok){F:K->O D}{J:K->Prop}(g:α->K)(Q :∀a,ok a->F (g a)=cells a)(U :∀a,ok a->J (g a)):Ex L enc w t F J:=by intro xv V x Y Z;obtain⟨a,M,h2⟩:=h xv V x Y Z;exact⟨g a,U a M,by rw[Q a M];exact h2⟩
def nM {k:IntKind}{n:Int}(h:(Lit.int k n).wf=true):k.min<=n/\n<=k.max:=by simpa[Lit.wf] using h
def PF {t:Nat}(F:P.underlying t=some (.int .i64)):Ex L enc w t (λn:Int=>[D.i n]) CA:=
 (kc F).map' id (λ_ _=>rfl) λa h=>by have:=nM h;simpa[IntKind.min,IntKind.max,IntKind.signed,IntKind.bits,CA] using this
def Nf {t:Nat}{K:TypeDesc}(Q:P.underlying t=some K)(U:(match K with|.int _|.bool|.string|.slice _=>true|_=>false)=true){α:Type}{c:α->D}{ok:α->Prop}(h:Ex L enc w t (λa=>[c a]) ok){base:Nat}{v:A}{d:DataW H}{p:O MemPlace} (F:Value.okWide P w .any base t v) (V:DataW.Trod enc P w 0 (λ_=>true) true t v d p) (Y:L.W t d) :∃x,ok x/\kI (Sk w) w (λ_=>none) (zo []) (.d (c x)) v:=by
 obtain⟨xv,Z⟩:=V;obtain⟨x,h1,h2⟩:=h xv _ _ Z Y;refine⟨x,h1,.d _ _ (FL.val (?_:FL w [c x] [v]))⟩;have M :∀J,v≠.agg J:=by rintro J rfl;unfold Value.okWide at F;rw[Q] at F;cases K<;>simp at U<;>simp[Cell.okWide,Cell.ok,Q] at F
 have:v.cells.toList=[v]:=by cases v<;>first|rfl|(rename_i J;exact absurd rfl (M J))
 rwa [this] at h2
inductive Hx (w:World):List Value->List AV->Prop
 | nil:Hx w [] []
 | cons {v:Value} {x:D} {vs:List Value} {avs:List AV} (h:kI (Sk w) w (λ_=>none) (zo []) (.d x) v) (t:Hx w vs avs):Hx w (v::vs) (.d x::avs)
def Hx.get {vs:O A}{F:O AV}(h:Hx w vs F):vs.length=F.length/\∀i (J:i<F.length),kI (Sk w) w (λ_=>none) (zo []) F[i] (vs.getD i Xck)/\oA (zo []) F[i]:=by
 induction h with
 | nil=>exact⟨rfl,λi J=>by simp at J⟩
 | cons h t K=>
  refine⟨by simp[K.1],λi J=>?_⟩;cases i with
  | zero=>exact⟨h,A0 _ _⟩
  | succ i=>simpa using K.2 i (by simpa using J)
def NR (Q:laidOutB P=true){W U:B}(V:Below W.heap.size W U) :∀{ts:O TypeId} {vs:O A} {J:O (DataW H)} {K:O MemPlace}, (ts.all λt=>P.readableRec t&&decide (t<P.types.size))=true->DataW.TrodAll enc P W 0 (λ_=>true) true ts vs J K->DataW.TrodAll enc P U 0 (λb=>decide (b<W.heap.size)) true ts vs J K
 | [],[],[],_,_,h=>h
 | t::ts,v::vs,d::J,K,F,h=>by have M:=h.lt;obtain⟨p,q,Y,Z,rfl⟩:=h;simp only[Xd5,X24,Xy] at F;exact⟨p,q,Below.trod Q F.1.1 F.1.2 Y V λx hx=>M x (by simp[hx]),NR Q V F.2 Z,rfl⟩
 | [],[],_::_,_,_,h=>h.elim
 | [],_::_,_,_,_,h=>h.elim
 | _::_,[],_,_,_,h=>h.elim
 | _::_,_::_,[],_,_,h=>h.elim
def Gr :∀{ts:O TypeId} {vs:O A} {F:O (DataW H)} {J:O MemPlace} {K:Nat->I},DataW.TrodAll enc P w 0 K true ts vs F J->F.length=ts.length/\vs.length=ts.length
 | [],[],[],_,_,_=>⟨rfl,rfl⟩
 | t::ts,v::vs,d::F,_,_,h=>by obtain⟨p,q,_,M,_⟩:=h;obtain⟨a,b⟩:=Gr M;exact⟨by simp[a],by simp[b]⟩
 | [],[],_::_,_,_,h=>h.elim
 | [],_::_,_,_,_,h=>h.elim
 | _::_,[],_,_,_,h=>h.elim
 | _::_,_::_,[],_,_,h=>h.elim
def Rj {X:B->Prop}{wl:WL}{C:Checked}{L:Th H C.prog}{f:Xdy}{fn:Func}{s:ChangeSpec}{b:TypeId}(hl:laidOutB C.prog=true)(K:s.vars=[])(M :∀F:O (DataW H),F.length=fn.params.size->s.fn H (F++[])={ results:=[.lit (.bool true)],args:=F })
  (V:fn.resultTypes=#[b]) (hb:C.prog.underlying b=some .bool) (Q:(fn.params.toList.all λt=>C.prog.readableRec t&&decide (t<C.prog.types.size))=true)
  (a6 :∀(W:B),X W->∀(base:Nat) (args:Array A) (F:O (DataW H)) (p:O MemPlace),(∀(j:Nat) t v,fn.params[j]?=some t->args[j]?=some v->Value.okWide C.prog W .any base t v)-> DataW.TrodAll enc C.prog W 0 (λ_=>true) true fn.params.toList args.toList F p->(∀(j:Nat) t d,fn.params.toList[j]?=some t->F[j]?=some d->L.W t d)->∃U,Hx W args.toList U/\xV wl C.prog f U [] (.b true) []/\∃gb:Nat->Prop,wl.gf gb W/\∀b,gb b->b<W.heap.size) :
  ∀(W:B),X W->∀(base:Nat) (args:Array A) (F gs:O (DataW H)) (J:O MemPlace),
   (∀(j:Nat) t v,fn.params[j]?=some t->args[j]?=some v->Value.okWide C.prog W .any base t v)->
   DataW.Whole enc C.prog fn.params.toList s.vars false W args.toList F gs J->
   (∀(j:Nat) t d,fn.params.toList[j]?=some t->F[j]?=some d->L.W t d)->
   Calls C.prog f args W λe W'=>∃v,e=.returned v/\s.post enc C.prog fn false true false false W args v W':=by
 intro W hX base args F gs J Y hW a7;have a8:=hW;obtain⟨p,q,hA,hV,rfl,ab,ae⟩:=hW;rw[K] at hV;obtain⟨rfl,rfl⟩:=trodVars_none hV;have hd:F.length=fn.params.size:=by simpa using (Gr hA).1
 obtain⟨U,h1,h2,gb,aa⟩:=a6 W hX base args F p Y hA a7;obtain⟨o1,o2⟩:=h1.get;refine (jJ h2 W aa args (by simpa using o1) λi hi=>by simpa[<- Array.getElem?_toList] using o2 i hi).mono λe W' ⟨he,Z⟩=>?_;subst he;refine⟨_,rfl,F,[],p++[],[],p,[],a8,?_,?_,?_,Z.frame _,λh=>by cases h⟩
 ·rw[M F hd,V];exact trodAll_mk1 (shut_bool hb _)
 ·rw[M F hd];exact NR hl Z Q hA
 rw[M F hd,K];rfl
def rk {P:Xdn}{ts vs:O TypeId}{F M:O (DataW H)}(h:(DataW.weightsEach P (ts++vs) (F++M)).all (·<=Xb5)=true)(j:Nat)(t:TypeId)(d:DataW H)(J:ts[j]?=some t)(K:F[j]?=some d):(Th.reach H P).W t d:=
 Xa6.2 λn Q=>Xa6.1 h n (DataW.weights_mem_each (j:=j) (by rw[Xaf (X13.1 J).1];exact J) (by rw[Xaf (X13.1 K).1];exact K) n Q)
end
end Go.AX
end
section
namespace Go.AX
open Go.WideElems
section
variable {H:Type} {enc:TypeId×A->H} {P:Program} {w:B} {sp:Nat->I} {held:I} {t k e:TypeId}
def keyOf_int {kd:IntKind}(J:P.underlying k=some (.int kd)){v:A}{y:Lit}(h:keyOf P k v=some y) :∃n,v=.int kd n/\y=.int kd n:=by
 have F:mapKey P k v=some y:=by unfold keyOf at h;rw[J] at h;exact h
 unfold mapKey at F;rw[J] at F;cases v with
 | int q n=>
  simp only at F;split at F
  ·rename_i K;obtain⟨rfl,_⟩:=K;exact⟨n,rfl,(X22 F).symm⟩
  cases F
 | _=>simp at F
def Yt {kd:IntKind}(ht:P.underlying t=some (.map k e))(hk:P.underlying k=some (.int kd)){xv:Nat}{cs:O A}{K:O (Lit×DataW H)}{p:O MemPlace} (h:DataW.trod enc P w 0 sp held xv t cs=some (.map K,p)) (Y:Lit×DataW H->D×D) (hD :∀(n:Int) (v:A) (d:DataW H) (m:Nat) (q:O MemPlace),(Lit.int kd n,d)∈K->DataW.trod enc P w 0 sp held m e v.cells.toList=some (d,q)->v.formed P e=true->Y (.int kd n,d)=(.val (.int kd n),.val v)/\v.oneCell'=true) : ∃b arr J,cs=[.map (some b)]/\w.heap[b]?=some (.map arr J)/\(arr.toList.map λx=>(D.val x.key,D.val x.val)).Perm (K.map Y)/\∀x∈arr.toList,x.key.oneCell'=true/\x.val.oneCell'=true:=by
 rcases open_map ht h with ⟨_,M⟩|⟨b,arr,J,n,_,a6,hb,_,F,M⟩
 ·simp at M
 simp only[X23,DataW.map.injEq] at M;have hp:K.Perm (arr.toList.map (rg P k (elemAt enc P w 0 sp held n e))):=by rw[M.1];exact Go.WideShapes.sorted_perm _
 have U :∀x∈arr.toList,Y (rg P k (elemAt enc P w 0 sp held n e) x)=(D.val x.key,D.val x.val)/\x.key.oneCell'=true/\x.val.oneCell'=true:=by
  intro x M;obtain⟨⟨yl,yd⟩,Q⟩:=F.reads x M;have Z:(yl,yd)∈K:=hp.mem_iff.2 (Xau.2 ⟨x,M,rg_of Q⟩);rw[rg_of Q];have V:=rd_key Q;obtain⟨m,h1,h2⟩:=keyOf_int hk V;unfold rd at Q;rw[V,Xby,Xb3] at Q;obtain⟨⟨d,q⟩,hd,Q⟩:=Q;simp only[X23,true_and] at Q;subst Q;unfold elemAt at hd;split at hd
  ·rename_i hf;dsimp only at h2;subst h2;obtain⟨g1,g2⟩:=hD m x.val d n q Z hd hf;rw[h1];exact⟨g1,rfl,g2⟩
  simp at hd
 refine⟨b,arr,J,a6,hb,?_,λx M=>(U x M).2⟩;have e:(arr.toList.map λx=>(D.val x.key,D.val x.val))=(arr.toList.map (rg P k (elemAt enc P w 0 sp held n e))).map Y:=by rw[List.map_map];exact List.map_congr_left λx M=>(U x M).1.symm
 rw[e];exact (hp.symm.map Y)
end
section
variable {H:Type} {enc:TypeId×A->H} {P:Program} {w:B}
open Go.ChangeShapes Go.WideShapes Go.ChangeAt Go.RowKit
def Kn {X:B->Prop}{wl:WL}{C:Checked}{f:Xdy}{fn:Func}{s:ChangeSpec}{b:TypeId}(hl:laidOutB C.prog=true)(K:s.vars=[])(Z :∀J:O (DataW H),J.length=fn.params.size->s.fn H (J++[])={ results:=[.lit (.bool true)],args:=J })
  (Q:fn.resultTypes=#[b]) (hb:C.prog.underlying b=some .bool) (M:(fn.params.toList.all λt=>C.prog.readableRec t&&decide (t<C.prog.types.size))=true)
  (a6 :∀(W:B),X W->∀(base:Nat) (args:Array A) (J:O (DataW H)) (p:O MemPlace),(∀(j:Nat) t v,fn.params[j]?=some t->args[j]?=some v->Value.okWide C.prog W .any base t v)-> DataW.TrodAll enc C.prog W 0 (λ_=>true) true fn.params.toList args.toList J p->(∀(j:Nat) t d,fn.params.toList[j]?=some t->J[j]?=some d->Wt C.prog t d)->∃U,Hx W args.toList U/\xV wl C.prog f U [] (.b true) []/\∃gb:Nat->Prop,wl.gf gb W/\∀b,gb b->b<W.heap.size) :
  ∀(W:B),X W->∀(base:Nat) (args:Array A) (J Y:O (DataW H)) (F:O MemPlace),
   (∀(j:Nat) t v,fn.params[j]?=some t->args[j]?=some v->Value.okWide C.prog W .any base t v)->
   DataW.Whole enc C.prog fn.params.toList s.vars false W args.toList J Y F->
   (DataW.weightsEach C.prog (fn.params.toList++s.plain.varTypes C.prog) (J++Y)).all (·<=Xb5)=true->
   Calls C.prog f args W λe W'=>∃v,e=.returned v/\s.post enc C.prog fn false true false false W args v W':=by
 intro W hX base args J Y F V hW a7;exact Rj (L:=Th.reach H C.prog) hl K Z Q hb M a6 W hX base args J Y F V hW (rk a7)
end
def Qp {tk:TK}{x:D}{l m:O (D×D)}(M:l.Perm m)(Q :∀p∈l,∃n,p.1=.val (.int .i64 n))(V:l.Pairwise λa b=>a.1≠b.1){q:C D}(h:BG tk x l=some q):BG tk x m=some q:=by
 induction M generalizing q with
 | nil=>exact h
 | cons p M ih=>
  simp only[BG] at h⊢;have Y:=Xab.1 V;split at h
  ·exact h
  ·exact ih (λp M=>Q p (X16 _ M)) Y.2 h
  cases h
 | swap a b l=>
  obtain⟨i,hi⟩:=Q b (by simp);obtain⟨j,hj⟩:=Q a (by simp);have U:b.1≠a.1:=(Xab.1 V).1 a (by simp);simp only[BG,hi,hj] at h⊢;rw[hi,hj] at U;have a6:i≠j:=λe=>U (by rw[e]);cases F:Cf tk x (.val (.int .i64 i)) with
  | none=>rw[F] at h;cases h
  | some b1=>
   have K :∃b2,Cf tk x (.val (.int .i64 j))=some b2/\(b1=true->b2=false):=by
    unfold Cf at F⊢;split at F
    ·rename_i kk a' ab bb J;cases J;split at F
     ·rename_i a7;rw[Xa2 a7];refine⟨_,rfl,λZ=>?_⟩;obtain rfl:=X22 F;simp only[Xbh] at Z;subst Z;simpa using a6
     cases F
    ·rename_i J;cases J
    ·rename_i J;cases J
    cases F
   obtain⟨b2,K,Z⟩:=K;rw[F,K] at h;rw[K];cases b1
   ·cases b2<;>exact h
   rw[Z rfl];exact h
 | trans Y h2 a8 aa=>refine aa (λp M=>Q p (Y.mem_iff.2 M)) ((Y.pairwise_iff λh e=>h e.symm).1 V) (a8 Q V h)
def WU {w:B}{arr:O Xcq}(h :∀x∈arr,x.key.oneCell'=true/\x.val.oneCell'=true):zp (λ_ _=>False) w (arr.map λx=>(D.val x.key,D.val x.val)) arr:=by
 refine⟨by simp,λi J=>?_⟩;have F:i<arr.length:=by simpa using J
 refine⟨arr[i],X12 F,⟨arr[i].key,by simp,rfl,(h _ (Xad F)).1⟩,?_⟩;simp only[Xb6];exact .val _ (h _ (Xad F)).2
end Go.AX
end
section
namespace Go.AX
def Rx {α σ ρ:Type}{done:σ->C ρ}{body:(σ->C ρ)->α->Nat->σ->C ρ}(P:O α->Nat->σ->Prop)(F:O α->Nat->σ->C ρ) (H :∀i s,P [] i s->done s=F [] i s) (J :∀(next:σ->C ρ) x t i s,P (x::t) i s->(∀s,P t (i+1) s->next s=F t (i+1) s)->body next x i s=F (x::t) i s) : ∀(l:O α) (i:Nat) (s:σ),P l i s->AL done body l i s=F l i s
 | [],i,s,h=>H i s h
 | x::t,i,s,h=>J _ x t i s h λK M=>Rx P F H J t (i+1) K M
def Bq {σ ρ:Type}{body:(σ->C ρ)->σ->C ρ}(P:σ->Prop)(J:σ->Nat)(F:σ->C ρ) (K :∀(next:σ->C ρ) s,P s->(∀H,P H->J H<J s->next H=F H)->body next s=F s) : ∀(n:Nat) (s:σ),P s->J s<n->Ad body n s=F s
 | 0,s,_,h=>absurd h (Nat.not_lt_zero _)
 | n+1,s,h,hm=>K _ s h λH M Q=>Bq P J F K n H M (by omega)
def WH {σ ρ:Type}{body:(σ->C ρ)->σ->C ρ}(P:σ->Prop)(H:σ->Nat)(Q:ρ->Prop) (J :∀(next:σ->C ρ) s,P s->(∀F,P F->H F<H s->∃r,next F=some r/\Q r)->∃r,body next s=some r/\Q r) : ∀(n:Nat) (s:σ),P s->H s<n->∃r,Ad body n s=some r/\Q r
 | 0,s,_,h=>absurd h (Nat.not_lt_zero _)
 | n+1,s,h,hm=>J _ s h λF K M=>WH P H Q J n F K (by omega)
def Ds {α:Type}{l:O α}{a b:Nat}(F:a<=b)(H:b<=l.length):part l (a:Int) (b:Int)=some ((l.drop a).take (b-a)):=by unfold part;rw[Xa2 (by omega)];simp
def fO {α σ ρ:Type}{done:σ->C ρ}{body:(σ->C ρ)->α->Nat->σ->C ρ}(P:O α->Nat->σ->Prop)(Q:ρ->Prop) (F :∀i s,P [] i s->∃r,done s=some r/\Q r) (H :∀(next:σ->C ρ) x t i s,P (x::t) i s->(∀s,P t (i+1) s->∃r,next s=some r/\Q r)->∃r,body next x i s=some r/\Q r) : ∀(l:O α) (i:Nat) (s:σ),P l i s->∃r,AL done body l i s=some r/\Q r
 | [],i,s,h=>F i s h
 | x::t,i,s,h=>H _ x t i s h λJ K=>fO P Q F H t (i+1) J K
def Ic {τ ρ:Type}(b:Prop)[Decidable b](x y:τ)(K:τ->C ρ):AC (λk=>if b then k x else k y) K=K (if b then x else y):=by unfold AC;split<;>rfl
def MJ (l:O S):(bs l).toList=l:=by rw[Xen];simp[bs]
def BE {n:Nat}(h:n<18446744073709551616):n<xv:=h
def AD {α:Type}{b:Nat}{l m:O α}(F:Xeo b 65536=true)(h:l.length+m.length<=1000000000):gO b l m=some (l++m):=by
 unfold gO;have F:=X26 F;rw[Xa2];refine⟨?_,by omega⟩;calc _<=1000000000*65536:=Nat.mul_le_mul h F
  _<=2^47:=by decide
def Ae {α:Type}{l:O α}{i:Nat}(h:i<l.length):gN l (i:Int)=some l[i]:=by unfold gN;rw[Xa2 (by omega)];simp[h]
def F5 {α:Type}(pre:O α)(x:α)(t:O α):gN (pre++x::t) (pre.length:Int)=some x:=by rw[Ae (by simp)];simp
def AK {x:Int}(h:-9223372036854775808<=x/\x<=9223372036854775807):AG x=x:=QW rfl h
def AA {α F:Type}(a:α)(f:α->C F):(some a).bind f=f a:=Eq.trans rfl rfl
def AB {τ ρ:Type}(m:(τ->C ρ)->C ρ)(k:τ->C ρ):AC m k=m k:=Eq.trans rfl rfl
end Go.AX
end
