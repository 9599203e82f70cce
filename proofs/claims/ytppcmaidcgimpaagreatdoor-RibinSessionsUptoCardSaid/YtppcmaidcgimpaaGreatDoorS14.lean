/-
  Texts of one proof, packed.
-/
import Derived.Test.YtppcmaidcgimpaaGreatDoorS10
import Derived.Test.YtppcmaidcgimpaaGreatDoorS13
import Derived.Below
import Derived.Carry
import Derived.ChangeOld
import Derived.LaidHandle
import Derived.LaidMore
import Derived.MakeChecks
import Derived.OpenShut
import Derived.ProofKit
import Derived.WalkKit
import Derived.WideKeyElems2
set_option linter.all false
set_option maxRecDepth 100000
set_option maxHeartbeats 4000000
open List renaming length_map→X6,length_append→X10,getElem?_eq_getElem→X14,length_drop→X16,length_take→X17,mem_cons_of_mem→X18,length_replicate→X19,length_set→X20,mem_append→X22
open Option.some renaming injEq→X23,inj→X24
open Prod.mk renaming injEq→X25
open Bool renaming and_eq_true→X26,eq_iff_iff→X27
open Nat renaming le_of_ble_eq_true→X28
open Option renaming bind→Xg
open List renaming map→Xj,replicate→Xal,range→Xb2
open Go renaming undef→Xbn,MapEntry→Xbr,FuncId→Xcs
open Nat renaming blt→Xbv,ble→Xdl
open UInt64 renaming ofNat→Xah
open UInt8 renaming ofNat→Xd1
open Go.ByteArray renaming toList_eq→Xdc
open Go.IntKind renaming i64→Xdk
section
namespace Go.AX
def AB {τ ρ:Type}(m:(τ->O ρ)->O ρ)(k:τ->O ρ):O ρ:=m k
def iB {α:Type}(l:I α)(i:Int):O α:=if 0<=i/\i<l.length then l[i.toNat]? else none
def rk {α:Type}(l:I α)(i:Int)(x:α):O (I α):=if 0<=i/\i<l.length then some (l.set i.toNat x) else none
def gH {α:Type}(b:Nat)(l m:I α):O (I α):=if (l.length+m.length)*b<=2^47/\l.length+m.length<=2^47 then some (l++m) else none
def part {α:Type}(l:I α)(a b:Int):O (I α):=if 0<=a/\a<=b/\b<=l.length then some ((l.drop a.toNat).take (b.toNat-a.toNat)) else none
def rv (p:Prop)[Decidable p]:O Unit:=if p then some () else none
abbrev AQ (x:Int):Int:=Xdk.wrap x
def AH {α σ ρ:Type}(done:σ->O ρ)(body:(σ->O ρ)->α->Nat->σ->O ρ):I α->Nat->σ->O ρ
 | [],_,s=>done s
 | x::t,i,s=>body (AH done body t (i+1)) x i s
def A3 {σ ρ:Type}(body:(σ->O ρ)->σ->O ρ):Nat->σ->O ρ
 | 0,_=>none
 | n+1,s=>body (A3 body n) s
def qb:Nat:=2^64
abbrev D.u8 (x:S):D:=.val (.int .u8 (x.toNat:Int))
abbrev D.fn (n:Nat):D:=.val (.func (.func n) #[] #[])
abbrev D.u16 (x:UInt16):D:=.val (.int .u16 (x.toNat:Int))
abbrev D.u32 (x:UInt32):D:=.val (.int .u32 (x.toNat:Int))
abbrev D.u64 (x:j):D:=.val (.int .u64 (x.toNat:Int))
abbrev D.l {α:Type}(sz:Nat)(f:α->D)(l:I α):D:=.qY sz (l.map f)
def Aa {α ρ:Type}{x:O α}{f:α->O ρ}{r:ρ}(h:x.bind f=some r) :∃a,x=some a/\f a=some r:=by
 cases x with
 | none=>cases h
 | some a=>exact⟨a,rfl,h⟩
def Oi {b:C}{ρ:Type}{X Y:O ρ}{r:ρ}{A B:Prop}(F:X=some r->A)(H:Y=some r->B):(if b=true then X else Y)=some r->IR b A B:=by
 intro h;cases b
 ·exact H h
 exact F h
def IB {b:C}{A B:Prop}(F:b=true)(h:A):IR b A B:=by subst F;exact h
def ZU {b:C}{A B:Prop}(F:b=false)(h:B):IR b A B:=by subst F;exact h
def ND {α F:Type}{f:α->F}{l:I α}{i:Int}{v:α}(h:iB l i=some v):0<=i/\i<((l.map f).length:Int):=by
 unfold iB at h;split at h
 ·rename_i H;simpa using H
 cases h
def Kw {α:Type}{f:α->D}{l:I α}{i:Int}{v:α}(h:iB l i=some v):(l.map f).getD i.toNat default=f v:=by
 unfold iB at h;split at h
 ·rename_i F;simp[h]
 cases h
def ly {s:T}{i:Int}{v:S}(h:iB s.toList i=some v):0<=i/\i<(s.size:Int):=by
 have e:s.toList.length=s.size:=by rw[Xdc,Xaf];rfl
 unfold iB at h;split at h
 ·rename_i F;rw[e] at F;exact F
 cases h
def jr {s:T}{i:Int}{v:S}(h:iB s.toList i=some v):s.toList.getD i.toNat 0=v:=by
 unfold iB at h;split at h
 ·simp[h]
 cases h
def bs (l:I S):T:=⟨l.toArray⟩
def gp {α:Type}{f:α->D}{l F:I α}{i:Int}{v:α}(h:rk l i v=some F):(l.map f).set i.toNat (f v)=F.map f:=by
 unfold rk at h;split at h
 ·cases h;rw[List.map_set]
 cases h
def XQ {α:Type}{l F:I α}{i:Int}{v:α}(h:rk l i v=some F):F.length=l.length:=by
 unfold rk at h;split at h
 ·cases h;simp
 cases h
def mU {α:Type}{b:Nat}{l m F:I α}(h:gH b l m=some F):F=l++m:=by
 unfold gH at h;split at h
 ·cases h;rfl
 cases h
def eP {α:Type}{b:Nat}{l m F:I α}{f g:α->D}(h:gH b l m=some F):((l.map f).length+(m.map g).length)*b<=2^47/\(l.map f).length+(m.map g).length<=2^47:=by
 unfold gH at h;split at h
 ·rename_i H;simpa using H
 cases h
def kE {α:Type}{b:Nat}{m F:I α}{g:α->D}(h:gH b [] m=some F):(m.map g).length*b<=2^47/\(m.map g).length<=2^47:=by simpa using eP (f:=g) (g:=g) h
def lu {α:Type}{b:Nat}{l m F:I α}{f:α->D}(h:gH b l m=some F):l.map f++m.map f=F.map f:=by rw[mU h,List.map_append]
def Ux {α:Type}{f:α->D}{l F:I α}{a b:Int}(h:part l a b=some F):0<=a/\a<=b/\b<=((l.map f).length:Int):=by
 unfold part at h;split at h
 ·rename_i H;simpa using H
 cases h
def ZJ {α:Type}{f:α->D}{l F:I α}{a:Int}(h:part l a l.length=some F):0<=a/\a<=((l.map f).length:Int)/\((l.map f).length:Int)<=((l.map f).length:Int):=by have:=Ux (f:=f) h;simp at this⊢;exact this
def PQ {α:Type}{f:α->D}{l F:I α}{a b:Int}(h:part l a b=some F):((l.map f).drop a.toNat).take (b.toNat-a.toNat)=F.map f:=by
 unfold part at h;split at h
 ·cases h;rw[List.map_take,List.map_drop]
 cases h
def Zc {α:Type}{f:α->D}{l F:I α}{a:Int}(h:part l a l.length=some F):((l.map f).drop a.toNat).take (((l.map f).length:Int).toNat-a.toNat)=F.map f:=by have:=PQ (f:=f) h;simpa using this
def mJ {n c:Int}{b:Nat}{u:Unit}(h:rv (0<=n/\n<=c/\c<=1048576)=some u)(F:b<=65536):0<=n/\n<=c/\c<=1048576/\b<=65536:=by
 unfold rv at h;split at h
 ·rename_i q;exact⟨q.1,q.2.1,q.2.2,F⟩
 cases h
def BA {K V:Type}[BEq K]:I (K×V)->K->O V
 | [],_=>none
 | p::l,k=>if k==p.1 then some p.2 else BA l k
def BJ {K V:Type}[BEq K]:I (K×V)->K->V->I (K×V)
 | [],k,v=>[(k,v)]
 | p::l,k,v=>if k==p.1 then (k,v)::l else p::BJ l k v
def Bh {K V:Type}(ek:K->D)(ev:V->D)(l:I (K×V)):I (D×D):=l.map λp=>(ek p.1,ev p.2)
def Hg {K V:Type}[BEq K]{tk:TK}{ek:K->D}{ev:V->D}{l:I (K×V)}{k:K}(h :∀a b,Db tk (ek a) (ek b)=some (a==b)):Bl tk (ek k) (Bh ek ev l)=some ((BA l k).map ev):=by
 induction l with
 | nil=>rfl
 | cons p l F=>
  simp only[Bh,Xb5,Bl,h,BA];cases k==p.1
  ·simpa[Bh] using F
  simp
def Ou {K V:Type}[BEq K]{tk:TK}{ek:K->D}{ev:V->D}{l:I (K×V)}{k:K}{v:V}(h :∀a b,Db tk (ek a) (ek b)=some (a==b)):Ek tk (ek k) (ev v) (Bh ek ev l)=some (Bh ek ev (BJ l k v)):=by
 induction l with
 | nil=>rfl
 | cons p l F=>
  simp only[Bh,Xb5,Ek,h,BJ];cases k==p.1
  ·simp only[Bh] at F;simp[F]
  simp
def P3 {K V:Type}[BEq K]{tk:TK}{ek:K->D}{ev:V->D}{l:I (K×V)}{k:K}{u:Unit}(h :∀a b,Db tk (ek a) (ek b)=some (a==b))(g:rv ((BA l k).isNone=true)=some u):Bl tk (ek k) (Bh ek ev l)=some none:=by
 rw[Hg h];unfold rv at g;split at g
 ·rename_i q;cases hm:BA l k with
  | none=>rfl
  | some v=>rw[hm] at q;simp at q
 simp at g
def mB {V:Type}{f:V->D}{o:O V}{z:V}{F:D}(H:F=f z):(o.map f).getD F=f (o.getD z):=by cases o<;>simp[H]
def lX {V:Type}{f:V->D}{o:O V}:(o.map f).isSome=o.isSome:=by cases o<;>rfl
def j5 {V:Type}{f:V->D}{o:O V}{z v:V}{F:D}(H:F=f z)(g:some (o.getD z)=some v):(o.map f).getD F=f v:=by rw[mB H,X24 g]
def ki {V:Type}{f:V->D}{o:O V}{b:C}(g:some o.isSome=some b):(o.map f).isSome=b:=by rw[lX,X24 g]
def Ie (a b:Int):Db (.int .i64) (D.i a) (D.i b)=some (a==b):=by simp[Db]
def Qc (a b:T):Db .str (D.s a) (D.s b)=some (a==b):=rfl
def iM (a b:S):Db (.int .u8) (D.u8 a) (D.u8 b)=some (a==b):=by simp only[Db,Xdt,X23];rw[X27];simp only[Xc0,Int.natCast_inj];exact UInt8.toNat_inj
def FD {p:Prop}[Decidable p]{u:Unit}(h:rv p=some u):p:=by
 unfold rv at h;split at h
 ·assumption
 cases h
def W9 {τ ρ:Type}{np:Nat}{X:(pw->Prop)->Prop}{K:pw->Prop}{m:(τ->O ρ)->O ρ}{k:τ->O ρ}{r:ρ}(St:τ->pw) (H :∀F:τ->O ρ,m F=some r->X (λt=>∃s,qG np t s/\∃v,F v=some r/\s=St v)) (J :∀v,k v=some r->K (St v)):AB m k=some r->sh np X K:=
 λh=>.cut (λs=>∃v,k v=some r/\s=St v) (H k h) λ_ ⟨v,M,P⟩=>P▸J v M
def fh {α:Type}{l:I α}{a b:Int}{u:Unit}{f:α->D}(h:rv (0<=a/\a<=b/\b<=(l.length:Int))=some u):0<=a/\a<=b/\b<=((l.map f).length:Int):=by rw[X6];exact FD h
def L0 {α:Type}{l:I α}{a:Int}{u:Unit}{f:α->D}(h:rv (0<=a/\a<=(l.length:Int)/\(l.length:Int)<=(l.length:Int))=some u):0<=a/\a<=((l.map f).length:Int)/\((l.map f).length:Int)<=((l.map f).length:Int):=by rw[X6];exact FD h
def Un {α:Type}{l:I α}{a n:Nat}{f:α->D}:((l.map f).drop a).take n=Xj f ((l.drop a).take n):=by simp
def X5 {α:Type}{l:I α}{a n:Nat}{i:Int}{v:α}(h:iB ((l.drop a).take n) i=some v):0<=i/\i<(n:Int):=by
 unfold iB at h;split at h
 ·rename_i F;have:((l.drop a).take n).length<=n:=List.length_take_le _ _;omega
 simp at h
def YV {α:Type}{l:I α}{a n:Nat}{i:Int}{v:α}{f:α->D}(h:iB ((l.drop a).take n) i=some v):(l.map f).getD (a+i.toNat) default=f v:=by
 unfold iB at h;split at h
 ·rename_i F;rw[List.getElem?_take,Xl (by have:((l.drop a).take n).length<=n:=List.length_take_le _ _;omega),List.getElem?_drop] at h;simp[Xo,h]
 simp at h
def fm {α:Type}{f:α->D}{l:I α}{a n:Nat}:((l.map f).drop a).take n=((l.drop a).take n).map f:=by simp
def YB {α:Type}{l v:I α}{a b:Int}{f:α->D}(h:part l a b=some v):0<=a/\a<=b/\b<=b/\b<=((l.map f).length:Int):=by have:=Ux (f:=f) h;exact⟨this.1,this.2.1,Int.le_refl _,this.2.2⟩
def kT {α:Type}{l v:I α}{a:Int}{f:α->D}(h:part l a l.length=some v):0<=a/\a<=((l.map f).length:Int)/\((l.map f).length:Int)<=((l.map f).length:Int)/\((l.map f).length:Int)<=((l.map f).length:Int):=by have:=ZJ (f:=f) h;exact⟨this.1,this.2.1,Int.le_refl _,Int.le_refl _⟩
def jE {α:Type}{l v:I α}{a b m:Int}{f:α->D}{u:Unit}(h:part l a b=some v)(J:rv (b<=m/\m<=(l.length:Int))=some u):0<=a/\a<=b/\b<=m/\m<=((l.map f).length:Int):=by have F:=Ux (f:=f) h;have H:=FD J;rw[X6];exact⟨F.1,F.2.1,H.1,H.2⟩
def Ve {α:Type}{l:I α}{a n:Nat}{z:α}{f:α->D}:(l.map f).take a++Xal n (f z)++(l.map f).drop (a+n)=Xj f (l.take a++Xal n z++l.drop (a+n)):=by simp
def wh {α:Type}(l:I α)(a n:Nat)(s:I α):I α:=l.take a++s.take n++l.drop (a+min s.length n)
def cw (s F:pw):I AV->I D->Prop
 | [],[]=>True
 | a::l,y::H=>(y.isAgg=false/\rh s F a (.d y))/\cw s F l H
 | _,_=>False
def SZ {s H:pw} :∀{F:I AV} {ys:I D},cw s H F ys->ys.length=F.length
 | [],[],_=>rfl
 | _::_,_::_,h=>by simp[SZ h.2]
def SO {s J:pw} :∀{H:I AV} {ys:I D},cw s J H ys->∀i (F:i<H.length) (hi':i<ys.length),ys[i].isAgg=false/\rh s J H[i] (.d ys[i])
 | [],[],_,i,F,_=>by simp at F
 | _::_,_::_,h,0,_,_=>h.1
 | _::_,_::_,h,i+1,F,hi'=>SO h.2 i (by simpa using F) (by simpa using hi')
def _root_.Go.AX.rh.box {s K:pw}(r:Nat)(F:I AV)(ys:I D)(sz:Nat)(h:s.ob.getD r none=some (.box F))(P:K.ob.getD r none=none)(qE:sz=F.length)(hp:0<F.length)(H:cw s K F ys):rh s K (.own r 1) (.d (.qY sz [.agg ys])):=
 .vU r F ys sz h P qE (SZ H) hp (λi J M=>(SO H i J M).2) λi J=>(SO H i (by rw[<- SZ H];exact J) J).1
def aw (s F:pw):I AV->I AV->Prop
 | [],[]=>True
 | a::l,y::H=>rh s F a y/\aw s F l H
 | _,_=>False
def Z3:I AV->C
 | []=>true
 | a::l=>a.one&&Z3 l
def dw (s F:pw):I D->I AV->Prop
 | [],[]=>True
 | a::l,y::H=>rh s F (.d a) y/\dw s F l H
 | _,_=>False
def PR {s K:pw} :∀{J F:I AV},aw s K J F->J.length=F.length/\∀i (H:i<J.length) (hi':i<F.length),rh s K J[i] F[i]
 | [],[],_=>⟨rfl,λi H=>by simp at H⟩
 | _::_,_::_,h=>⟨by simp[(PR h.2).1],λi H hi'=>match i,H,hi' with
  | 0,_,_=>h.1
  | i+1,H,hi'=>(PR h.2).2 i (by simpa using H) (by simpa using hi')⟩
def Ut {s K:pw} :∀{J:I D} {F:I AV},dw s K J F->J.length=F.length/\∀i (H:i<J.length) (hi':i<F.length),rh s K (.d J[i]) F[i]
 | [],[],_=>⟨rfl,λi H=>by simp at H⟩
 | _::_,_::_,h=>⟨by simp[(Ut h.2).1],λi H hi'=>match i,H,hi' with
  | 0,_,_=>h.1
  | i+1,H,hi'=>(Ut h.2).2 i (by simpa using H) (by simpa using hi')⟩
def RB :∀{F:I AV},Z3 F=true->∀i (H:i<F.length),F[i].one=true
 | _::_,h,0,_=>by simp only[Z3,X26] at h;exact h.1
 | _::_,h,i+1,H=>by simp only[Z3,X26] at h;exact RB h.2 i (by simpa using H)
def _root_.Go.AX.rh.vE {s J:pw}{H F:I AV}(h:aw s J H F):rh s J (.qT H) (.qT F):=.qT H F (PR h).1 (PR h).2
def _root_.Go.AX.rh.vJ {s J:pw}{H F:I AV}(K:Z3 F=true)(h:aw s J H F):rh s J (.agg H) (.agg F):=.agg H F (PR h).1 (PR h).2 (RB K)
def _root_.Go.AX.rh.uz {s J:pw}{H:I D}{F:I AV}(K:Z3 F=true)(h:dw s J H F):rh s J (.d (.agg H)) (.agg F):=.vQ H F (Ut h).1 (Ut h).2 (RB K)
def _root_.Go.AX.rh.uG {s K:pw}{H:I AV}{ys:I D}(h:cw s K H ys):rh s K (.agg H) (.d (.agg ys)):=.vM H ys (SZ h).symm (λi F J=>(SO h i F J).2) λi F=>(SO h i (by rw[<- SZ h];exact F) F).1
def JQ {c:Prop}[Decidable c]{α:Type}{a b r:α}(g:c)(h:(if c then a else b)=r):a=r:=by rwa [Xl g] at h
def I4 {c:Prop}[Decidable c]{α:Type}{a b r:α}(g:¬ c)(h:(if c then a else b)=r):b=r:=by rwa [Xk g] at h
def E6 {τ ρ:Type}{np:Nat}{t:pw}{St:τ->pw}{k:τ->O ρ}{r:ρ}{v:τ}(F:qG np t (St v))(h:k v=some r) :∃s,qG np t s/\∃v,k v=some r/\s=St v:=
 ⟨_,F,v,h,rfl⟩
def EF {np:Nat}{body:(AE->pw->Prop)->pw->Prop}{K:AE->pw->Prop}{st:pw}{α σ ρ:Type}{done:σ->O ρ}{V:(σ->O ρ)->α->Nat->σ->O ρ}{l:I α}{Q:σ}{r:ρ} (F sz:Nat) (enc:α->D) (hs:st.tm.getD F .dead=.d (.qY sz (l.map enc))) (St:Nat->σ->pw) (hw:qG np st (St 0 Q)) (M :∀(s:σ) (U:pw->Prop),done s=some r->body (tS K U) (St l.length s)) (H :∀(next:σ->O ρ) (i:Nat) (x:α) (s:σ) (U:pw->Prop),i<l.length->(l.map enc).getD i default=enc x->Xdk.wrap ((i:Int)+1)=((i+1:Nat):Int)->V next x i s=some r-> (∀t v,qG np t (St (i+1) v)->next v=some r->U t)->body (tS K U) (St i s)):AH done V l 0 Q=some r->sl np body K st:=by
 intro h;refine .mk λhb _=>?_;have hl:l.length<=9223372036854775807:=by simpa using hb F sz _ hs
 refine⟨λs n=>∃(i:Nat) (v:σ),n=l.length-i/\i<=l.length/\AH done V (l.drop i) i v=some r/\s=St i v,⟨St 0 Q,l.length,hw,0,Q,by simp,by simp,by simpa using h,rfl⟩,?_⟩;rintro _ n ⟨i,v,hn,hi,P,rfl⟩;by_cases he:i=l.length
 ·subst he;simp only[List.drop_length,AH] at P;exact M v _ P
 have J:i<l.length:=by omega
 rw[Xbt J] at P;simp only[AH] at P;exact H _ i l[i] v _ J (by simp[J]) (PL (by omega) ⟨by omega,by omega⟩) P
  λt v' Y Z=>⟨_,l.length-(i+1),by omega,Y,i+1,v',rfl,by omega,Z,rfl⟩
def OJ {np:Nat}{body:(AE->pw->Prop)->pw->Prop}{K:AE->pw->Prop}{st:pw}{α σ ρ:Type}{done:σ->O ρ}{V:(σ->O ρ)->α->Nat->σ->O ρ}{l:I α}{Q:σ}{r:ρ} (F e sz:Nat) (fz:FZ) (enc:α->D) (hs:st.ob.getD F none=some (.row e sz (l.map enc) fz)) (St:Nat->σ->pw) (hw:qG np st (St 0 Q)) (M :∀(s:σ) (U:pw->Prop),done s=some r->body (tS K U) (St l.length s)) (H :∀(next:σ->O ρ) (i:Nat) (x:α) (s:σ) (U:pw->Prop),i<l.length->(l.map enc).getD i default=enc x->Xdk.wrap ((i:Int)+1)=((i+1:Nat):Int)->V next x i s=some r-> (∀t v,qG np t (St (i+1) v)->next v=some r->U t)->body (tS K U) (St i s)):AH done V l 0 Q=some r->sl np body K st:=by
 intro h;refine .mk λ_ hb=>?_;have hl:l.length<=9223372036854775807:=by simpa using hb F _ _ _ _ hs
 refine⟨λs n=>∃(i:Nat) (v:σ),n=l.length-i/\i<=l.length/\AH done V (l.drop i) i v=some r/\s=St i v,⟨St 0 Q,l.length,hw,0,Q,by simp,by simp,by simpa using h,rfl⟩,?_⟩;rintro _ n ⟨i,v,hn,hi,P,rfl⟩;by_cases he:i=l.length
 ·subst he;simp only[List.drop_length,AH] at P;exact M v _ P
 have J:i<l.length:=by omega
 rw[Xbt J] at P;simp only[AH] at P;exact H _ i l[i] v _ J (by simp[J]) (PL (by omega) ⟨by omega,by omega⟩) P
  λt v' Y Z=>⟨_,l.length-(i+1),by omega,Y,i+1,v',rfl,by omega,Z,rfl⟩
def NM {α:Type}{l:I α}{i:Nat}(h:i<l.length):decide ((i:Int)<(l.length:Int))=true:=by simpa using h
def kL {α:Type}{l:I α}:decide ((l.length:Int)<(l.length:Int))=false:=by simp
def GO {α F:Type}{f:α->F}{l:I α}{i:Nat}(h:i<l.length):0<=(i:Int)/\(i:Int)<((l.map f).length:Int):=⟨by omega,by simpa using h⟩
def FI {np:Nat}{body:(AE->pw->Prop)->pw->Prop}{K:AE->pw->Prop}{st:pw}{σ ρ:Type}{J:(σ->O ρ)->σ->O ρ}{n:Nat}{H:σ}{r:ρ} (St:σ->pw) (V:qG np st (St H)) (F :∀(next:σ->O ρ) (s:σ) (Q:pw->Prop),J next s=some r->(∀t v,qG np t (St v)->next v=some r->Q t)->body (tS K Q) (St s)):A3 J n H=some r->sl np body K st:=by
 intro h;refine .mk λ_ _=>⟨λs n=>∃v,A3 J n v=some r/\s=St v,⟨St H,n,V,H,h,rfl⟩,?_⟩;rintro _ m ⟨v,U,rfl⟩;cases m with
 | zero=>cases U
 | succ m=>exact F _ v _ U λt Y M P=>⟨_,m,Nat.lt_succ_self m,M,Y,P,rfl⟩
def SK (F:I Nat)(acc:I Nat):Nat:=F.foldl (λm j=>m ||| 2^j ||| acc.getD (acc.length-1-j) 0) 0
def iJ:I z->I Nat->I Nat
 | [],acc=>acc
 | o::l,acc=>iJ l (SK (Bz o) acc::acc)
def VY (F:Array z)(o:z)(m:Nat):I z->C
 | []=>true
 | q::prev=>(m.testBit prev.length || q.apart F o)&&VY F o m prev
def rU.go (H:Array z):I z->I z->I Nat->C
 | [],_,_=>true
 | o::l,prev,F=>(Bz o).all (λj=>Xbv j prev.length)&&(match o.op with|.select _ _=>false|_=>true)&&VY H o (SK (Bz o) F) prev &&
   rU.go H l (o::prev) (SK (Bz o) F::F)
def rU (F:Array z):C:=rU.go F F.toList [] []
def Kq :∀(a b:I z) (acc:I (I Nat)),IS (a++b) acc=IS b (IS a acc)
 | [],_,_=>rfl
 | o::a,b,acc=>Kq a b _
def Pn :∀(l:I z) (acc:I (I Nat)),∃p,IS l acc=p++acc/\p.length=l.length
 | [],acc=>⟨[],rfl,rfl⟩
 | o::l,acc=>by obtain⟨p,F,H⟩:=Pn l (((Bz o).flatMap λj=>j::acc.getD (acc.length-1-j) [])::acc);exact⟨p++[(Bz o).flatMap λj=>j::acc.getD (acc.length-1-j) []],by rw[IS,F];simp,by simp[H]⟩
def sD (masks:I Nat)(acc:I (I Nat)):Prop:=masks.length=acc.length/\∀k j,(masks.getD k 0).testBit j=true->j∈acc.getD k []
def Sj {masks:I Nat}{acc:I (I Nat)}(h:sD masks acc)(F:I Nat)(j:Nat)(J:(SK F masks).testBit j=true):j∈F.flatMap λj=>j::acc.getD (acc.length-1-j) []:=by
 have key :∀(F:I Nat) (m:Nat),(F.foldl (λm j=>m ||| 2^j ||| masks.getD (masks.length-1-j) 0) m).testBit j=true->
   m.testBit j=true\/j∈F.flatMap λj=>j::acc.getD (acc.length-1-j) []:=by
  intro F;induction F with
  | nil=>intro m h;exact .inl h
  | cons p F K=>
   intro m H;simp only[Xbb] at H;rcases K _ H with g|g
   ·simp only[Nat.testBit_or,Xcu,Nat.testBit_two_pow,Xh] at g;rcases g with (g|g)|g
    ·exact .inl g
    ·subst g;exact .inr (by simp)
    rw[h.1] at g;have:=h.2 _ _ g;exact .inr (by simp only[Xat,X22,Xp];exact .inl (.inr this))
   exact .inr (by simp only[Xat,X22];exact .inr g)
 rcases key F 0 J with g|g
 ·simp at g
 exact g
def sD.cons {masks:I Nat}{acc:I (I Nat)}(h:sD masks acc)(F:I Nat):sD (SK F masks::masks) ((F.flatMap λj=>j::acc.getD (acc.length-1-j) [])::acc):=by
 refine⟨by simp[h.1],λk j H=>?_⟩;cases k with
 | zero=>exact Sj h F j H
 | succ k=>exact h.2 k j H
def dn :∀(l:I z) {masks:I Nat} {acc:I (I Nat)},sD masks acc->sD (iJ l masks) (IS l acc)
 | [],_,_,h=>h
 | o::l,_,_,h=>dn l (h.cons (Bz o))
def UG {J:Array z}{o:z}{m:Nat} :∀{F:I z},VY J o m F=true->∀j q,j<F.length->F.reverse[j]?=some q->m.testBit j=true\/q.apart J o=true
 | [],_,j,q,M,_=>by simp at M
 | p::F,h,j,q,M,H=>by
  simp only[VY,X26,Xcu] at h;simp only[List.reverse_cons] at H;by_cases he:j=F.length
  ·subst he;rw[Xab (by simp)] at H;simp at H;subst H;exact h.1
  have K:j<F.length:=by simp at M;omega
  rw[Xa6 (by simpa using K)] at H;exact UG h.2 j q K H
def Ua {H:Array z} :∀(l F:I z) (masks:I Nat),F.reverse++l=H.toList->sD masks (IS F.reverse [])->rU.go H l F masks=true-> ∀i o,F.length<=i->H[i]?=some o->((Bz o).all (λj=>Xbv j i)&&(match o.op with|.select _ _=>false|_=>true) && (Xb2 i).all λj=>(GB H i).contains j || (match H[j]? with
    | none=>false
    | some q=>q.apart H o))=true
 | [],F,masks,J,_,_,i,o,hi,P=>by
  have:H.toList.length=F.length:=by rw[<- J];simp
  simp only[Xaf] at this;have:=(Xbo.1 P).1;omega
 | q::l,F,masks,J,Z,h,i,o,hi,P=>by
  simp only[rU.go,X26] at h;obtain⟨⟨⟨h1,h2⟩,h3⟩,h4⟩:=h;by_cases he:i=F.length
  ·subst he;have K:H.toList[F.length]?=some o:=by simpa using P
   rw[<- J,Xab (by simp)] at K;simp at K;subst K;have ha:GB H F.length=(Bz q).flatMap λj=>j::(IS F.reverse []).getD ((IS F.reverse []).length-1-j) []:=by
    unfold GB;rw[<- J,Kq,IS];obtain⟨p,hp,a1⟩:=Pn l (((Bz q).flatMap λj=>j::(IS F.reverse []).getD ((IS F.reverse []).length-1-j) [])::IS F.reverse []);have hs:H.size-1-F.length=p.length:=by
     have:H.toList.length=F.length+(l.length+1):=by rw[<- J];simp
     simp only[Xaf] at this;omega
    rw[hp,hs];simp
   simp only[X26];refine⟨⟨h1,h2⟩,?_⟩;rw[Xm];intro j Q;have Q:=Xcr.1 Q;have U :∃p,H[j]?=some p/\F.reverse[j]?=some p:=by
    have M:j<F.reverse.length:=by simpa using Q
    refine⟨F.reverse[j],?_,X14 M⟩;have:H.toList[j]?=some F.reverse[j]:=by rw[<- J,Xa6 M,X14 M]
    simpa using this
   obtain⟨p,V,Y⟩:=U;rw[Xcu];rcases UG h3 j p Q Y with g|g
   ·left;rw[ha];simpa using Sj Z (Bz q) j g
   right;rw[V];exact g
  refine Ua l (q::F) _ (by simpa using J) ?_ h4 i o (by simp;omega) P;rw[List.reverse_cons,Kq];exact Z.cons (Bz q)
def WN {F:Array z}(h:rU F=true):E1 F=true:=by unfold E1;rw[Xm];intro i H;have H:=Xcr.1 H;have:=Ua F.toList [] [] (by simp) ⟨rfl,λk j J=>by simp at J⟩ h i F[i] (by simp) (by simp[H]);simp only[H,getElem?_pos];exact this
def rJ.sb (M:I Nat)(n i:Nat)(J wr:I Nat):Nat->I (I Nat×I Nat)->C
 | _,[]=>true
 | j,(F,H)::l=>((M.getD (n-1-j) 0).testBit i || ((wr.all λr=>!F.contains r)&&J.all λr=>!H.contains r))&&rJ.sb M n i J wr (j+1) l
def rJ.go (M:I Nat)(n:Nat):Nat->I (I Nat×I Nat)->C
 | _,[]=>true
 | i,(F,wr)::l=>rJ.sb M n i F wr (i+1) l&&rJ.go M n (i+1) l
def rJ (F:Array z)(H:I (I Nat×I Nat)):C:=rJ.go (iJ F.toList []) F.size 0 H
def gX {F:Array z}{J:I (I Nat×I Nat)}(h:rJ F J=true):EV F 0 J=true:=by
 have Q:=dn F.toList (masks:=[]) (acc:=[]) ⟨rfl,λk j U=>by simp at U⟩;have c :∀(l:I (I Nat×I Nat)) (i:Nat) (K wr:I Nat) (j:Nat),rJ.sb (iJ F.toList []) F.size i K wr j l=true->EV.sb F i K wr j l=true:=by
  intro l;induction l with
  | nil=>intro i K wr j _;rfl
  | cons x l P=>
   intro i K wr j H;obtain⟨V,Y⟩:=x;simp only[rJ.sb,X26] at H;simp only[EV.sb,X26];refine⟨?_,P _ _ _ _ H.2⟩;have M:=H.1;rw[Xcu] at M⊢;rcases M with g|g
   ·exact .inl (by simpa[GB] using Q.2 _ _ g)
   exact .inr g
 have g :∀(l:I (I Nat×I Nat)) (i:Nat),rJ.go (iJ F.toList []) F.size i l=true->EV F i l=true:=by
  intro l;induction l with
  | nil=>intro i _;rfl
  | cons x l P=>intro i H;obtain⟨K,wr⟩:=x;simp only[rJ.go,X26] at H;simp only[EV,X26];exact⟨c _ _ _ _ _ H.1,P _ H.2⟩
 exact g _ _ h
def xb {F:Array z}{K:Prop}(h:rU F=true)(k:K):E1 F=true/\K:=⟨WN h,k⟩
def vh {F:Array z}{K:Prop}(h:(rU F&&Ov F)=true)(k:K):(E1 F=true/\Ov F=true)/\K:=by simp only[X26] at h;exact⟨⟨WN h.1,h.2⟩,k⟩
def xc {F:Array z}{e:I (I Nat×I Nat)}{K:Prop}(h:rJ F e=true)(k:K):EV F 0 e=true/\K:=⟨gX h,k⟩
def bN (x:S):Xdk.wrap (x.toNat:Int)=(x.toNat:Int):=by have:=x.toNat_lt;exact PL rfl ⟨by omega,by omega⟩
def YF (x:UInt16):Xdk.wrap (x.toNat:Int)=(x.toNat:Int):=by have:=x.toNat_lt;exact PL rfl ⟨by omega,by omega⟩
def YC (x:UInt32):Xdk.wrap (x.toNat:Int)=(x.toNat:Int):=by have:=x.toNat_lt;exact PL rfl ⟨by omega,by omega⟩
def Az (x:Int):S:=Xd1 (x%256).toNat
def W2 (x:Int):UInt16:=UInt16.ofNat (x%65536).toNat
def V4 (x:Int):UInt32:=UInt32.ofNat (x%4294967296).toNat
def AY (x:Int):j:=Xah (x%18446744073709551616).toNat
def QZ (x:Int):IntKind.u8.wrap x=((Az x).toNat:Int):=by
 have e:(2^IntKind.u8.bits:Int)=256:=by decide
 simp only[IntKind.wrap,IntKind.signed,e,Az,Xcx];simp;omega
def ez (x:Int):IntKind.u16.wrap x=((W2 x).toNat:Int):=by
 have e:(2^IntKind.u16.bits:Int)=65536:=by decide
 simp only[IntKind.wrap,IntKind.signed,e,W2,UInt16.toNat_ofNat'];simp;omega
def iY (x:Int):IntKind.u32.wrap x=((V4 x).toNat:Int):=by
 have e:(2^IntKind.u32.bits:Int)=4294967296:=by decide
 simp only[IntKind.wrap,IntKind.signed,e,V4,UInt32.toNat_ofNat'];simp;omega
def N8 (x:Int):IntKind.u64.wrap x=((AY x).toNat:Int):=by
 have e:(2^IntKind.u64.bits:Int)=18446744073709551616:=by decide
 simp only[IntKind.wrap,IntKind.signed,e,AY,Xag];simp;omega
def Qk {n:Int}(h:0<=n/\n<256):((Az n).toNat:Int)=n:=by simp only[Az,Xcx];simp;omega
def WQ {n:Int}(h:0<=n/\n<65536):((W2 n).toNat:Int)=n:=by simp only[W2,UInt16.toNat_ofNat'];simp;omega
def V1 {n:Int}(h:0<=n/\n<4294967296):((V4 n).toNat:Int)=n:=by simp only[V4,UInt32.toNat_ofNat'];simp;omega
def IX {n:Int}(h:0<=n/\n<18446744073709551616):((AY n).toNat:Int)=n:=by simp only[AY,Xag];simp;omega
def Jh {n m:Nat}(s:Nat)(h:n<m):0<=(n:Int).fdiv (2^s)/\(n:Int).fdiv (2^s)<m:=by
 have e:(2^s:Int)=((2^s:Nat):Int):=by simp
 rw[e,Xc3 _ (Xcg _),<- Int.natCast_ediv];have:=Nat.div_le_self n (2^s);generalize n/2^s=q at *;omega
def ej (x:S)(s:Nat):(x.toNat:Int).fdiv (2^s)=((Az ((x.toNat:Int).fdiv (2^s))).toNat:Int):=(Qk (Jh s x.toNat_lt)).symm
def jI (x:UInt16)(s:Nat):(x.toNat:Int).fdiv (2^s)=((W2 ((x.toNat:Int).fdiv (2^s))).toNat:Int):=(WQ (Jh s x.toNat_lt)).symm
def ji (x:UInt32)(s:Nat):(x.toNat:Int).fdiv (2^s)=((V4 ((x.toNat:Int).fdiv (2^s))).toNat:Int):=(V1 (Jh s x.toNat_lt)).symm
def Y7 (x:j)(s:Nat):(x.toNat:Int).fdiv (2^s)=((AY ((x.toNat:Int).fdiv (2^s))).toNat:Int):=(IX (Jh s x.toNat_lt)).symm
end Go.AX
end
section
namespace Go.AX
open Go.RowKit Go.Deep Go.ChangeShapes Go.WideShapes Go.ChangeAt
section
variable {H:Type} {enc:TypeId×A->H} {P:Program} {w:B} {L:uO H P}
def ph.map' {t:Nat}{α K:Type}{cells:α->I D}{ok:α->Prop}(h:ph L enc w t cells ok){F:K->I D}{J:K->Prop}(g:α->K)(Q :∀a,ok a->F (g a)=cells a)(U :∀a,ok a->J (g a)):ph L enc w t F J:=by intro qb V x Y Z;obtain⟨a,M,h2⟩:=h qb V x Y Z;exact⟨g a,U a M,by rw[Q a M];exact h2⟩
def RZ {k:IntKind}{n:Int}(h:(Lit.int k n).wf=true):k.min<=n/\n<=k.max:=by simpa[Lit.wf] using h
def tz {t:Nat}(F:P.underlying t=some (.int .i64)):ph L enc w t (λn:Int=>[D.i n]) r7:=
 (PU F).map' id (λ_ _=>rfl) λa h=>by have:=RZ h;simpa[IntKind.min,IntKind.max,IntKind.signed,IntKind.bits,r7] using this
def tN {t:Nat}(F:P.underlying t=some (.int .u8)):ph L enc w t (λn:S=>[D.u8 n]) (λ_=>True):=
 (PU F).map' Az (λa h=>by
  have:=RZ h;have:=Qk (n:=a) (by simp[IntKind.min,IntKind.max,IntKind.signed,IntKind.bits] at this;omega)
  simp only[D.u8,this]) λ_ _=>trivial
def tA {t:Nat}(F:P.underlying t=some (.int .u64)):ph L enc w t (λn:j=>[D.u64 n]) (λ_=>True):=
 (PU F).map' AY (λa h=>by
  have:=RZ h;have:=IX (n:=a) (by simp[IntKind.min,IntKind.max,IntKind.signed,IntKind.bits] at this;omega)
  simp only[D.u64,this]) λ_ _=>trivial
def so {t:Nat}{K:TypeDesc}(Q:P.underlying t=some K)(U:(match K with|.int _|.bool|.string|.slice _=>true|_=>false)=true){α:Type}{c:α->D}{ok:α->Prop}(h:ph L enc w t (λa=>[c a]) ok){base:Nat}{v:A}{d:DataW H}{p:I MemPlace} (F:Value.okWide P w .any base t v) (V:DataW.Trod enc P w 0 (λ_=>true) true t v d p) (Y:L.W t d) :∃x,ok x/\gM (tD w) w (λ_=>none) (qt []) (.d (c x)) v:=by
 obtain⟨qb,Z⟩:=V;obtain⟨x,h1,h2⟩:=h qb _ _ Z Y;refine⟨x,h1,.d _ _ (rI.val (?_:rI w [c x] [v]))⟩;have M :∀J,v≠.agg J:=by rintro J rfl;unfold Value.okWide at F;rw[Q] at F;cases K<;>simp at U<;>simp[Cell.okWide,Cell.ok,Q] at F
 have:v.cells.toList=[v]:=by cases v<;>first|rfl|(rename_i J;exact absurd rfl (M J))
 rwa [this] at h2
def sX {t:Nat}{F:Array Field}(K:P.underlying t=some (.struct F)){α:Type}{c:α->I D}{ok:α->Prop}(h:ph L enc w t c ok){base:Nat}{v:A}{d:DataW H}{p:I MemPlace} (J:Value.okWide P w .any base t v) (M:DataW.Trod enc P w 0 (λ_=>true) true t v d p) (Q:L.W t d) :∃x,ok x/\gM (tD w) w (λ_=>none) (qt []) (.d (.agg (c x))) v:=by unfold Value.okWide at J;rw[K] at J;obtain⟨Y,rfl,_⟩:=J;obtain⟨x,U,V⟩:=dC h M Q;exact⟨x,U,.d _ _ V⟩
inductive su (w:World):List Value->List AV->Prop
 | nil:su w [] []
 | cons {v:Value} {x:D} {vs:List Value} {avs:List AV} (h:gM (tD w) w (λ_=>none) (qt []) (.d x) v) (t:su w vs avs):su w (v::vs) (.d x::avs)
def su.get {K:I A}{F:I AV}(h:su w K F):K.length=F.length/\∀i (J:i<F.length),gM (tD w) w (λ_=>none) (qt []) F[i] (K.getD i Xbn)/\gN (qt []) F[i]:=by
 induction h with
 | nil=>exact⟨rfl,λi J=>by simp at J⟩
 | cons h t M=>
  refine⟨by simp[M.1],λi J=>?_⟩;cases i with
  | zero=>exact⟨h,A5 _ _⟩
  | succ i=>simpa using M.2 i (by simpa using J)
def MV (U:laidOutB P=true){W V:B}(Y:Below W.heap.size W V) :∀{ts:I TypeId} {J:I A} {K:I (DataW H)} {M:I MemPlace}, (ts.all λt=>P.readableRec t&&decide (t<P.types.size))=true->DataW.TrodAll enc P W 0 (λ_=>true) true ts J K M->DataW.TrodAll enc P V 0 (λb=>decide (b<W.heap.size)) true ts J K M
 | [],[],[],_,_,h=>h
 | t::ts,v::J,d::K,M,F,h=>by have Q:=h.lt;obtain⟨p,q,Z,h2,rfl⟩:=h;simp only[Xc9,X26,Xh] at F;exact⟨p,q,Below.trod U F.1.1 F.1.2 Z Y λx hx=>Q x (by simp[hx]),MV U Y F.2 h2,rfl⟩
 | [],[],_::_,_,_,h=>h.elim
 | [],_::_,_,_,_,h=>h.elim
 | _::_,[],_,_,_,h=>h.elim
 | _::_,_::_,[],_,_,h=>h.elim
def rT :∀{ts:I TypeId} {F:I A} {J:I (DataW H)} {K:I MemPlace} {M:Nat->C},DataW.TrodAll enc P w 0 M true ts F J K->J.length=ts.length/\F.length=ts.length
 | [],[],[],_,_,_=>⟨rfl,rfl⟩
 | t::ts,v::F,d::J,_,_,h=>by obtain⟨p,q,_,Q,_⟩:=h;obtain⟨a,b⟩:=rT Q;exact⟨by simp[a],by simp[b]⟩
 | [],[],_::_,_,_,h=>h.elim
 | [],_::_,_,_,_,h=>h.elim
 | _::_,[],_,_,_,h=>h.elim
 | _::_,_::_,[],_,_,h=>h.elim
def sy {X:B->Prop}{wl:WL}{C:Checked}{L:uO H C.prog}{f:Xcs}{fn:Func}{s:ChangeSpec}{b:TypeId}(hl:laidOutB C.prog=true)(K:s.vars=[])(M :∀F:I (DataW H),F.length=fn.params.size->s.fn H (F++[])={ results:=[.lit (.bool true)],args:=F })
  (V:fn.resultTypes=#[b]) (hb:C.prog.underlying b=some .bool) (Q:(fn.params.toList.all λt=>C.prog.readableRec t&&decide (t<C.prog.types.size))=true)
  (a1 :∀(W:B),X W->∀(base:Nat) (args:Array A) (F:I (DataW H)) (p:I MemPlace),(∀(j:Nat) t v,fn.params[j]?=some t->args[j]?=some v->Value.okWide C.prog W .any base t v)-> DataW.TrodAll enc C.prog W 0 (λ_=>true) true fn.params.toList args.toList F p->(∀(j:Nat) t d,fn.params.toList[j]?=some t->F[j]?=some d->L.W t d)->∃U,su W args.toList U/\A0 wl C.prog f U [] (.b true) []/\∃gb:Nat->Prop,wl.gf gb W/\∀b,gb b->b<W.heap.size) :
  ∀(W:B),X W->∀(base:Nat) (args:Array A) (F gs:I (DataW H)) (J:I MemPlace),
   (∀(j:Nat) t v,fn.params[j]?=some t->args[j]?=some v->Value.okWide C.prog W .any base t v)->
   DataW.Whole enc C.prog fn.params.toList s.vars false W args.toList F gs J->
   (∀(j:Nat) t d,fn.params.toList[j]?=some t->F[j]?=some d->L.W t d)->
   Calls C.prog f args W λe W'=>∃v,e=.returned v/\s.post enc C.prog fn false true false false W args v W':=by
 intro W hX base args F gs J Y hW a6;have a7:=hW;obtain⟨p,q,hA,hV,rfl,aa,ab⟩:=hW;rw[K] at hV;obtain⟨rfl,rfl⟩:=trodVars_none hV;have hd:F.length=fn.params.size:=by simpa using (rT hA).1
 obtain⟨U,h1,h2,gb,a8⟩:=a1 W hX base args F p Y hA a6;obtain⟨o1,o2⟩:=h1.get;refine (Z7 h2 W a8 args (by simpa using o1) λi hi=>by simpa[<- Array.getElem?_toList] using o2 i hi).mono λe W' ⟨he,Z⟩=>?_;subst he;refine⟨_,rfl,F,[],p++[],[],p,[],a7,?_,?_,?_,Z.frame _,λh=>by cases h⟩
 ·rw[M F hd,V];exact trodAll_mk1 (shut_bool hb _)
 ·rw[M F hd];exact MV hl Z Q hA
 rw[M F hd,K];rfl
end
end Go.AX
end
section
namespace Go.AX
open Go.WideElems
section
variable {H:Type} {enc:TypeId×A->H} {P:Program} {w:B} {sp:Nat->C} {held:C} {t k e:TypeId}
def keyOf_int {kd:IntKind}(J:P.underlying k=some (.int kd)){v:A}{y:Lit}(h:keyOf P k v=some y) :∃n,v=.int kd n/\y=.int kd n:=by
 have F:mapKey P k v=some y:=by unfold keyOf at h;rw[J] at h;exact h
 unfold mapKey at F;rw[J] at F;cases v with
 | int q n=>
  simp only at F;split at F
  ·rename_i K;obtain⟨rfl,_⟩:=K;exact⟨n,rfl,(X24 F).symm⟩
  cases F
 | _=>simp at F
def fM {kd:IntKind}(ht:P.underlying t=some (.map k e))(hk:P.underlying k=some (.int kd)){qb:Nat}{cs:I A}{K:I (Lit×DataW H)}{p:I MemPlace} (h:DataW.trod enc P w 0 sp held qb t cs=some (.map K,p)) (Y:Lit×DataW H->D×D) (hD :∀(n:Int) (v:A) (d:DataW H) (m:Nat) (q:I MemPlace),(Lit.int kd n,d)∈K->DataW.trod enc P w 0 sp held m e v.cells.toList=some (d,q)->v.formed P e=true->Y (.int kd n,d)=(.val (.int kd n),.val v)/\v.oneCell'=true) : ∃b arr J,cs=[.map (some b)]/\w.heap[b]?=some (.map arr J)/\(arr.toList.map λx=>(D.val x.key,D.val x.val)).Perm (K.map Y)/\∀x∈arr.toList,x.key.oneCell'=true/\x.val.oneCell'=true:=by
 rcases open_map ht h with ⟨_,M⟩|⟨b,arr,J,n,_,a1,hb,_,F,M⟩
 ·simp at M
 simp only[X25,DataW.map.injEq] at M;have hp:K.Perm (arr.toList.map (rg P k (elemAt enc P w 0 sp held n e))):=by rw[M.1];exact Go.WideShapes.sorted_perm _
 have U :∀x∈arr.toList,Y (rg P k (elemAt enc P w 0 sp held n e) x)=(D.val x.key,D.val x.val)/\x.key.oneCell'=true/\x.val.oneCell'=true:=by
  intro x M;obtain⟨⟨yl,yd⟩,Q⟩:=F.reads x M;have Z:(yl,yd)∈K:=hp.mem_iff.2 (Xaz.2 ⟨x,M,rg_of Q⟩);rw[rg_of Q];have V:=rd_key Q;obtain⟨m,h1,h2⟩:=keyOf_int hk V;unfold rd at Q;rw[V,Xbx,Xc7] at Q;obtain⟨⟨d,q⟩,hd,Q⟩:=Q;simp only[X25,true_and] at Q;subst Q;unfold elemAt at hd;split at hd
  ·rename_i hf;dsimp only at h2;subst h2;obtain⟨g1,g2⟩:=hD m x.val d n q Z hd hf;rw[h1];exact⟨g1,rfl,g2⟩
  simp at hd
 refine⟨b,arr,J,a1,hb,?_,λx M=>(U x M).2⟩;have e:(arr.toList.map λx=>(D.val x.key,D.val x.val))=(arr.toList.map (rg P k (elemAt enc P w 0 sp held n e))).map Y:=by rw[List.map_map];exact List.map_congr_left λx M=>(U x M).1.symm
 rw[e];exact (hp.symm.map Y)
end
section
variable {H:Type} {enc:TypeId×A->H} {P:Program} {w:B}
open Go.ChangeShapes Go.WideShapes Go.ChangeAt Go.RowKit
end
def V0 {tk:TK}{x:D}{l m:I (D×D)}(hp:l.Perm m)(M :∀p∈l,∃n,p.1=.val (.int .i64 n))(U:l.Pairwise λa b=>a.1≠b.1){q:O D}(h:Bl tk x l=some q):Bl tk x m=some q:=by
 induction hp generalizing q with
 | nil=>exact h
 | cons p hp ih=>
  simp only[Bl] at h⊢;have V:=Xac.1 U;split at h
  ·exact h
  ·exact ih (λp hp=>M p (X18 _ hp)) V.2 h
  cases h
 | swap a b l=>
  obtain⟨i,hi⟩:=M b (by simp);obtain⟨j,hj⟩:=M a (by simp);have Q:b.1≠a.1:=(Xac.1 U).1 a (by simp);simp only[Bl,hi,hj] at h⊢;rw[hi,hj] at Q;have Z:i≠j:=λe=>Q (by rw[e]);cases F:Db tk x (.val (.int .i64 i)) with
  | none=>rw[F] at h;cases h
  | some b1=>
   have K :∃b2,Db tk x (.val (.int .i64 j))=some b2/\(b1=true->b2=false):=by
    unfold Db at F⊢;split at F
    ·rename_i kk a' a8 bb J;cases J;split at F
     ·rename_i a1;rw[Xl a1];refine⟨_,rfl,λY=>?_⟩;obtain rfl:=X24 F;simp only[Xc0] at Y;subst Y;simpa using Z
     cases F
    ·rename_i J;cases J
    ·rename_i J;cases J
    cases F
   obtain⟨b2,K,Y⟩:=K;rw[F,K] at h;rw[K];cases b1
   ·cases b2<;>exact h
   rw[Y rfl];exact h
 | trans V h2 a6 a7=>refine a7 (λp hp=>M p (V.mem_iff.2 hp)) ((V.pairwise_iff λh e=>h e.symm).1 U) (a6 M U h)
def cV {w:B}{arr:I Xbr}(h :∀x∈arr,x.key.oneCell'=true/\x.val.oneCell'=true):qv (λ_ _=>False) w (arr.map λx=>(D.val x.key,D.val x.val)) arr:=by
 refine⟨by simp,λi J=>?_⟩;have F:i<arr.length:=by simpa using J
 refine⟨arr[i],X14 F,⟨arr[i].key,by simp,rfl,(h _ (Wu F)).1⟩,?_⟩;simp only[Xam];exact .val _ (h _ (Wu F)).2
end Go.AX
end
section
namespace Go.AX
def Yt {α σ ρ:Type}{done:σ->O ρ}{body:(σ->O ρ)->α->Nat->σ->O ρ}(P:I α->Nat->σ->Prop)(F:I α->Nat->σ->O ρ) (H :∀i s,P [] i s->done s=F [] i s) (J :∀(next:σ->O ρ) x t i s,P (x::t) i s->(∀s,P t (i+1) s->next s=F t (i+1) s)->body next x i s=F (x::t) i s) : ∀(l:I α) (i:Nat) (s:σ),P l i s->AH done body l i s=F l i s
 | [],i,s,h=>H i s h
 | x::t,i,s,h=>J _ x t i s h λK M=>Yt P F H J t (i+1) K M
def EL {σ ρ:Type}{body:(σ->O ρ)->σ->O ρ}(P:σ->Prop)(J:σ->Nat)(F:σ->O ρ) (K :∀(next:σ->O ρ) s,P s->(∀H,P H->J H<J s->next H=F H)->body next s=F s) : ∀(n:Nat) (s:σ),P s->J s<n->A3 body n s=F s
 | 0,s,_,h=>absurd h (Nat.not_lt_zero _)
 | n+1,s,h,hm=>K _ s h λH M Q=>EL P J F K n H M (by omega)
def Uf {σ ρ:Type}{body:(σ->O ρ)->σ->O ρ}(P:σ->Prop)(H:σ->Nat)(Q:ρ->Prop) (J :∀(next:σ->O ρ) s,P s->(∀F,P F->H F<H s->∃r,next F=some r/\Q r)->∃r,body next s=some r/\Q r) : ∀(n:Nat) (s:σ),P s->H s<n->∃r,A3 body n s=some r/\Q r
 | 0,s,_,h=>absurd h (Nat.not_lt_zero _)
 | n+1,s,h,hm=>J _ s h λF K M=>Uf P H Q J n F K (by omega)
def LX {α:Type}{l:I α}{a b:Nat}(F:a<=b)(H:b<=l.length):part l (a:Int) (b:Int)=some ((l.drop a).take (b-a)):=by unfold part;rw[Xl (by omega)];simp
def JL {τ ρ:Type}(b:Prop)[Decidable b](x y:τ)(K:τ->O ρ):AB (λk=>if b then k x else k y) K=K (if b then x else y):=by unfold AB;split<;>rfl
def T8 (l:I S):(bs l).toList=l:=by rw[Xdc];simp[bs]
def CB {n:Nat}(h:n<18446744073709551616):n<qb:=h
def AI {α:Type}{b:Nat}{l m:I α}(F:Xdl b 65536=true)(h:l.length+m.length<=1000000000):gH b l m=some (l++m):=by
 unfold gH;have F:=X28 F;rw[Xl];refine⟨?_,by omega⟩;calc _<=1000000000*65536:=Nat.mul_le_mul h F
  _<=2^47:=by decide
def BS {α:Type}{l:I α}{i:Nat}(h:i<l.length):iB l (i:Int)=some l[i]:=by unfold iB;rw[Xl (by omega)];simp[h]
def Ji {α:Type}(pre:I α)(x:α)(t:I α):iB (pre++x::t) (pre.length:Int)=some x:=by rw[BS (by simp)];simp
def AM {x:Int}(h:-9223372036854775808<=x/\x<=9223372036854775807):AQ x=x:=PL rfl h
def AA {α F:Type}(a:α)(f:α->O F):(some a).bind f=f a:=Eq.trans rfl rfl
def AC {τ ρ:Type}(m:(τ->O ρ)->O ρ)(k:τ->O ρ):AB m k=m k:=Eq.trans rfl rfl
end Go.AX
end
section
namespace Go.AX
def wk {np:Nat}{s H:pw}(par:((List.range np).all λr=>!(s.ob.getD r none).isSome || (H.ob.getD r none).isSome)=true:=by rfl)
  (tm:ue s H s.tm H.tm:=by
   repeat' (first
    | exact rh.refl _
    | refine And.intro ?_ ?_
    | exact True.intro
    | exact rh.norm _
    | exact rh.fresh _ _ _ rfl rfl
    | exact rh.qY _ _ _ _ _ _ rfl (by first|rfl|(simp only[X6];omega)) (.inl rfl)
    | exact rh.qY _ _ _ _ _ _ rfl (by first|rfl|(simp only[X6];omega)) (.inr rfl)
    | exact rh.uL _ _ _ (by first|rfl|(simp only[X6];omega)|(simp only[wh,X6,X10,X17,X16];omega))
    | exact rh.rO _ _ _ _ _ (by first|rfl|(simp only[X6];omega))
    | exact rh.uN _ _ _ _ _ _ _ _ _ rfl (by first|rfl|(simp only[X6];omega)) fm (.inl rfl)
    | exact rh.uN _ _ _ _ _ _ _ _ _ rfl (by first|rfl|(simp only[X6];omega)) fm (.inr rfl)
    | refine rh.vE ?_
    | refine rh.uz rfl ?_
    | refine rh.vJ rfl ?_
    | refine rh.uG ?_
    | refine rh.box _ _ _ _ rfl rfl rfl (Nat.zero_lt_succ _) ?_
    | exact rfl))
  (ob:te s H s.ob H.ob:=by
   repeat' (first
    | exact rh.refl _
    | refine And.intro ?_ ?_
    | exact rfl
    | exact True.intro
    | refine Exists.intro _ (And.intro rfl ?_)
    | exact .inl ⟨_,rfl,id,True.intro⟩
    | exact .inl ⟨_,rfl,λ_=>rfl,True.intro⟩
    | exact .inl ⟨_,rfl,id,.inr ⟨_,_,rfl,rfl,(by first|rfl|(simp only[X6];omega))⟩⟩
    | exact .inl ⟨_,rfl,id,.inl (X28 rfl)⟩
    | exact .inl ⟨_,rfl,id,.inl (Nat.le_of_eq (by assumption))⟩
    | exact .inr ⟨rfl,rfl,by decide⟩
    | exact .inl rfl
    | exact .inr ⟨_,_,_,rfl⟩
    | exact .inl ⟨_,rfl,(by first|rfl|(simp only[X6];omega))⟩
    | exact rh.norm _
    | exact rh.fresh _ _ _ rfl rfl
    | exact rh.qY _ _ _ _ _ _ rfl (by first|rfl|(simp only[X6];omega)) (.inl rfl)
    | exact rh.qY _ _ _ _ _ _ rfl (by first|rfl|(simp only[X6];omega)) (.inr rfl)
    | exact rh.uL _ _ _ (by first|rfl|(simp only[X6];omega)|(simp only[wh,X6,X10,X17,X16];omega))
    | refine rh.vE ?_
    | refine rh.uz rfl ?_
    | refine rh.vJ rfl ?_
    | refine rh.uG ?_
    | refine rh.box _ _ _ _ rfl rfl rfl (Nat.zero_lt_succ _) ?_))
  (closed:OP H=true:=by rfl):qG np s H:=.mk par tm ob closed
def iL {α:Type}{b:Nat}{r:I α}(h:Xg (gH (α:=α) b [] []) (λv=>some v)=some r):(some []:O (I α))=some r:=by simpa[gH] using h
section
variable {α τ ρ:Type} {r:ρ} {np:Nat} {t:pw} {St:τ->pw} {k':τ->O ρ} {v v':τ} {b:Bool} {X:O ρ} {A:Prop} {F:O α} {k:α->O ρ}
def r6 (h:k' v=some r)(H:qG np t (St v):=by exact wk) :∃s,qG np t s/\∃v,k' v=some r/\s=St v:=E6 H h
def LL (h:(if b=true then X else k' v)=some r)(a:X=some r->A)(H:qG np t (St v):=by exact wk):IR b A (∃s,qG np t s/\∃v,k' v=some r/\s=St v):=Oi a (λh=>E6 H h) h
def bL (h:(if b=true then k' v else X)=some r)(a:X=some r->A)(H:qG np t (St v):=by exact wk):IR b (∃s,qG np t s/\∃v,k' v=some r/\s=St v) A:=Oi (λh=>E6 H h) a h
def vD {H:Type}{P:pw}{J:H->pw}{Q:H->Option ρ}{U:H}(h:(if b=true then k' v else Q U)=some r)(V:qG np t (St v):=by exact wk)(K:qG np P (J U):=by exact wk):IR b (∃s,qG np t s/\∃v,k' v=some r/\s=St v) (∃s,qG np P s/\∃v,Q v=some r/\s=J v):=
 Oi (λh=>E6 V h) (λh=>E6 K h) h
def EQ {B:Prop}{Y:O ρ}(h:(if b=true then X else Y)=some r)(H:X=some r->A)(J:Y=some r->B):IR b A B:=Oi H J h
def rf {X:(pw->Prop)->Prop}{K:pw->Prop}(h:X K):sh np X K:=.go h
def A8 {X:(pw->Prop)->Prop}{K:pw->Prop}{m:(τ->O ρ)->O ρ}{k:τ->O ρ}(h:AB m k=some r)(St:τ->pw) (H :∀k':τ->O ρ,m k'=some r->X (λt=>∃s,qG np t s/\∃v,k' v=some r/\s=St v)) (J :∀v,k v=some r->K (St v)):sh np X K:=W9 St H J h
variable {C:AV->I OB->Prop} {M:AV->I OB->O (I Nat)->Prop} {M2:AV->I OB->Prop} {c:α->AV} {o:α->I OB}
def A7 (h:Xg F k=some r)(j :∀v,F=some v->C (c v) (o v))(n :∀v,k v=some r->M (c v) (o v) (some [])) :∃H gD b,C H gD/\M H gD b:=by obtain⟨v,g,h⟩:=Aa h;exact⟨_,_,_,j v g,n v h⟩
def UV (l:I Nat)(h:Xg F k=some r)(j :∀v,F=some v->C (c v) (o v))(n :∀v,k v=some r->M (c v) (o v) (some l)) :∃H gD b,C H gD/\M H gD b:=by obtain⟨v,g,h⟩:=Aa h;exact⟨_,_,_,j v g,n v h⟩
def Y9 (h:Xg F k=some r)(j :∀v,F=some v->C (c v) (o v))(n :∀v,k v=some r->M (c v) (o v) none) :∃H gD b,C H gD/\M H gD b:=by obtain⟨v,g,h⟩:=Aa h;exact⟨_,_,_,j v g,n v h⟩
def DZ {L:Nat}{N:Prop}(h:Xg F k=some r)(j :∀v,F=some v->C (c v) (o v))(e :∀v,(o v).length=L)(n :∀v,k v=some r->M2 (c v) (o v)) :∃H gD,C H gD/\(gD.length=L\/N)/\M2 H gD:=by obtain⟨v,g,h⟩:=Aa h;exact⟨_,_,j v g,.inl (e v),n v h⟩
def iO {L:I OB->Prop}{ob:I (O OB)}{self:Nat}(h:Xg F k=some r)(j :∀v,F=some v->C (c v) (o v))(e:ob[self]?=some none)(n :∀v,k v=some r->M2 (c v) (o v)) :∃H gD,C H gD/\(L gD\/ob[self]?=some none)/\M2 H gD:=by obtain⟨v,g,h⟩:=Aa h;exact⟨_,_,j v g,.inr e,n v h⟩
variable {l m:I α} {f:α->D} {by' sz:Nat} {i i':Int} {kl:I α->O ρ} {ML:I D->Prop} {MD:D->Prop}
def vS (h:Xg (gH by' l m) kl=some r)(e:A)(n :∀v,kl v=some r->ML (v.map f)):A/\(((l.map f).length+(m.map f).length)*by'<=2^47/\(l.map f).length+(m.map f).length<=2^47)/\∃zs,l.map f++m.map f=zs/\ML zs:=by obtain⟨v,g,h⟩:=Aa h;exact⟨e,eP g,_,lu g,n v h⟩
def uT {N:Prop}(h:Xg (gH by' [] m) kl=some r)(n :∀v,kl v=some r->N):((m.map f).length*by'<=2^47/\(m.map f).length<=2^47)/\N:=by obtain⟨v,g,h⟩:=Aa h;exact⟨kE g,n v h⟩
def I8 (h:Xg (iB l i) k=some r)(e :∀v,(f v).cells.length=sz)(n :∀v,k v=some r->MD (f v)):(0<=i/\i<((l.map f).length:Int))/\∃x,(l.map f).getD i.toNat default=x/\x.cells.length=sz/\MD x:=by obtain⟨v,g,h⟩:=Aa h;exact⟨ND g,_,Kw g,e v,n v h⟩
def pI (h:Xg (part l i i') kl=some r)(n :∀v,kl v=some r->ML (v.map f)):(0<=i/\i<=i'/\i'<=((l.map f).length:Int))/\∃ys,((l.map f).drop i.toNat).take (i'.toNat-i.toNat)=ys/\ML ys:=by obtain⟨v,g,h⟩:=Aa h;exact⟨Ux g,_,PQ g,n v h⟩
def pL (h:Xg (part l i l.length) kl=some r)(n :∀v,kl v=some r->ML (v.map f)) : (0<=i/\i<=((l.map f).length:Int)/\((l.map f).length:Int)<=((l.map f).length:Int))/\∃ys,((l.map f).drop i.toNat).take (((l.map f).length:Int).toNat-i.toNat)=ys/\ML ys:=by obtain⟨v,g,h⟩:=Aa h;exact⟨ZJ g,_,Zc g,n v h⟩
end
def IU {a b:Nat}(h:a=b:=by first|rfl|exact X6 _|(simp only[X6];done)|(simp only[X6];omega)|(simp only[X6,X20];omega)|(simp only[wh,X6,X20,X10,X17,X16,X19];omega)):a=b:=h
def fin {A:Prop}{ρ:Type}{a r:ρ}(h:some a=some r)(k:some a=some r->A:=by intro h;cases h;exact⟨rfl,rfl⟩):A:=k h
end Go.AX
end
section
namespace Go.AX
open Go
end Go.AX
end
