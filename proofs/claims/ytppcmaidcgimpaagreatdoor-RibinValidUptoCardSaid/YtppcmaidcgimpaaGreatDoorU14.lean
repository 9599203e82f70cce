/-
  Texts of one proof, packed.
-/
import Derived.Test.YtppcmaidcgimpaaGreatDoorU10
import Derived.Test.YtppcmaidcgimpaaGreatDoorU13
import Derived.Below
import Derived.Carry
import Derived.ChangeOld
import Derived.LaidHandle
import Derived.LaidMore
import Derived.MakeChecks
import Derived.OpenShut
import Derived.ProofKit
import Derived.WalkKit
import Derived.WideKeyElems2
set_option linter.all false
set_option maxRecDepth 100000
set_option maxHeartbeats 4000000
open List renaming length_map→X10,length_append→X11,getElem?_eq_getElem→X15,length_drop→X17,length_take→X18,mem_cons_of_mem→X19,length_replicate→X20,length_set→X21,mem_append→X23
open Option.some renaming injEq→X24,inj→X25
open Prod.mk renaming injEq→X26
open Bool renaming and_eq_true→X27,eq_iff_iff→X28
open Nat renaming le_of_ble_eq_true→X29
open Option renaming bind→Wb
open List renaming map→Xa1,replicate→Xav,range→Xbv
open Go renaming undef→Xck,MapEntry→Xc9,FuncId→Xdm
open Nat renaming blt→Xcf,ble→Xee
open ByteArray renaming mk→Xc5
open UInt64 renaming ofNat→Xaq
open UInt8 renaming ofNat→Xbb
open Go.WideElems renaming rg→Xd6
open Go.ByteArray renaming toList_eq→Xdl
open Go.WideShapes renaming sorted_perm→Xdo
open Go.IntKind renaming i64→Xdt,signed→Xec
section
namespace Go.AX
def AB {τ ρ:Type}(m:(τ->O ρ)->O ρ)(k:τ->O ρ):O ρ:=m k
def mu {α:Type}(l:I α)(i:Int):O α:=if 0<=i/\i<l.length then l[i.toNat]? else none
def wj {α:Type}(l:I α)(i:Int)(x:α):O (I α):=if 0<=i/\i<l.length then some (l.set i.toNat x) else none
def gN {α:Type}(b:Nat)(l m:I α):O (I α):=if (l.length+m.length)*b<=2^47/\l.length+m.length<=2^47 then some (l++m) else none
def part {α:Type}(l:I α)(a b:Int):O (I α):=if 0<=a/\a<=b/\b<=l.length then some ((l.drop a.toNat).take (b.toNat-a.toNat)) else none
def wQ (p:Prop)[Decidable p]:O Unit:=if p then some () else none
abbrev AO (x:Int):Int:=Xdt.wrap x
def AI {α σ ρ:Type}(done:σ->O ρ)(body:(σ->O ρ)->α->Nat->σ->O ρ):I α->Nat->σ->O ρ
 | [],_,s=>done s
 | x::t,i,s=>body (AI done body t (i+1)) x i s
def BD {σ ρ:Type}(body:(σ->O ρ)->σ->O ρ):Nat->σ->O ρ
 | 0,_=>none
 | n+1,s=>body (BD body n) s
def tE:Nat:=2^64
abbrev D.u8 (x:S):D:=.val (.int .u8 (x.toNat:Int))
abbrev D.fn (n:Nat):D:=.val (.func (.func n) #[] #[])
abbrev D.u16 (x:UInt16):D:=.val (.int .u16 (x.toNat:Int))
abbrev D.u32 (x:UInt32):D:=.val (.int .u32 (x.toNat:Int))
abbrev D.u64 (x:j):D:=.val (.int .u64 (x.toNat:Int))
abbrev D.l {α:Type}(sz:Nat)(f:α->D)(l:I α):D:=.wE sz (l.map f)
def AY {α ρ:Type}{x:O α}{f:α->O ρ}{r:ρ}(h:x.bind f=some r) :∃a,x=some a/\f a=some r:=by
 cases x with
 | none=>cases h
 | some a=>exact⟨a,rfl,h⟩
def Re {b:C}{ρ:Type}{X Y:O ρ}{r:ρ}{A B:Prop}(F:X=some r->A)(H:Y=some r->B):(if b=true then X else Y)=some r->KD b A B:=by
 intro h;cases b
 ·exact H h
 exact F h
def Ea {b:C}{A B:Prop}(F:b=true)(h:A):KD b A B:=by subst F;exact h
def M8 {b:C}{A B:Prop}(F:b=false)(h:B):KD b A B:=by subst F;exact h
def MP {α F:Type}{f:α->F}{l:I α}{i:Int}{v:α}(h:mu l i=some v):0<=i/\i<((l.map f).length:Int):=by
 unfold mu at h;split at h
 ·rename_i H;simpa using H
 cases h
def Kt {α:Type}{f:α->D}{l:I α}{i:Int}{v:α}(h:mu l i=some v):(l.map f).getD i.toNat default=f v:=by
 unfold mu at h;split at h
 ·rename_i F;simp[h]
 cases h
def rC {s:T}{i:Int}{v:S}(h:mu s.toList i=some v):0<=i/\i<(s.size:Int):=by
 have e:s.toList.length=s.size:=by rw[Xdl,Xan];rfl
 unfold mu at h;split at h
 ·rename_i F;rw[e] at F;exact F
 cases h
def o5 {s:T}{i:Int}{v:S}(h:mu s.toList i=some v):s.toList.getD i.toNat 0=v:=by
 unfold mu at h;split at h
 ·simp[h]
 cases h
def bs (l:I S):T:=⟨l.toArray⟩
def mS {α:Type}{f:α->D}{l F:I α}{i:Int}{v:α}(h:wj l i v=some F):(l.map f).set i.toNat (f v)=F.map f:=by
 unfold wj at h;split at h
 ·cases h;rw[List.map_set]
 cases h
def Z9 {α:Type}{l F:I α}{i:Int}{v:α}(h:wj l i v=some F):F.length=l.length:=by
 unfold wj at h;split at h
 ·cases h;simp
 cases h
def rX {α:Type}{b:Nat}{l m F:I α}(h:gN b l m=some F):F=l++m:=by
 unfold gN at h;split at h
 ·cases h;rfl
 cases h
def kN {α:Type}{b:Nat}{l m F:I α}{f g:α->D}(h:gN b l m=some F):((l.map f).length+(m.map g).length)*b<=2^47/\(l.map f).length+(m.map g).length<=2^47:=by
 unfold gN at h;split at h
 ·rename_i H;simpa using H
 cases h
def pQ {α:Type}{b:Nat}{m F:I α}{g:α->D}(h:gN b [] m=some F):(m.map g).length*b<=2^47/\(m.map g).length<=2^47:=by simpa using kN (f:=g) (g:=g) h
def qw {α:Type}{b:Nat}{l m F:I α}{f:α->D}(h:gN b l m=some F):l.map f++m.map f=F.map f:=by rw[rX h,List.map_append]
def Xm {α:Type}{f:α->D}{l F:I α}{a b:Int}(h:part l a b=some F):0<=a/\a<=b/\b<=((l.map f).length:Int):=by
 unfold part at h;split at h
 ·rename_i H;simpa using H
 cases h
def eZ {α:Type}{f:α->D}{l F:I α}{a:Int}(h:part l a l.length=some F):0<=a/\a<=((l.map f).length:Int)/\((l.map f).length:Int)<=((l.map f).length:Int):=by have:=Xm (f:=f) h;simp at this⊢;exact this
def Sj {α:Type}{f:α->D}{l F:I α}{a b:Int}(h:part l a b=some F):((l.map f).drop a.toNat).take (b.toNat-a.toNat)=F.map f:=by
 unfold part at h;split at h
 ·cases h;rw[List.map_take,List.map_drop]
 cases h
def YH {α:Type}{f:α->D}{l F:I α}{a:Int}(h:part l a l.length=some F):((l.map f).drop a.toNat).take (((l.map f).length:Int).toNat-a.toNat)=F.map f:=by have:=Sj (f:=f) h;simpa using this
def rN {n c:Int}{b:Nat}{u:Unit}(h:wQ (0<=n/\n<=c/\c<=1048576)=some u)(F:b<=65536):0<=n/\n<=c/\c<=1048576/\b<=65536:=by
 unfold wQ at h;split at h
 ·rename_i q;exact⟨q.1,q.2.1,q.2.2,F⟩
 cases h
def A7 {K V:Type}[BEq K]:I (K×V)->K->O V
 | [],_=>none
 | p::l,k=>if k==p.1 then some p.2 else A7 l k
def BN {K V:Type}[BEq K]:I (K×V)->K->V->I (K×V)
 | [],k,v=>[(k,v)]
 | p::l,k,v=>if k==p.1 then (k,v)::l else p::BN l k v
def Am {K V:Type}(ek:K->D)(ev:V->D)(l:I (K×V)):I (D×D):=l.map λp=>(ek p.1,ev p.2)
def GT {K V:Type}[BEq K]{tk:TK}{ek:K->D}{ev:V->D}{l:I (K×V)}{k:K}(h :∀a b,EO tk (ek a) (ek b)=some (a==b)):CM tk (ek k) (Am ek ev l)=some ((A7 l k).map ev):=by
 induction l with
 | nil=>rfl
 | cons p l F=>
  simp only[Am,Xbu,CM,h,A7];cases k==p.1
  ·simpa[Am] using F
  simp
def IV {K V:Type}[BEq K]{tk:TK}{ek:K->D}{ev:V->D}{l:I (K×V)}{k:K}{v:V}(h :∀a b,EO tk (ek a) (ek b)=some (a==b)):GE tk (ek k) (ev v) (Am ek ev l)=some (Am ek ev (BN l k v)):=by
 induction l with
 | nil=>rfl
 | cons p l F=>
  simp only[Am,Xbu,GE,h,BN];cases k==p.1
  ·simp only[Am] at F;simp[F]
  simp
def TN {K V:Type}[BEq K]{tk:TK}{ek:K->D}{ev:V->D}{l:I (K×V)}{k:K}{u:Unit}(h :∀a b,EO tk (ek a) (ek b)=some (a==b))(g:wQ ((A7 l k).isNone=true)=some u):CM tk (ek k) (Am ek ev l)=some none:=by
 rw[GT h];unfold wQ at g;split at g
 ·rename_i q;cases hm:A7 l k with
  | none=>rfl
  | some v=>rw[hm] at q;simp at q
 simp at g
def rF {V:Type}{f:V->D}{o:O V}{z:V}{F:D}(H:F=f z):(o.map f).getD F=f (o.getD z):=by cases o<;>simp[H]
def qf {V:Type}{f:V->D}{o:O V}:(o.map f).isSome=o.isSome:=by cases o<;>rfl
def UI {V:Type}{f:V->D}{o:O V}{z v:V}{F:D}(H:F=f z)(g:some (o.getD z)=some v):(o.map f).getD F=f v:=by rw[rF H,X25 g]
def Yg {V:Type}{f:V->D}{o:O V}{b:C}(g:some o.isSome=some b):(o.map f).isSome=b:=by rw[qf,X25 g]
def Je (a b:Int):EO (.int .i64) (D.i a) (D.i b)=some (a==b):=by simp[EO]
def Iq (a b:T):EO .str (D.s a) (D.s b)=some (a==b):=rfl
def mz (a b:S):EO (.int .u8) (D.u8 a) (D.u8 b)=some (a==b):=by simp only[EO,Xeq,X24];rw[X28];simp only[Xbr,Int.natCast_inj];exact UInt8.toNat_inj
def G0 {p:Prop}[Decidable p]{u:Unit}(h:wQ p=some u):p:=by
 unfold wQ at h;split at h
 ·assumption
 cases h
def Zt {τ ρ:Type}{np:Nat}{X:(sI->Prop)->Prop}{K:sI->Prop}{m:(τ->O ρ)->O ρ}{k:τ->O ρ}{r:ρ}(St:τ->sI) (H :∀F:τ->O ρ,m F=some r->X (λt=>∃s,wg np t s/\∃v,F v=some r/\s=St v)) (J :∀v,k v=some r->K (St v)):AB m k=some r->xU np X K:=
 λh=>.cut (λs=>∃v,k v=some r/\s=St v) (H k h) λ_ ⟨v,M,P⟩=>P▸J v M
def lZ {α:Type}{l:I α}{a b:Int}{u:Unit}{f:α->D}(h:wQ (0<=a/\a<=b/\b<=(l.length:Int))=some u):0<=a/\a<=b/\b<=((l.map f).length:Int):=by rw[X10];exact G0 h
def Oc {α:Type}{l:I α}{a:Int}{u:Unit}{f:α->D}(h:wQ (0<=a/\a<=(l.length:Int)/\(l.length:Int)<=(l.length:Int))=some u):0<=a/\a<=((l.map f).length:Int)/\((l.map f).length:Int)<=((l.map f).length:Int):=by rw[X10];exact G0 h
def Xf {α:Type}{l:I α}{a n:Nat}{f:α->D}:((l.map f).drop a).take n=Xa1 f ((l.drop a).take n):=by simp
def bv {α:Type}{l:I α}{a n:Nat}{i:Int}{v:α}(h:mu ((l.drop a).take n) i=some v):0<=i/\i<(n:Int):=by
 unfold mu at h;split at h
 ·rename_i F;have:((l.drop a).take n).length<=n:=List.length_take_le _ _;omega
 simp at h
def dI {α:Type}{l:I α}{a n:Nat}{i:Int}{v:α}{f:α->D}(h:mu ((l.drop a).take n) i=some v):(l.map f).getD (a+i.toNat) default=f v:=by
 unfold mu at h;split at h
 ·rename_i F;rw[List.getElem?_take,Wr (by have:((l.drop a).take n).length<=n:=List.length_take_le _ _;omega),Xeu] at h;simp[Xa6,h]
 simp at h
def li {α:Type}{f:α->D}{l:I α}{a n:Nat}:((l.map f).drop a).take n=((l.drop a).take n).map f:=by simp
def cJ {α:Type}{l v:I α}{a b:Int}{f:α->D}(h:part l a b=some v):0<=a/\a<=b/\b<=b/\b<=((l.map f).length:Int):=by have:=Xm (f:=f) h;exact⟨this.1,this.2.1,Int.le_refl _,this.2.2⟩
def fe {α:Type}{l v:I α}{a:Int}{f:α->D}(h:part l a l.length=some v):0<=a/\a<=((l.map f).length:Int)/\((l.map f).length:Int)<=((l.map f).length:Int)/\((l.map f).length:Int)<=((l.map f).length:Int):=by have:=eZ (f:=f) h;exact⟨this.1,this.2.1,Int.le_refl _,Int.le_refl _⟩
def nq {α:Type}{l v:I α}{a b m:Int}{f:α->D}{u:Unit}(h:part l a b=some v)(J:wQ (b<=m/\m<=(l.length:Int))=some u):0<=a/\a<=b/\b<=m/\m<=((l.map f).length:Int):=by have F:=Xm (f:=f) h;have H:=G0 J;rw[X10];exact⟨F.1,F.2.1,H.1,H.2⟩
def YY {α:Type}{l:I α}{a n:Nat}{z:α}{f:α->D}:(l.map f).take a++Xav n (f z)++(l.map f).drop (a+n)=Xa1 f (l.take a++Xav n z++l.drop (a+n)):=by simp
def Ke {α:Type}(l:I α)(a n:Nat)(s:I α):I α:=l.take a++s.take n++l.drop (a+min s.length n)
def cw (s F:sI):I AV->I D->Prop
 | [],[]=>True
 | a::l,y::H=>(y.isAgg=false/\wN s F a (.d y))/\cw s F l H
 | _,_=>False
def Vo {s H:sI} :∀{F:I AV} {ys:I D},cw s H F ys->ys.length=F.length
 | [],[],_=>rfl
 | _::_,_::_,h=>by simp[Vo h.2]
def Vh {s J:sI} :∀{H:I AV} {ys:I D},cw s J H ys->∀i (F:i<H.length) (hi':i<ys.length),ys[i].isAgg=false/\wN s J H[i] (.d ys[i])
 | [],[],_,i,F,_=>by simp at F
 | _::_,_::_,h,0,_,_=>h.1
 | _::_,_::_,h,i+1,F,hi'=>Vh h.2 i (by simpa using F) (by simpa using hi')
def _root_.Go.AX.wN.box {s K:sI}(r:Nat)(F:I AV)(ys:I D)(sz:Nat)(h:s.ob.getD r none=some (.box F))(P:K.ob.getD r none=none)(w8:sz=F.length)(hp:0<F.length)(H:cw s K F ys):wN s K (.own r 1) (.d (.wE sz [.agg ys])):=
 .Iv r F ys sz h P w8 (Vo H) hp (λi J M=>(Vh H i J M).2) λi J=>(Vh H i (by rw[<- Vo H];exact J) J).1
def aw (s F:sI):I AV->I AV->Prop
 | [],[]=>True
 | a::l,y::H=>wN s F a y/\aw s F l H
 | _,_=>False
def gA:I AV->C
 | []=>true
 | a::l=>a.one&&gA l
def dw (s F:sI):I D->I AV->Prop
 | [],[]=>True
 | a::l,y::H=>wN s F (.d a) y/\dw s F l H
 | _,_=>False
def Sl {s K:sI} :∀{J F:I AV},aw s K J F->J.length=F.length/\∀i (H:i<J.length) (hi':i<F.length),wN s K J[i] F[i]
 | [],[],_=>⟨rfl,λi H=>by simp at H⟩
 | _::_,_::_,h=>⟨by simp[(Sl h.2).1],λi H hi'=>match i,H,hi' with
  | 0,_,_=>h.1
  | i+1,H,hi'=>(Sl h.2).2 i (by simpa using H) (by simpa using hi')⟩
def Xl {s K:sI} :∀{J:I D} {F:I AV},dw s K J F->J.length=F.length/\∀i (H:i<J.length) (hi':i<F.length),wN s K (.d J[i]) F[i]
 | [],[],_=>⟨rfl,λi H=>by simp at H⟩
 | _::_,_::_,h=>⟨by simp[(Xl h.2).1],λi H hi'=>match i,H,hi' with
  | 0,_,_=>h.1
  | i+1,H,hi'=>(Xl h.2).2 i (by simpa using H) (by simpa using hi')⟩
def Ui :∀{F:I AV},gA F=true->∀i (H:i<F.length),F[i].one=true
 | _::_,h,0,_=>by simp only[gA,X27] at h;exact h.1
 | _::_,h,i+1,H=>by simp only[gA,X27] at h;exact Ui h.2 i (by simpa using H)
def _root_.Go.AX.wN.Gr {s J:sI}{H F:I AV}(h:aw s J H F):wN s J (.wx H) (.wx F):=.wx H F (Sl h).1 (Sl h).2
def _root_.Go.AX.wN.GJ {s J:sI}{H F:I AV}(K:gA F=true)(h:aw s J H F):wN s J (.agg H) (.agg F):=.agg H F (Sl h).1 (Sl h).2 (Ui K)
def _root_.Go.AX.wN.Cy {s J:sI}{H:I D}{F:I AV}(K:gA F=true)(h:dw s J H F):wN s J (.d (.agg H)) (.agg F):=.HX H F (Xl h).1 (Xl h).2 (Ui K)
def _root_.Go.AX.wN.CT {s K:sI}{H:I AV}{ys:I D}(h:cw s K H ys):wN s K (.agg H) (.d (.agg ys)):=.Hc H ys (Vo h).symm (λi F J=>(Vh h i F J).2) λi F=>(Vh h i (by rw[<- Vo h];exact F) F).1
def Lu {c:Prop}[Decidable c]{α:Type}{a b r:α}(g:c)(h:(if c then a else b)=r):a=r:=by rwa [Wr g] at h
def LC {c:Prop}[Decidable c]{α:Type}{a b r:α}(g:¬ c)(h:(if c then a else b)=r):b=r:=by rwa [Wm g] at h
def Gn {τ ρ:Type}{np:Nat}{t:sI}{St:τ->sI}{k:τ->O ρ}{r:ρ}{v:τ}(F:wg np t (St v))(h:k v=some r) :∃s,wg np t s/\∃v,k v=some r/\s=St v:=
 ⟨_,F,v,h,rfl⟩
def Bi {np:Nat}{body:(AE->sI->Prop)->sI->Prop}{K:AE->sI->Prop}{st:sI}{α σ ρ:Type}{done:σ->O ρ}{V:(σ->O ρ)->α->Nat->σ->O ρ}{l:I α}{Q:σ}{r:ρ} (F sz:Nat) (enc:α->D) (hs:st.tm.getD F .dead=.d (.wE sz (l.map enc))) (St:Nat->σ->sI) (hw:wg np st (St 0 Q)) (M :∀(s:σ) (U:sI->Prop),done s=some r->body (zX K U) (St l.length s)) (H :∀(next:σ->O ρ) (i:Nat) (x:α) (s:σ) (U:sI->Prop),i<l.length->(l.map enc).getD i default=enc x->Xdt.wrap ((i:Int)+1)=((i+1:Nat):Int)->V next x i s=some r-> (∀t v,wg np t (St (i+1) v)->next v=some r->U t)->body (zX K U) (St i s)):AI done V l 0 Q=some r->xX np body K st:=by
 intro h;refine .mk λhb _=>?_;have hl:l.length<=9223372036854775807:=by simpa using hb F sz _ hs
 refine⟨λs n=>∃(i:Nat) (v:σ),n=l.length-i/\i<=l.length/\AI done V (l.drop i) i v=some r/\s=St i v,⟨St 0 Q,l.length,hw,0,Q,by simp,by simp,by simpa using h,rfl⟩,?_⟩;rintro _ n ⟨i,v,hn,hi,P,rfl⟩;by_cases he:i=l.length
 ·subst he;simp only[List.drop_length,AI] at P;exact M v _ P
 have J:i<l.length:=by omega
 rw[Xbp J] at P;simp only[AI] at P;exact H _ i l[i] v _ J (by simp[J]) (SS (by omega) ⟨by omega,by omega⟩) P
  λt v' Y Z=>⟨_,l.length-(i+1),by omega,Y,i+1,v',rfl,by omega,Z,rfl⟩
def Ny {np:Nat}{body:(AE->sI->Prop)->sI->Prop}{K:AE->sI->Prop}{st:sI}{α σ ρ:Type}{done:σ->O ρ}{V:(σ->O ρ)->α->Nat->σ->O ρ}{l:I α}{Q:σ}{r:ρ} (F e sz:Nat) (fz:FZ) (enc:α->D) (hs:st.ob.getD F none=some (.row e sz (l.map enc) fz)) (St:Nat->σ->sI) (hw:wg np st (St 0 Q)) (M :∀(s:σ) (U:sI->Prop),done s=some r->body (zX K U) (St l.length s)) (H :∀(next:σ->O ρ) (i:Nat) (x:α) (s:σ) (U:sI->Prop),i<l.length->(l.map enc).getD i default=enc x->Xdt.wrap ((i:Int)+1)=((i+1:Nat):Int)->V next x i s=some r-> (∀t v,wg np t (St (i+1) v)->next v=some r->U t)->body (zX K U) (St i s)):AI done V l 0 Q=some r->xX np body K st:=by
 intro h;refine .mk λ_ hb=>?_;have hl:l.length<=9223372036854775807:=by simpa using hb F _ _ _ _ hs
 refine⟨λs n=>∃(i:Nat) (v:σ),n=l.length-i/\i<=l.length/\AI done V (l.drop i) i v=some r/\s=St i v,⟨St 0 Q,l.length,hw,0,Q,by simp,by simp,by simpa using h,rfl⟩,?_⟩;rintro _ n ⟨i,v,hn,hi,P,rfl⟩;by_cases he:i=l.length
 ·subst he;simp only[List.drop_length,AI] at P;exact M v _ P
 have J:i<l.length:=by omega
 rw[Xbp J] at P;simp only[AI] at P;exact H _ i l[i] v _ J (by simp[J]) (SS (by omega) ⟨by omega,by omega⟩) P
  λt v' Y Z=>⟨_,l.length-(i+1),by omega,Y,i+1,v',rfl,by omega,Z,rfl⟩
def IC {α:Type}{l:I α}{i:Nat}(h:i<l.length):decide ((i:Int)<(l.length:Int))=true:=by simpa using h
def Tv {α:Type}{l:I α}:decide ((l.length:Int)<(l.length:Int))=false:=by simp
def D6 {α F:Type}{f:α->F}{l:I α}{i:Nat}(h:i<l.length):0<=(i:Int)/\(i:Int)<((l.map f).length:Int):=⟨by omega,by simpa using h⟩
def F9 {np:Nat}{body:(AE->sI->Prop)->sI->Prop}{K:AE->sI->Prop}{st:sI}{σ ρ:Type}{J:(σ->O ρ)->σ->O ρ}{n:Nat}{H:σ}{r:ρ} (St:σ->sI) (V:wg np st (St H)) (F :∀(next:σ->O ρ) (s:σ) (Q:sI->Prop),J next s=some r->(∀t v,wg np t (St v)->next v=some r->Q t)->body (zX K Q) (St s)):BD J n H=some r->xX np body K st:=by
 intro h;refine .mk λ_ _=>⟨λs n=>∃v,BD J n v=some r/\s=St v,⟨St H,n,V,H,h,rfl⟩,?_⟩;rintro _ m ⟨v,U,rfl⟩;cases m with
 | zero=>cases U
 | succ m=>exact F _ v _ U λt Y M P=>⟨_,m,Nat.lt_succ_self m,M,Y,P,rfl⟩
def Ve (F:I Nat)(acc:I Nat):Nat:=F.foldl (λm j=>m ||| 2^j ||| acc.getD (acc.length-1-j) 0) 0
def mq:I z->I Nat->I Nat
 | [],acc=>acc
 | o::l,acc=>mq l (Ve (CZ o) acc::acc)
def YS (F:Array z)(o:z)(m:Nat):I z->C
 | []=>true
 | q::prev=>(m.testBit prev.length || q.apart F o)&&YS F o m prev
def xy.go (H:Array z):I z->I z->I Nat->C
 | [],_,_=>true
 | o::l,prev,F=>(CZ o).all (λj=>Xcf j prev.length)&&(match o.op with|.select _ _=>false|_=>true)&&YS H o (Ve (CZ o) F) prev &&
   xy.go H l (o::prev) (Ve (CZ o) F::F)
def xy (F:Array z):C:=xy.go F F.toList [] []
def Nc :∀(a b:I z) (acc:I (I Nat)),KF (a++b) acc=KF b (KF a acc)
 | [],_,_=>rfl
 | o::a,b,acc=>Nc a b _
def TB :∀(l:I z) (acc:I (I Nat)),∃p,KF l acc=p++acc/\p.length=l.length
 | [],acc=>⟨[],rfl,rfl⟩
 | o::l,acc=>by obtain⟨p,F,H⟩:=TB l (((CZ o).flatMap λj=>j::acc.getD (acc.length-1-j) [])::acc);exact⟨p++[(CZ o).flatMap λj=>j::acc.getD (acc.length-1-j) []],by rw[KF,F];simp,by simp[H]⟩
def yj (masks:I Nat)(acc:I (I Nat)):Prop:=masks.length=acc.length/\∀k j,(masks.getD k 0).testBit j=true->j∈acc.getD k []
def Vq {masks:I Nat}{acc:I (I Nat)}(h:yj masks acc)(F:I Nat)(j:Nat)(J:(Ve F masks).testBit j=true):j∈F.flatMap λj=>j::acc.getD (acc.length-1-j) []:=by
 have key :∀(F:I Nat) (m:Nat),(F.foldl (λm j=>m ||| 2^j ||| masks.getD (masks.length-1-j) 0) m).testBit j=true->
   m.testBit j=true\/j∈F.flatMap λj=>j::acc.getD (acc.length-1-j) []:=by
  intro F;induction F with
  | nil=>intro m h;exact .inl h
  | cons p F K=>
   intro m H;simp only[Xbh] at H;rcases K _ H with g|g
   ·simp only[Nat.testBit_or,Xcx,Nat.testBit_two_pow,Wd] at g;rcases g with (g|g)|g
    ·exact .inl g
    ·subst g;exact .inr (by simp)
    rw[h.1] at g;have:=h.2 _ _ g;exact .inr (by simp only[Xaw,X23,Xa3];exact .inl (.inr this))
   exact .inr (by simp only[Xaw,X23];exact .inr g)
 rcases key F 0 J with g|g
 ·simp at g
 exact g
def yj.cons {masks:I Nat}{acc:I (I Nat)}(h:yj masks acc)(F:I Nat):yj (Ve F masks::masks) ((F.flatMap λj=>j::acc.getD (acc.length-1-j) [])::acc):=by
 refine⟨by simp[h.1],λk j H=>?_⟩;cases k with
 | zero=>exact Vq h F j H
 | succ k=>exact h.2 k j H
def jr :∀(l:I z) {masks:I Nat} {acc:I (I Nat)},yj masks acc->yj (mq l masks) (KF l acc)
 | [],_,_,h=>h
 | o::l,_,_,h=>jr l (h.cons (CZ o))
def W2 {J:Array z}{o:z}{m:Nat} :∀{F:I z},YS J o m F=true->∀j q,j<F.length->F.reverse[j]?=some q->m.testBit j=true\/q.apart J o=true
 | [],_,j,q,M,_=>by simp at M
 | p::F,h,j,q,M,H=>by
  simp only[YS,X27,Xcx] at h;simp only[List.reverse_cons] at H;by_cases he:j=F.length
  ·subst he;rw[Xap (by simp)] at H;simp at H;subst H;exact h.1
  have K:j<F.length:=by simp at M;omega
  rw[Xai (by simpa using K)] at H;exact W2 h.2 j q K H
def XH {H:Array z} :∀(l F:I z) (masks:I Nat),F.reverse++l=H.toList->yj masks (KF F.reverse [])->xy.go H l F masks=true-> ∀i o,F.length<=i->H[i]?=some o->((CZ o).all (λj=>Xcf j i)&&(match o.op with|.select _ _=>false|_=>true) && (Xbv i).all λj=>(Hz H i).contains j || (match H[j]? with
    | none=>false
    | some q=>q.apart H o))=true
 | [],F,masks,J,_,_,i,o,hi,P=>by
  have:H.toList.length=F.length:=by rw[<- J];simp
  simp only[Xan] at this;have:=(Array.getElem?_eq_some_iff.1 P).1;omega
 | q::l,F,masks,J,Z,h,i,o,hi,P=>by
  simp only[xy.go,X27] at h;obtain⟨⟨⟨h1,h2⟩,h3⟩,h4⟩:=h;by_cases he:i=F.length
  ·subst he;have K:H.toList[F.length]?=some o:=by simpa using P
   rw[<- J,Xap (by simp)] at K;simp at K;subst K;have ha:Hz H F.length=(CZ q).flatMap λj=>j::(KF F.reverse []).getD ((KF F.reverse []).length-1-j) []:=by
    unfold Hz;rw[<- J,Nc,KF];obtain⟨p,hp,a1⟩:=TB l (((CZ q).flatMap λj=>j::(KF F.reverse []).getD ((KF F.reverse []).length-1-j) [])::KF F.reverse []);have hs:H.size-1-F.length=p.length:=by
     have:H.toList.length=F.length+(l.length+1):=by rw[<- J];simp
     simp only[Xan] at this;omega
    rw[hp,hs];simp
   simp only[X27];refine⟨⟨h1,h2⟩,?_⟩;rw[Xa0];intro j Q;have Q:=Xdn.1 Q;have U :∃p,H[j]?=some p/\F.reverse[j]?=some p:=by
    have M:j<F.reverse.length:=by simpa using Q
    refine⟨F.reverse[j],?_,X15 M⟩;have:H.toList[j]?=some F.reverse[j]:=by rw[<- J,Xai M,X15 M]
    simpa using this
   obtain⟨p,V,Y⟩:=U;rw[Xcx];rcases W2 h3 j p Q Y with g|g
   ·left;rw[ha];simpa using Vq Z (CZ q) j g
   right;rw[V];exact g
  refine XH l (q::F) _ (by simpa using J) ?_ h4 i o (by simp;omega) P;rw[List.reverse_cons,Nc];exact Z.cons (CZ q)
def ZM {F:Array z}(h:xy F=true):Gj F=true:=by unfold Gj;rw[Xa0];intro i H;have H:=Xdn.1 H;have:=XH F.toList [] [] (by simp) ⟨rfl,λk j J=>by simp at J⟩ h i F[i] (by simp) (by simp[H]);simp only[H,getElem?_pos];exact this
def xi.xR (M:I Nat)(n i:Nat)(J wr:I Nat):Nat->I (I Nat×I Nat)->C
 | _,[]=>true
 | j,(F,H)::l=>((M.getD (n-1-j) 0).testBit i || ((wr.all λr=>!F.contains r)&&J.all λr=>!H.contains r))&&xi.xR M n i J wr (j+1) l
def xi.go (M:I Nat)(n:Nat):Nat->I (I Nat×I Nat)->C
 | _,[]=>true
 | i,(F,wr)::l=>xi.xR M n i F wr (i+1) l&&xi.go M n (i+1) l
def xi (F:Array z)(H:I (I Nat×I Nat)):C:=xi.go (mq F.toList []) F.size 0 H
def mL {F:Array z}{J:I (I Nat×I Nat)}(h:xi F J=true):Fh F 0 J=true:=by
 have Q:=jr F.toList (masks:=[]) (acc:=[]) ⟨rfl,λk j U=>by simp at U⟩;have c :∀(l:I (I Nat×I Nat)) (i:Nat) (K wr:I Nat) (j:Nat),xi.xR (mq F.toList []) F.size i K wr j l=true->Fh.xR F i K wr j l=true:=by
  intro l;induction l with
  | nil=>intro i K wr j _;rfl
  | cons x l P=>
   intro i K wr j H;obtain⟨V,Y⟩:=x;simp only[xi.xR,X27] at H;simp only[Fh.xR,X27];refine⟨?_,P _ _ _ _ H.2⟩;have M:=H.1;rw[Xcx] at M⊢;rcases M with g|g
   ·exact .inl (by simpa[Hz] using Q.2 _ _ g)
   exact .inr g
 have g :∀(l:I (I Nat×I Nat)) (i:Nat),xi.go (mq F.toList []) F.size i l=true->Fh F i l=true:=by
  intro l;induction l with
  | nil=>intro i _;rfl
  | cons x l P=>intro i H;obtain⟨K,wr⟩:=x;simp only[xi.go,X27] at H;simp only[Fh,X27];exact⟨c _ _ _ _ _ H.1,P _ H.2⟩
 exact g _ _ h
def Ms {F:Array z}{K:Prop}(h:xy F=true)(k:K):Gj F=true/\K:=⟨ZM h,k⟩
def Fi {F:Array z}{K:Prop}(h:(xy F&&Ro F)=true)(k:K):(Gj F=true/\Ro F=true)/\K:=by simp only[X27] at h;exact⟨⟨ZM h.1,h.2⟩,k⟩
def Mu {F:Array z}{e:I (I Nat×I Nat)}{K:Prop}(h:xi F e=true)(k:K):Fh F 0 e=true/\K:=⟨mL h,k⟩
def iP (x:S):Xdt.wrap (x.toNat:Int)=(x.toNat:Int):=by have:=x.toNat_lt;exact SS rfl ⟨by omega,by omega⟩
def cQ (x:UInt16):Xdt.wrap (x.toNat:Int)=(x.toNat:Int):=by have:=x.toNat_lt;exact SS rfl ⟨by omega,by omega⟩
def cK (x:UInt32):Xdt.wrap (x.toNat:Int)=(x.toNat:Int):=by have:=x.toNat_lt;exact SS rfl ⟨by omega,by omega⟩
def A4 (x:Int):S:=Xbb (x%256).toNat
def Zm (x:Int):UInt16:=UInt16.ofNat (x%65536).toNat
def Y3 (x:Int):UInt32:=UInt32.ofNat (x%4294967296).toNat
def AT (x:Int):j:=Xaq (x%18446744073709551616).toNat
def UF (x:Int):IntKind.u8.wrap x=((A4 x).toNat:Int):=by
 have e:(2^IntKind.u8.bits:Int)=256:=by decide
 simp only[IntKind.wrap,Xec,e,A4,Xd8];simp;omega
def kt (x:Int):IntKind.u16.wrap x=((Zm x).toNat:Int):=by
 have e:(2^IntKind.u16.bits:Int)=65536:=by decide
 simp only[IntKind.wrap,Xec,e,Zm,UInt16.toNat_ofNat'];simp;omega
def nI (x:Int):IntKind.u32.wrap x=((Y3 x).toNat:Int):=by
 have e:(2^IntKind.u32.bits:Int)=4294967296:=by decide
 simp only[IntKind.wrap,Xec,e,Y3,UInt32.toNat_ofNat'];simp;omega
def LW (x:Int):IntKind.u64.wrap x=((AT x).toNat:Int):=by
 have e:(2^IntKind.u64.bits:Int)=18446744073709551616:=by decide
 simp only[IntKind.wrap,Xec,e,AT,Xag];simp;omega
def US {n:Int}(h:0<=n/\n<256):((A4 n).toNat:Int)=n:=by simp only[A4,Xd8];simp;omega
def ZP {n:Int}(h:0<=n/\n<65536):((Zm n).toNat:Int)=n:=by simp only[Zm,UInt16.toNat_ofNat'];simp;omega
def Y0 {n:Int}(h:0<=n/\n<4294967296):((Y3 n).toNat:Int)=n:=by simp only[Y3,UInt32.toNat_ofNat'];simp;omega
def KI {n:Int}(h:0<=n/\n<18446744073709551616):((AT n).toNat:Int)=n:=by simp only[AT,Xag];simp;omega
def MK {n m:Nat}(s:Nat)(h:n<m):0<=(n:Int).fdiv (2^s)/\(n:Int).fdiv (2^s)<m:=by
 have e:(2^s:Int)=((2^s:Nat):Int):=by simp
 rw[e,Xcp _ (Xc4 _),<- Int.natCast_ediv];have:=Nat.div_le_self n (2^s);generalize n/2^s=q at *;omega
def kh (x:S)(s:Nat):(x.toNat:Int).fdiv (2^s)=((A4 ((x.toNat:Int).fdiv (2^s))).toNat:Int):=(US (MK s x.toNat_lt)).symm
def ny (x:UInt16)(s:Nat):(x.toNat:Int).fdiv (2^s)=((Zm ((x.toNat:Int).fdiv (2^s))).toNat:Int):=(ZP (MK s x.toNat_lt)).symm
def oi (x:UInt32)(s:Nat):(x.toNat:Int).fdiv (2^s)=((Y3 ((x.toNat:Int).fdiv (2^s))).toNat:Int):=(Y0 (MK s x.toNat_lt)).symm
def eQ (x:j)(s:Nat):(x.toNat:Int).fdiv (2^s)=((AT ((x.toNat:Int).fdiv (2^s))).toNat:Int):=(KI (MK s x.toNat_lt)).symm
end Go.AX
end
section
namespace Go.AX
open Go.RowKit Go.Deep Go.ChangeShapes Go.WideShapes Go.ChangeAt
section
variable {H:Type} {enc:TypeId×A->H} {P:Program} {w:B} {L:Bu H P}
def n4.map' {t:Nat}{α K:Type}{cells:α->I D}{ok:α->Prop}(h:n4 L enc w t cells ok){F:K->I D}{J:K->Prop}(g:α->K)(Q :∀a,ok a->F (g a)=cells a)(U :∀a,ok a->J (g a)):n4 L enc w t F J:=by intro tE V x Y Z;obtain⟨a,M,h2⟩:=h tE V x Y Z;exact⟨g a,U a M,by rw[Q a M];exact h2⟩
def U5 {k:IntKind}{n:Int}(h:(Lit.int k n).wf=true):k.min<=n/\n<=k.max:=by simpa[Lit.wf] using h
def xD {t:Nat}(F:P.underlying t=some (.int .i64)):n4 L enc w t (λn:Int=>[D.i n]) wv:=
 (Ss F).map' id (λ_ _=>rfl) λa h=>by have:=U5 h;simpa[IntKind.min,IntKind.max,Xec,IntKind.bits,wv] using this
def yT {t:Nat}(F:P.underlying t=some (.int .u8)):n4 L enc w t (λn:S=>[D.u8 n]) (λ_=>True):=
 (Ss F).map' A4 (λa h=>by
  have:=U5 h;have:=US (n:=a) (by simp[IntKind.min,IntKind.max,Xec,IntKind.bits] at this;omega)
  simp only[D.u8,this]) λ_ _=>trivial
def yD {t:Nat}(F:P.underlying t=some (.int .u64)):n4 L enc w t (λn:j=>[D.u64 n]) (λ_=>True):=
 (Ss F).map' AT (λa h=>by
  have:=U5 h;have:=KI (n:=a) (by simp[IntKind.min,IntKind.max,Xec,IntKind.bits] at this;omega)
  simp only[D.u64,this]) λ_ _=>trivial
def wK {t:Nat}{K:TypeDesc}(Q:P.underlying t=some K)(U:(match K with|.int _|.bool|.string|.slice _=>true|_=>false)=true){α:Type}{c:α->D}{ok:α->Prop}(h:n4 L enc w t (λa=>[c a]) ok){base:Nat}{v:A}{d:DataW H}{p:I MemPlace} (F:Value.okWide P w .any base t v) (V:DataW.Trod enc P w 0 (λ_=>true) true t v d p) (Y:L.W t d) :∃x,ok x/\gT (zC w) w (λ_=>none) (vi []) (.d (c x)) v:=by
 obtain⟨tE,Z⟩:=V;obtain⟨x,h1,h2⟩:=h tE _ _ Z Y;refine⟨x,h1,.d _ _ (xg.val (?_:xg w [c x] [v]))⟩;have M :∀J,v≠.agg J:=by rintro J rfl;unfold Value.okWide at F;rw[Q] at F;cases K<;>simp at U<;>simp[Cell.okWide,Cell.ok,Q] at F
 have:v.cells.toList=[v]:=by cases v<;>first|rfl|(rename_i J;exact absurd rfl (M J))
 rwa [this] at h2
def xk {t:Nat}{F:Array Field}(K:P.underlying t=some (.struct F)){α:Type}{c:α->I D}{ok:α->Prop}(h:n4 L enc w t c ok){base:Nat}{v:A}{d:DataW H}{p:I MemPlace} (J:Value.okWide P w .any base t v) (M:DataW.Trod enc P w 0 (λ_=>true) true t v d p) (Q:L.W t d) :∃x,ok x/\gT (zC w) w (λ_=>none) (vi []) (.d (.agg (c x))) v:=by unfold Value.okWide at J;rw[K] at J;obtain⟨Y,rfl,_⟩:=J;obtain⟨x,U,V⟩:=jN h M Q;exact⟨x,U,.d _ _ V⟩
inductive ya (w:World):List Value->List AV->Prop
 | nil:ya w [] []
 | cons {v:Value} {x:D} {vs:List Value} {avs:List AV} (h:gT (zC w) w (λ_=>none) (vi []) (.d x) v) (t:ya w vs avs):ya w (v::vs) (.d x::avs)
def ya.get {K:I A}{F:I AV}(h:ya w K F):K.length=F.length/\∀i (J:i<F.length),gT (zC w) w (λ_=>none) (vi []) F[i] (K.getD i Xck)/\iA (vi []) F[i]:=by
 induction h with
 | nil=>exact⟨rfl,λi J=>by simp at J⟩
 | cons h t M=>
  refine⟨by simp[M.1],λi J=>?_⟩;cases i with
  | zero=>exact⟨h,BM _ _⟩
  | succ i=>simpa using M.2 i (by simpa using J)
def O1 (U:laidOutB P=true){W V:B}(Y:Below W.heap.size W V) :∀{ts:I TypeId} {J:I A} {K:I (DataW H)} {M:I MemPlace}, (ts.all λt=>P.readableRec t&&decide (t<P.types.size))=true->DataW.TrodAll enc P W 0 (λ_=>true) true ts J K M->DataW.TrodAll enc P V 0 (λb=>decide (b<W.heap.size)) true ts J K M
 | [],[],[],_,_,h=>h
 | t::ts,v::J,d::K,M,F,h=>by have Q:=h.lt;obtain⟨p,q,Z,h2,rfl⟩:=h;simp only[Xc3,X27,Wd] at F;exact⟨p,q,Below.trod U F.1.1 F.1.2 Z Y λx hx=>Q x (by simp[hx]),O1 U Y F.2 h2,rfl⟩
 | [],[],_::_,_,_,h=>h.elim
 | [],_::_,_,_,_,h=>h.elim
 | _::_,[],_,_,_,h=>h.elim
 | _::_,_::_,[],_,_,h=>h.elim
def xx :∀{ts:I TypeId} {F:I A} {J:I (DataW H)} {K:I MemPlace} {M:Nat->C},DataW.TrodAll enc P w 0 M true ts F J K->J.length=ts.length/\F.length=ts.length
 | [],[],[],_,_,_=>⟨rfl,rfl⟩
 | t::ts,v::F,d::J,_,_,h=>by obtain⟨p,q,_,Q,_⟩:=h;obtain⟨a,b⟩:=xx Q;exact⟨by simp[a],by simp[b]⟩
 | [],[],_::_,_,_,h=>h.elim
 | [],_::_,_,_,_,h=>h.elim
 | _::_,[],_,_,_,h=>h.elim
 | _::_,_::_,[],_,_,h=>h.elim
def wO {X:B->Prop}{wl:WL}{C:Checked}{L:Bu H C.prog}{f:Xdm}{fn:Func}{s:ChangeSpec}{b:TypeId}(hl:laidOutB C.prog=true)(K:s.vars=[])(M :∀F:I (DataW H),F.length=fn.params.size->s.fn H (F++[])={ results:=[.lit (.bool true)],args:=F })
  (V:fn.resultTypes=#[b]) (hb:C.prog.underlying b=some .bool) (Q:(fn.params.toList.all λt=>C.prog.readableRec t&&decide (t<C.prog.types.size))=true)
  (a1 :∀(W:B),X W->∀(base:Nat) (args:Array A) (F:I (DataW H)) (p:I MemPlace),(∀(j:Nat) t v,fn.params[j]?=some t->args[j]?=some v->Value.okWide C.prog W .any base t v)-> DataW.TrodAll enc C.prog W 0 (λ_=>true) true fn.params.toList args.toList F p->(∀(j:Nat) t d,fn.params.toList[j]?=some t->F[j]?=some d->L.W t d)->∃U,ya W args.toList U/\Ao wl C.prog f U [] (.b true) []/\∃gb:Nat->Prop,wl.gf gb W/\∀b,gb b->b<W.heap.size) :
  ∀(W:B),X W->∀(base:Nat) (args:Array A) (F gs:I (DataW H)) (J:I MemPlace),
   (∀(j:Nat) t v,fn.params[j]?=some t->args[j]?=some v->Value.okWide C.prog W .any base t v)->
   DataW.Whole enc C.prog fn.params.toList s.vars false W args.toList F gs J->
   (∀(j:Nat) t d,fn.params.toList[j]?=some t->F[j]?=some d->L.W t d)->
   Calls C.prog f args W λe W'=>∃v,e=.returned v/\s.post enc C.prog fn false true false false W args v W':=by
 intro W hX base args F gs J Y hW a6;have a7:=hW;obtain⟨p,q,hA,hV,rfl,aa,ab⟩:=hW;rw[K] at hV;obtain⟨rfl,rfl⟩:=trodVars_none hV;have hd:F.length=fn.params.size:=by simpa using (xx hA).1
 obtain⟨U,h1,h2,gb,a8⟩:=a1 W hX base args F p Y hA a6;obtain⟨o1,o2⟩:=h1.get;refine (gG h2 W a8 args (by simpa using o1) λi hi=>by simpa[<- Array.getElem?_toList] using o2 i hi).mono λe W' ⟨he,Z⟩=>?_;subst he;refine⟨_,rfl,F,[],p++[],[],p,[],a7,?_,?_,?_,Z.frame _,λh=>by cases h⟩
 ·rw[M F hd,V];exact trodAll_mk1 (shut_bool hb _)
 ·rw[M F hd];exact O1 hl Z Q hA
 rw[M F hd,K];rfl
end
end Go.AX
end
section
namespace Go.AX
open Go.WideElems
section
variable {H:Type} {enc:TypeId×A->H} {P:Program} {w:B} {sp:Nat->C} {held:C} {t k e:TypeId}
def keyOf_int {kd:IntKind}(J:P.underlying k=some (.int kd)){v:A}{y:Lit}(h:keyOf P k v=some y) :∃n,v=.int kd n/\y=.int kd n:=by
 have F:mapKey P k v=some y:=by unfold keyOf at h;rw[J] at h;exact h
 unfold mapKey at F;rw[J] at F;cases v with
 | int q n=>
  simp only at F;split at F
  ·rename_i K;obtain⟨rfl,_⟩:=K;exact⟨n,rfl,(X25 F).symm⟩
  cases F
 | _=>simp at F
def lJ {kd:IntKind}(ht:P.underlying t=some (.map k e))(hk:P.underlying k=some (.int kd)){tE:Nat}{cs:I A}{K:I (Lit×DataW H)}{p:I MemPlace} (h:DataW.trod enc P w 0 sp held tE t cs=some (.map K,p)) (Y:Lit×DataW H->D×D) (hD :∀(n:Int) (v:A) (d:DataW H) (m:Nat) (q:I MemPlace),(Lit.int kd n,d)∈K->DataW.trod enc P w 0 sp held m e v.cells.toList=some (d,q)->v.formed P e=true->Y (.int kd n,d)=(.val (.int kd n),.val v)/\v.oneCell'=true) : ∃b arr J,cs=[.map (some b)]/\w.heap[b]?=some (.map arr J)/\(arr.toList.map λx=>(D.val x.key,D.val x.val)).Perm (K.map Y)/\∀x∈arr.toList,x.key.oneCell'=true/\x.val.oneCell'=true:=by
 rcases open_map ht h with ⟨_,M⟩|⟨b,arr,J,n,_,a1,hb,_,F,M⟩
 ·simp at M
 simp only[X26,DataW.map.injEq] at M;have hp:K.Perm (arr.toList.map (Xd6 P k (elemAt enc P w 0 sp held n e))):=by rw[M.1];exact Xdo _
 have U :∀x∈arr.toList,Y (Xd6 P k (elemAt enc P w 0 sp held n e) x)=(D.val x.key,D.val x.val)/\x.key.oneCell'=true/\x.val.oneCell'=true:=by
  intro x M;obtain⟨⟨yl,yd⟩,Q⟩:=F.reads x M;have Z:(yl,yd)∈K:=hp.mem_iff.2 (Xaf.2 ⟨x,M,rg_of Q⟩);rw[rg_of Q];have V:=rd_key Q;obtain⟨m,h1,h2⟩:=keyOf_int hk V;unfold rd at Q;rw[V,Xdv,Xcu] at Q;obtain⟨⟨d,q⟩,hd,Q⟩:=Q;simp only[X26,true_and] at Q;subst Q;unfold elemAt at hd;split at hd
  ·rename_i hf;dsimp only at h2;subst h2;obtain⟨g1,g2⟩:=hD m x.val d n q Z hd hf;rw[h1];exact⟨g1,rfl,g2⟩
  simp at hd
 refine⟨b,arr,J,a1,hb,?_,λx M=>(U x M).2⟩;have e:(arr.toList.map λx=>(D.val x.key,D.val x.val))=(arr.toList.map (Xd6 P k (elemAt enc P w 0 sp held n e))).map Y:=by rw[List.map_map];exact List.map_congr_left λx M=>(U x M).1.symm
 rw[e];exact (hp.symm.map Y)
end
section
variable {H:Type} {enc:TypeId×A->H} {P:Program} {w:B}
open Go.ChangeShapes Go.WideShapes Go.ChangeAt Go.RowKit
end
def Yz {tk:TK}{x:D}{l m:I (D×D)}(hp:l.Perm m)(M :∀p∈l,∃n,p.1=.val (.int .i64 n))(U:l.Pairwise λa b=>a.1≠b.1){q:O D}(h:CM tk x l=some q):CM tk x m=some q:=by
 induction hp generalizing q with
 | nil=>exact h
 | cons p hp ih=>
  simp only[CM] at h⊢;have V:=Xb4.1 U;split at h
  ·exact h
  ·exact ih (λp hp=>M p (X19 _ hp)) V.2 h
  cases h
 | swap a b l=>
  obtain⟨i,hi⟩:=M b (by simp);obtain⟨j,hj⟩:=M a (by simp);have Q:b.1≠a.1:=(Xb4.1 U).1 a (by simp);simp only[CM,hi,hj] at h⊢;rw[hi,hj] at Q;have Z:i≠j:=λe=>Q (by rw[e]);cases F:EO tk x (.val (.int .i64 i)) with
  | none=>rw[F] at h;cases h
  | some b1=>
   have K :∃b2,EO tk x (.val (.int .i64 j))=some b2/\(b1=true->b2=false):=by
    unfold EO at F⊢;split at F
    ·rename_i kk a' a8 bb J;cases J;split at F
     ·rename_i a1;rw[Wr a1];refine⟨_,rfl,λY=>?_⟩;obtain rfl:=X25 F;simp only[Xbr] at Y;subst Y;simpa using Z
     cases F
    ·rename_i J;cases J
    ·rename_i J;cases J
    cases F
   obtain⟨b2,K,Y⟩:=K;rw[F,K] at h;rw[K];cases b1
   ·cases b2<;>exact h
   rw[Y rfl];exact h
 | trans V h2 a6 a7=>refine a7 (λp hp=>M p (V.mem_iff.2 hp)) ((V.pairwise_iff λh e=>h e.symm).1 U) (a6 M U h)
def jI {w:B}{arr:I Xc9}(h :∀x∈arr,x.key.oneCell'=true/\x.val.oneCell'=true):vU (λ_ _=>False) w (arr.map λx=>(D.val x.key,D.val x.val)) arr:=by
 refine⟨by simp,λi J=>?_⟩;have F:i<arr.length:=by simpa using J
 refine⟨arr[i],X15 F,⟨arr[i].key,by simp,rfl,(h _ (Xae F)).1⟩,?_⟩;simp only[Xb2];exact .val _ (h _ (Xae F)).2
end Go.AX
end
section
namespace Go.AX
def Xh {α σ ρ:Type}{done:σ->O ρ}{body:(σ->O ρ)->α->Nat->σ->O ρ}(P:I α->Nat->σ->Prop)(F:I α->Nat->σ->O ρ) (H :∀i s,P [] i s->done s=F [] i s) (J :∀(next:σ->O ρ) x t i s,P (x::t) i s->(∀s,P t (i+1) s->next s=F t (i+1) s)->body next x i s=F (x::t) i s) : ∀(l:I α) (i:Nat) (s:σ),P l i s->AI done body l i s=F l i s
 | [],i,s,h=>H i s h
 | x::t,i,s,h=>J _ x t i s h λK M=>Xh P F H J t (i+1) K M
def Dq {σ ρ:Type}{body:(σ->O ρ)->σ->O ρ}(P:σ->Prop)(J:σ->Nat)(F:σ->O ρ) (K :∀(next:σ->O ρ) s,P s->(∀H,P H->J H<J s->next H=F H)->body next s=F s) : ∀(n:Nat) (s:σ),P s->J s<n->BD body n s=F s
 | 0,s,_,h=>absurd h (Nat.not_lt_zero _)
 | n+1,s,h,hm=>K _ s h λH M Q=>Dq P J F K n H M (by omega)
def XN {σ ρ:Type}{body:(σ->O ρ)->σ->O ρ}(P:σ->Prop)(H:σ->Nat)(Q:ρ->Prop) (J :∀(next:σ->O ρ) s,P s->(∀F,P F->H F<H s->∃r,next F=some r/\Q r)->∃r,body next s=some r/\Q r) : ∀(n:Nat) (s:σ),P s->H s<n->∃r,BD body n s=some r/\Q r
 | 0,s,_,h=>absurd h (Nat.not_lt_zero _)
 | n+1,s,h,hm=>J _ s h λF K M=>XN P H Q J n F K (by omega)
def Ls {α:Type}{l:I α}{a b:Nat}(F:a<=b)(H:b<=l.length):part l (a:Int) (b:Int)=some ((l.drop a).take (b-a)):=by unfold part;rw[Wr (by omega)];simp
def Jm {τ ρ:Type}(b:Prop)[Decidable b](x y:τ)(K:τ->O ρ):AB (λk=>if b then k x else k y) K=K (if b then x else y):=by unfold AB;split<;>rfl
def SQ (a:Array S):(Xc5 a).toList=a.toList:=Xdl _
def BW {n:Nat}(h:n<18446744073709551616):n<tE:=h
def AD {α:Type}{b:Nat}{l m:I α}(F:Xee b 65536=true)(h:l.length+m.length<=1000000000):gN b l m=some (l++m):=by
 unfold gN;have F:=X29 F;rw[Wr];refine⟨?_,by omega⟩;calc _<=1000000000*65536:=Nat.mul_le_mul h F
  _<=2^47:=by decide
def BY {α:Type}{l:I α}{i:Nat}(h:i<l.length):mu l (i:Int)=some l[i]:=by unfold mu;rw[Wr (by omega)];simp[h]
def JY {α:Type}(pre:I α)(x:α)(t:I α):mu (pre++x::t) (pre.length:Int)=some x:=by rw[BY (by simp)];simp
def AG {x:Int}(h:-9223372036854775808<=x/\x<=9223372036854775807):AO x=x:=SS rfl h
def AA {α F:Type}(a:α)(f:α->O F):(some a).bind f=f a:=Xev rfl rfl
def AC {τ ρ:Type}(m:(τ->O ρ)->O ρ)(k:τ->O ρ):AB m k=m k:=Xev rfl rfl
end Go.AX
end
section
namespace Go.AX
def wk {np:Nat}{s H:sI}(par:((List.range np).all λr=>!(s.ob.getD r none).isSome || (H.ob.getD r none).isSome)=true:=by rfl)
  (tm:C1 s H s.tm H.tm:=by
   repeat' (first
    | exact wN.refl _
    | refine And.intro ?_ ?_
    | exact True.intro
    | exact wN.norm _
    | exact wN.fresh _ _ _ rfl rfl
    | exact wN.wE _ _ _ _ _ _ rfl (by first|rfl|(simp only[X10];omega)) (.inl rfl)
    | exact wN.wE _ _ _ _ _ _ rfl (by first|rfl|(simp only[X10];omega)) (.inr rfl)
    | exact wN.Dr _ _ _ (by first|rfl|(simp only[X10];omega)|(simp only[Ke,X10,X11,X18,X17];omega))
    | exact wN.xn _ _ _ _ _ (by first|rfl|(simp only[X10];omega))
    | exact wN.DB _ _ _ _ _ _ _ _ _ rfl (by first|rfl|(simp only[X10];omega)) li (.inl rfl)
    | exact wN.DB _ _ _ _ _ _ _ _ _ rfl (by first|rfl|(simp only[X10];omega)) li (.inr rfl)
    | refine wN.Gr ?_
    | refine wN.Cy rfl ?_
    | refine wN.GJ rfl ?_
    | refine wN.CT ?_
    | refine wN.box _ _ _ _ rfl rfl rfl (Nat.zero_lt_succ _) ?_
    | exact rfl))
  (ob:zg s H s.ob H.ob:=by
   repeat' (first
    | exact wN.refl _
    | refine And.intro ?_ ?_
    | exact rfl
    | exact True.intro
    | refine Exists.intro _ (And.intro rfl ?_)
    | exact .inl ⟨_,rfl,id,True.intro⟩
    | exact .inl ⟨_,rfl,λ_=>rfl,True.intro⟩
    | exact .inl ⟨_,rfl,id,.inr ⟨_,_,rfl,rfl,(by first|rfl|(simp only[X10];omega))⟩⟩
    | exact .inl ⟨_,rfl,id,.inl (X29 rfl)⟩
    | exact .inl ⟨_,rfl,id,.inl (Nat.le_of_eq (by assumption))⟩
    | exact .inr ⟨rfl,rfl,by decide⟩
    | exact .inl rfl
    | exact .inr ⟨_,_,_,rfl⟩
    | exact .inl ⟨_,rfl,(by first|rfl|(simp only[X10];omega))⟩
    | exact wN.norm _
    | exact wN.fresh _ _ _ rfl rfl
    | exact wN.wE _ _ _ _ _ _ rfl (by first|rfl|(simp only[X10];omega)) (.inl rfl)
    | exact wN.wE _ _ _ _ _ _ rfl (by first|rfl|(simp only[X10];omega)) (.inr rfl)
    | exact wN.Dr _ _ _ (by first|rfl|(simp only[X10];omega)|(simp only[Ke,X10,X11,X18,X17];omega))
    | refine wN.Gr ?_
    | refine wN.Cy rfl ?_
    | refine wN.GJ rfl ?_
    | refine wN.CT ?_
    | refine wN.box _ _ _ _ rfl rfl rfl (Nat.zero_lt_succ _) ?_))
  (closed:Qx H=true:=by rfl):wg np s H:=.mk par tm ob closed
def aL {α:Type}{b:Nat}{r:I α}(h:Wb (gN (α:=α) b [] []) (λv=>some v)=some r):(some []:O (I α))=some r:=by simpa[gN] using h
section
variable {α τ ρ:Type} {r:ρ} {np:Nat} {t:sI} {St:τ->sI} {k':τ->O ρ} {v v':τ} {b:Bool} {X:O ρ} {A:Prop} {F:O α} {k:α->O ρ}
def vu (h:k' v=some r)(H:wg np t (St v):=by exact wk) :∃s,wg np t s/\∃v,k' v=some r/\s=St v:=Gn H h
def G9 (h:(if b=true then X else k' v)=some r)(a:X=some r->A)(H:wg np t (St v):=by exact wk):KD b A (∃s,wg np t s/\∃v,k' v=some r/\s=St v):=Re a (λh=>Gn H h) h
def Jx (h:(if b=true then k' v else X)=some r)(a:X=some r->A)(H:wg np t (St v):=by exact wk):KD b (∃s,wg np t s/\∃v,k' v=some r/\s=St v) A:=Re (λh=>Gn H h) a h
def zZ {H:Type}{P:sI}{J:H->sI}{Q:H->Option ρ}{v2:H}(h:(if b=true then k' v else Q v2)=some r)(U:wg np t (St v):=by exact wk)(K:wg np P (J v2):=by exact wk):KD b (∃s,wg np t s/\∃v,k' v=some r/\s=St v) (∃s,wg np P s/\∃v,Q v=some r/\s=J v):=
 Re (λh=>Gn U h) (λh=>Gn K h) h
def CN {B:Prop}{Y:O ρ}(h:(if b=true then X else Y)=some r)(H:X=some r->A)(J:Y=some r->B):KD b A B:=Re H J h
def vX {X:(sI->Prop)->Prop}{K:sI->Prop}(h:X K):xU np X K:=.go h
def Ap {X:(sI->Prop)->Prop}{K:sI->Prop}{m:(τ->O ρ)->O ρ}{k:τ->O ρ}(h:AB m k=some r)(St:τ->sI) (H :∀k':τ->O ρ,m k'=some r->X (λt=>∃s,wg np t s/\∃v,k' v=some r/\s=St v)) (J :∀v,k v=some r->K (St v)):xU np X K:=Zt St H J h
variable {C:AV->I OB->Prop} {M:AV->I OB->O (I Nat)->Prop} {M2:AV->I OB->Prop} {c:α->AV} {o:α->I OB}
def Ah (h:Wb F k=some r)(j :∀v,F=some v->C (c v) (o v))(n :∀v,k v=some r->M (c v) (o v) (some [])) :∃H gL b,C H gL/\M H gL b:=by obtain⟨v,g,h⟩:=AY h;exact⟨_,_,_,j v g,n v h⟩
def NC (l:I Nat)(h:Wb F k=some r)(j :∀v,F=some v->C (c v) (o v))(n :∀v,k v=some r->M (c v) (o v) (some l)) :∃H gL b,C H gL/\M H gL b:=by obtain⟨v,g,h⟩:=AY h;exact⟨_,_,_,j v g,n v h⟩
def ZE (h:Wb F k=some r)(j :∀v,F=some v->C (c v) (o v))(n :∀v,k v=some r->M (c v) (o v) none) :∃H gL b,C H gL/\M H gL b:=by obtain⟨v,g,h⟩:=AY h;exact⟨_,_,_,j v g,n v h⟩
def Db {L:Nat}{N:Prop}(h:Wb F k=some r)(j :∀v,F=some v->C (c v) (o v))(e :∀v,(o v).length=L)(n :∀v,k v=some r->M2 (c v) (o v)) :∃H gL,C H gL/\(gL.length=L\/N)/\M2 H gL:=by obtain⟨v,g,h⟩:=AY h;exact⟨_,_,j v g,.inl (e v),n v h⟩
def m7 {L:I OB->Prop}{ob:I (O OB)}{self:Nat}(h:Wb F k=some r)(j :∀v,F=some v->C (c v) (o v))(e:ob[self]?=some none)(n :∀v,k v=some r->M2 (c v) (o v)) :∃H gL,C H gL/\(L gL\/ob[self]?=some none)/\M2 H gL:=by obtain⟨v,g,h⟩:=AY h;exact⟨_,_,j v g,.inr e,n v h⟩
variable {l m:I α} {f:α->D} {by' sz:Nat} {i i':Int} {kl:I α->O ρ} {ML:I D->Prop} {MD:D->Prop}
def Ev (h:Wb (gN by' l m) kl=some r)(e:A)(n :∀v,kl v=some r->ML (v.map f)):A/\(((l.map f).length+(m.map f).length)*by'<=2^47/\(l.map f).length+(m.map f).length<=2^47)/\∃zs,l.map f++m.map f=zs/\ML zs:=by obtain⟨v,g,h⟩:=AY h;exact⟨e,kN g,_,qw g,n v h⟩
def El {N:Prop}(h:Wb (gN by' [] m) kl=some r)(n :∀v,kl v=some r->N):((m.map f).length*by'<=2^47/\(m.map f).length<=2^47)/\N:=by obtain⟨v,g,h⟩:=AY h;exact⟨pQ g,n v h⟩
def QD (h:Wb (mu l i) k=some r)(e :∀v,(f v).cells.length=sz)(n :∀v,k v=some r->MD (f v)):(0<=i/\i<((l.map f).length:Int))/\∃x,(l.map f).getD i.toNat default=x/\x.cells.length=sz/\MD x:=by obtain⟨v,g,h⟩:=AY h;exact⟨MP g,_,Kt g,e v,n v h⟩
def uh (h:Wb (part l i i') kl=some r)(n :∀v,kl v=some r->ML (v.map f)):(0<=i/\i<=i'/\i'<=((l.map f).length:Int))/\∃ys,((l.map f).drop i.toNat).take (i'.toNat-i.toNat)=ys/\ML ys:=by obtain⟨v,g,h⟩:=AY h;exact⟨Xm g,_,Sj g,n v h⟩
def ul (h:Wb (part l i l.length) kl=some r)(n :∀v,kl v=some r->ML (v.map f)) : (0<=i/\i<=((l.map f).length:Int)/\((l.map f).length:Int)<=((l.map f).length:Int))/\∃ys,((l.map f).drop i.toNat).take (((l.map f).length:Int).toNat-i.toNat)=ys/\ML ys:=by obtain⟨v,g,h⟩:=AY h;exact⟨eZ g,_,YH g,n v h⟩
end
def JZ {a b:Nat}(h:a=b:=by first|rfl|exact X10 _|(simp only[X10];done)|(simp only[X10];omega)|(simp only[X10,X21];omega)|(simp only[Ke,X10,X21,X11,X18,X17,X20];omega)):a=b:=h
def fin {A:Prop}{ρ:Type}{a r:ρ}(h:some a=some r)(k:some a=some r->A:=by intro h;cases h;exact⟨rfl,rfl⟩):A:=k h
end Go.AX
end
section
namespace Go.AX
open Go
end Go.AX
end
