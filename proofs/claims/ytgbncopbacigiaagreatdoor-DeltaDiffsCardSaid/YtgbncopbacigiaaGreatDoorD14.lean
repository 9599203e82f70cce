/-
  Texts of one proof, packed.
-/
import Derived.Test.YtgbncopbacigiaaGreatDoorD10
import Derived.Test.YtgbncopbacigiaaGreatDoorD13
import Derived.Below
import Derived.Carry
import Derived.ChangeOld
import Derived.LaidHandle
import Derived.LaidMore
import Derived.MakeChecks
import Derived.OpenShut
import Derived.ProofKit
import Derived.WalkKit
import Derived.WideKeyElems2
set_option linter.all false
set_option maxRecDepth 100000
set_option maxHeartbeats 4000000
open List renaming length_map→X10,length_append→X11,getElem?_eq_getElem→X15,getElem?_eq_some_iff→X16,length_drop→X17,length_take→X18,mem_cons_of_mem→X19,length_replicate→X20,length_set→X21,mem_append→X23
open Option.some renaming injEq→X24,inj→X25
open Prod.mk renaming injEq→X26
open Bool renaming and_eq_true→X27,eq_iff_iff→X28
open Nat renaming le_of_ble_eq_true→X29
open Option renaming bind→Xd
open List renaming map→Wr,range→Xb4,replicate→Xb6
open Go renaming reachBytes→Xak,MapEntry→Xbn,undef→Xc3,Program→Xcz,FuncId→Xcx
open Nat renaming blt→Xbr,ble→Xdi
open UInt64 renaming ofNat→Xae
open UInt8 renaming ofNat→Xcv
open Go.ByteArray renaming toList_eq→Xd8
open Go.IntKind renaming i64→Xdc
section
namespace Go.AX
def AC {τ ρ:Type}(m:(τ->C ρ)->C ρ)(k:τ->C ρ):C ρ:=m k
def iX {α:Type}(l:O α)(i:Int):C α:=if 0<=i/\i<l.length then l[i.toNat]? else none
def sx {α:Type}(l:O α)(i:Int)(x:α):C (O α):=if 0<=i/\i<l.length then some (l.set i.toNat x) else none
def gE {α:Type}(b:Nat)(l m:O α):C (O α):=if (l.length+m.length)*b<=2^47/\l.length+m.length<=2^47 then some (l++m) else none
def part {α:Type}(l:O α)(a b:Int):C (O α):=if 0<=a/\a<=b/\b<=l.length then some ((l.drop a.toNat).take (b.toNat-a.toNat)) else none
def sR (p:Prop)[Decidable p]:C Unit:=if p then some () else none
abbrev AQ (x:Int):Int:=Xdc.wrap x
def AI {α σ ρ:Type}(done:σ->C ρ)(body:(σ->C ρ)->α->Nat->σ->C ρ):O α->Nat->σ->C ρ
 | [],_,s=>done s
 | x::t,i,s=>body (AI done body t (i+1)) x i s
def Ai {σ ρ:Type}(body:(σ->C ρ)->σ->C ρ):Nat->σ->C ρ
 | 0,_=>none
 | n+1,s=>body (Ai body n) s
def rp:Nat:=2^64
abbrev D.u8 (x:S):D:=.val (.int .u8 (x.toNat:Int))
abbrev D.fn (n:Nat):D:=.val (.func (.func n) #[] #[])
abbrev D.u16 (x:UInt16):D:=.val (.int .u16 (x.toNat:Int))
abbrev D.u32 (x:UInt32):D:=.val (.int .u32 (x.toNat:Int))
abbrev D.u64 (x:j):D:=.val (.int .u64 (x.toNat:Int))
abbrev D.l {α:Type}(sz:Nat)(f:α->D)(l:O α):D:=.su sz (l.map f)
def Aa {α ρ:Type}{x:C α}{f:α->C ρ}{r:ρ}(h:x.bind f=some r) :∃a,x=some a/\f a=some r:=by
 cases x with
 | none=>cases h
 | some a=>exact⟨a,rfl,h⟩
def NQ {b:I}{ρ:Type}{X Y:C ρ}{r:ρ}{A B:Prop}(F:X=some r->A)(H:Y=some r->B):(if b=true then X else Y)=some r->Hv b A B:=by
 intro h;cases b
 ·exact H h
 exact F h
def GH {b:I}{A B:Prop}(F:b=true)(h:A):Hv b A B:=by subst F;exact h
def VX {b:I}{A B:Prop}(F:b=false)(h:B):Hv b A B:=by subst F;exact h
def I5 {α F:Type}{f:α->F}{l:O α}{i:Int}{v:α}(h:iX l i=some v):0<=i/\i<((l.map f).length:Int):=by
 unfold iX at h;split at h
 ·rename_i H;simpa using H
 cases h
def Nk {α:Type}{f:α->D}{l:O α}{i:Int}{v:α}(h:iX l i=some v):(l.map f).getD i.toNat default=f v:=by
 unfold iX at h;split at h
 ·rename_i F;simp[h]
 cases h
def PE {α:Type}{f:α->AV}{l:O α}{i:Int}{v:α}(h:iX l i=some v):(l.map f)[0+i.toNat]?=some (f v):=by
 unfold iX at h;split at h
 ·simp[h]
 cases h
def mR {s:T}{i:Int}{v:S}(h:iX s.toList i=some v):0<=i/\i<(s.size:Int):=by
 have e:s.toList.length=s.size:=by rw[Xd8,Xal];rfl
 unfold iX at h;split at h
 ·rename_i F;rw[e] at F;exact F
 cases h
def jm {s:T}{i:Int}{v:S}(h:iX s.toList i=some v):s.toList.getD i.toNat 0=v:=by
 unfold iX at h;split at h
 ·simp[h]
 cases h
def bs (l:O S):T:=⟨l.toArray⟩
def mf {α:Type}{f:α->D}{l F:O α}{i:Int}{v:α}(h:sx l i v=some F):(l.map f).set i.toNat (f v)=F.map f:=by
 unfold sx at h;split at h
 ·cases h;rw[List.map_set]
 cases h
def gC {α:Type}{l F:O α}{i:Int}{v:α}(h:sx l i v=some F):F.length=l.length:=by
 unfold sx at h;split at h
 ·cases h;simp
 cases h
def mw {α:Type}{b:Nat}{l m F:O α}(h:gE b l m=some F):F=l++m:=by
 unfold gE at h;split at h
 ·cases h;rfl
 cases h
def dT {α:Type}{b:Nat}{l m F:O α}{f g:α->D}(h:gE b l m=some F):((l.map f).length+(m.map g).length)*b<=2^47/\(l.map f).length+(m.map g).length<=2^47:=by
 unfold gE at h;split at h
 ·rename_i H;simpa using H
 cases h
def kG {α:Type}{b:Nat}{m F:O α}{g:α->D}(h:gE b [] m=some F):(m.map g).length*b<=2^47/\(m.map g).length<=2^47:=by simpa using dT (f:=g) (g:=g) h
def mO {α:Type}{b:Nat}{l m F:O α}{f:α->D}(h:gE b l m=some F):l.map f++m.map f=F.map f:=by rw[mw h,List.map_append]
def TO {α:Type}{f:α->D}{l F:O α}{a b:Int}(h:part l a b=some F):0<=a/\a<=b/\b<=((l.map f).length:Int):=by
 unfold part at h;split at h
 ·rename_i H;simpa using H
 cases h
def Yk {α:Type}{f:α->D}{l F:O α}{a:Int}(h:part l a l.length=some F):0<=a/\a<=((l.map f).length:Int)/\((l.map f).length:Int)<=((l.map f).length:Int):=by have:=TO (f:=f) h;simp at this⊢;exact this
def Lh {α:Type}{f:α->D}{l F:O α}{a b:Int}(h:part l a b=some F):((l.map f).drop a.toNat).take (b.toNat-a.toNat)=F.map f:=by
 unfold part at h;split at h
 ·cases h;rw[List.map_take,List.map_drop]
 cases h
def Y5 {α:Type}{f:α->D}{l F:O α}{a:Int}(h:part l a l.length=some F):((l.map f).drop a.toNat).take (((l.map f).length:Int).toNat-a.toNat)=F.map f:=by have:=Lh (f:=f) h;simpa using this
def A8 {K V:Type}[BEq K]:O (K×V)->K->C V
 | [],_=>none
 | p::l,k=>if k==p.1 then some p.2 else A8 l k
def A3 {K V:Type}[BEq K]:O (K×V)->K->V->O (K×V)
 | [],k,v=>[(k,v)]
 | p::l,k,v=>if k==p.1 then (k,v)::l else p::A3 l k v
def BS {K V:Type}(ek:K->D)(ev:V->D)(l:O (K×V)):O (D×D):=l.map λp=>(ek p.1,ev p.2)
def HD {K V:Type}[BEq K]{tk:TK}{ek:K->D}{ev:V->D}{l:O (K×V)}{k:K}(h :∀a b,C7 tk (ek a) (ek b)=some (a==b)):BU tk (ek k) (BS ek ev l)=some ((A8 l k).map ev):=by
 induction l with
 | nil=>rfl
 | cons p l F=>
  simp only[BS,Xam,BU,h,A8];cases k==p.1
  ·simpa[BS] using F
  simp
def NZ {K V:Type}[BEq K]{tk:TK}{ek:K->D}{ev:V->D}{l:O (K×V)}{k:K}{v:V}(h :∀a b,C7 tk (ek a) (ek b)=some (a==b)):ER tk (ek k) (ev v) (BS ek ev l)=some (BS ek ev (A3 l k v)):=by
 induction l with
 | nil=>rfl
 | cons p l F=>
  simp only[BS,Xam,ER,h,A3];cases k==p.1
  ·simp only[BS] at F;simp[F]
  simp
def Oa {K V:Type}[BEq K]{tk:TK}{ek:K->D}{ev:V->D}{l:O (K×V)}{k:K}{u:Unit}(h :∀a b,C7 tk (ek a) (ek b)=some (a==b))(g:sR ((A8 l k).isNone=true)=some u):BU tk (ek k) (BS ek ev l)=some none:=by
 rw[HD h];unfold sR at g;split at g
 ·rename_i q;cases hm:A8 l k with
  | none=>rfl
  | some v=>rw[hm] at q;simp at q
 simp at g
def mV {V:Type}{f:V->D}{o:C V}{z:V}{F:D}(H:F=f z):(o.map f).getD F=f (o.getD z):=by cases o<;>simp[H]
def ly {V:Type}{f:V->D}{o:C V}:(o.map f).isSome=o.isSome:=by cases o<;>rfl
def j4 {V:Type}{f:V->D}{o:C V}{z v:V}{F:D}(H:F=f z)(g:some (o.getD z)=some v):(o.map f).getD F=f v:=by rw[mV H,X25 g]
def kp {V:Type}{f:V->D}{o:C V}{b:I}(g:some o.isSome=some b):(o.map f).isSome=b:=by rw[ly,X25 g]
def H8 (a b:Int):C7 (.int .i64) (D.i a) (D.i b)=some (a==b):=by simp[C7]
def PD (a b:T):C7 .str (D.s a) (D.s b)=some (a==b):=rfl
def gY (a b:S):C7 (.int .u8) (D.u8 a) (D.u8 b)=some (a==b):=by simp only[C7,Xdl,X24];rw[X28];simp only[Xbi,Int.natCast_inj];exact UInt8.toNat_inj
def Ew {p:Prop}[Decidable p]{u:Unit}(h:sR p=some u):p:=by
 unfold sR at h;split at h
 ·assumption
 cases h
def Vy {τ ρ:Type}{np:Nat}{X:(r9->Prop)->Prop}{K:r9->Prop}{m:(τ->C ρ)->C ρ}{k:τ->C ρ}{r:ρ}(St:τ->r9) (H :∀F:τ->C ρ,m F=some r->X (λt=>∃s,s5 np t s/\∃v,F v=some r/\s=St v)) (J :∀v,k v=some r->K (St v)):AC m k=some r->tL np X K:=
 λh=>.cut (λs=>∃v,k v=some r/\s=St v) (H k h) λ_ ⟨v,M,P⟩=>P▸J v M
def eh {α:Type}{l:O α}{a b:Int}{u:Unit}{f:α->D}(h:sR (0<=a/\a<=b/\b<=(l.length:Int))=some u):0<=a/\a<=b/\b<=((l.map f).length:Int):=by rw[X10];exact Ew h
def Kp {α:Type}{l:O α}{a:Int}{u:Unit}{f:α->D}(h:sR (0<=a/\a<=(l.length:Int)/\(l.length:Int)<=(l.length:Int))=some u):0<=a/\a<=((l.map f).length:Int)/\((l.map f).length:Int)<=((l.map f).length:Int):=by rw[X10];exact Ew h
def LK {α:Type}{l:O α}{a n:Nat}{f:α->D}:((l.map f).drop a).take n=Wr f ((l.drop a).take n):=by simp
def ew {α:Type}{f:α->D}{l:O α}{a n:Nat}:((l.map f).drop a).take n=((l.drop a).take n).map f:=by simp
def XW {α:Type}{l v:O α}{a b:Int}{f:α->D}(h:part l a b=some v):0<=a/\a<=b/\b<=b/\b<=((l.map f).length:Int):=by have:=TO (f:=f) h;exact⟨this.1,this.2.1,Int.le_refl _,this.2.2⟩
def kZ {α:Type}{l v:O α}{a:Int}{f:α->D}(h:part l a l.length=some v):0<=a/\a<=((l.map f).length:Int)/\((l.map f).length:Int)<=((l.map f).length:Int)/\((l.map f).length:Int)<=((l.map f).length:Int):=by have:=Yk (f:=f) h;exact⟨this.1,this.2.1,Int.le_refl _,Int.le_refl _⟩
def YP {α:Type}{l v:O α}{a b m:Int}{f:α->D}{u:Unit}(h:part l a b=some v)(J:sR (b<=m/\m<=(l.length:Int))=some u):0<=a/\a<=b/\b<=m/\m<=((l.map f).length:Int):=by have F:=TO (f:=f) h;have H:=Ew J;rw[X10];exact⟨F.1,F.2.1,H.1,H.2⟩
def kY {α:Type}{l:O α}{a n:Nat}{z:α}{f:α->D}:(l.map f).take a++Xb6 n (f z)++(l.map f).drop (a+n)=Wr f (l.take a++Xb6 n z++l.drop (a+n)):=by simp
def yx {α:Type}(l:O α)(a n:Nat)(s:O α):O α:=l.take a++s.take n++l.drop (a+min s.length n)
def cw (s F:r9):O AV->O D->Prop
 | [],[]=>True
 | a::l,y::H=>(y.isAgg=false/\sJ s F a (.d y))/\cw s F l H
 | _,_=>False
def Qp {s H:r9} :∀{F:O AV} {ys:O D},cw s H F ys->ys.length=F.length
 | [],[],_=>rfl
 | _::_,_::_,h=>by simp[Qp h.2]
def Qh {s J:r9} :∀{H:O AV} {ys:O D},cw s J H ys->∀i (F:i<H.length) (hi':i<ys.length),ys[i].isAgg=false/\sJ s J H[i] (.d ys[i])
 | [],[],_,i,F,_=>by simp at F
 | _::_,_::_,h,0,_,_=>h.1
 | _::_,_::_,h,i+1,F,hi'=>Qh h.2 i (by simpa using F) (by simpa using hi')
def _root_.Go.AX.sJ.box {s K:r9}(r:Nat)(F:O AV)(ys:O D)(sz:Nat)(h:s.ob.getD r none=some (.box F))(P:K.ob.getD r none=none)(s7:sz=F.length)(hp:0<F.length)(H:cw s K F ys):sJ s K (.own r 1) (.d (.su sz [.agg ys])):=
 .xH r F ys sz h P s7 (Qp H) hp (λi J M=>(Qh H i J M).2) λi J=>(Qh H i (by rw[<- Qp H];exact J) J).1
def aw (s F:r9):O AV->O AV->Prop
 | [],[]=>True
 | a::l,y::H=>sJ s F a y/\aw s F l H
 | _,_=>False
def ZR:O AV->I
 | []=>true
 | a::l=>a.one&&ZR l
def dw (s F:r9):O D->O AV->Prop
 | [],[]=>True
 | a::l,y::H=>sJ s F (.d a) y/\dw s F l H
 | _,_=>False
def OC {s K:r9} :∀{J F:O AV},aw s K J F->J.length=F.length/\∀i (H:i<J.length) (hi':i<F.length),sJ s K J[i] F[i]
 | [],[],_=>⟨rfl,λi H=>by simp at H⟩
 | _::_,_::_,h=>⟨by simp[(OC h.2).1],λi H hi'=>match i,H,hi' with
  | 0,_,_=>h.1
  | i+1,H,hi'=>(OC h.2).2 i (by simpa using H) (by simpa using hi')⟩
def TJ {s K:r9} :∀{J:O D} {F:O AV},dw s K J F->J.length=F.length/\∀i (H:i<J.length) (hi':i<F.length),sJ s K (.d J[i]) F[i]
 | [],[],_=>⟨rfl,λi H=>by simp at H⟩
 | _::_,_::_,h=>⟨by simp[(TJ h.2).1],λi H hi'=>match i,H,hi' with
  | 0,_,_=>h.1
  | i+1,H,hi'=>(TJ h.2).2 i (by simpa using H) (by simpa using hi')⟩
def Pv :∀{F:O AV},ZR F=true->∀i (H:i<F.length),F[i].one=true
 | _::_,h,0,_=>by simp only[ZR,X27] at h;exact h.1
 | _::_,h,i+1,H=>by simp only[ZR,X27] at h;exact Pv h.2 i (by simpa using H)
def _root_.Go.AX.sJ.xp {s J:r9}{H F:O AV}(h:aw s J H F):sJ s J (.sH H) (.sH F):=.sH H F (OC h).1 (OC h).2
def _root_.Go.AX.sJ.xu {s J:r9}{H F:O AV}(K:ZR F=true)(h:aw s J H F):sJ s J (.agg H) (.agg F):=.agg H F (OC h).1 (OC h).2 (Pv K)
def _root_.Go.AX.sJ.wb {s J:r9}{H:O D}{F:O AV}(K:ZR F=true)(h:dw s J H F):sJ s J (.d (.agg H)) (.agg F):=.xE H F (TJ h).1 (TJ h).2 (Pv K)
def _root_.Go.AX.sJ.wo {s K:r9}{H:O AV}{ys:O D}(h:cw s K H ys):sJ s K (.agg H) (.d (.agg ys)):=.xz H ys (Qp h).symm (λi F J=>(Qh h i F J).2) λi F=>(Qh h i (by rw[<- Qp h];exact F) F).1
def Ff {τ ρ:Type}{np:Nat}{t:r9}{St:τ->r9}{k:τ->C ρ}{r:ρ}{v:τ}(F:s5 np t (St v))(h:k v=some r) :∃s,s5 np t s/\∃v,k v=some r/\s=St v:=
 ⟨_,F,v,h,rfl⟩
def By {np:Nat}{body:(AE->r9->Prop)->r9->Prop}{K:AE->r9->Prop}{st:r9}{α σ ρ:Type}{done:σ->C ρ}{V:(σ->C ρ)->α->Nat->σ->C ρ}{l:O α}{Q:σ}{r:ρ} (F sz:Nat) (enc:α->D) (hs:st.tm.getD F .dead=.d (.su sz (l.map enc))) (St:Nat->σ->r9) (hw:s5 np st (St 0 Q)) (M :∀(s:σ) (U:r9->Prop),done s=some r->body (vu K U) (St l.length s)) (H :∀(next:σ->C ρ) (i:Nat) (x:α) (s:σ) (U:r9->Prop),i<l.length->(l.map enc).getD i default=enc x->Xdc.wrap ((i:Int)+1)=((i+1:Nat):Int)->V next x i s=some r-> (∀t v,s5 np t (St (i+1) v)->next v=some r->U t)->body (vu K U) (St i s)):AI done V l 0 Q=some r->tP np body K st:=by
 intro h;refine .mk λhb _=>?_;have hl:l.length<=9223372036854775807:=by simpa using hb F sz _ hs
 refine⟨λs n=>∃(i:Nat) (v:σ),n=l.length-i/\i<=l.length/\AI done V (l.drop i) i v=some r/\s=St i v,⟨St 0 Q,l.length,hw,0,Q,by simp,by simp,by simpa using h,rfl⟩,?_⟩;rintro _ n ⟨i,v,hn,hi,P,rfl⟩;by_cases he:i=l.length
 ·subst he;simp only[List.drop_length,AI] at P;exact M v _ P
 have J:i<l.length:=by omega
 rw[Xbb J] at P;simp only[AI] at P;exact H _ i l[i] v _ J (by simp[J]) (N7 (by omega) ⟨by omega,by omega⟩) P
  λt v' Y Z=>⟨_,l.length-(i+1),by omega,Y,i+1,v',rfl,by omega,Z,rfl⟩
def QY {np:Nat}{body:(AE->r9->Prop)->r9->Prop}{K:AE->r9->Prop}{st:r9}{α σ ρ:Type}{done:σ->C ρ}{V:(σ->C ρ)->α->Nat->σ->C ρ}{l:O α}{Q:σ}{r:ρ} (F e sz:Nat) (fz:FZ) (enc:α->D) (hs:st.ob.getD F none=some (.row e sz (l.map enc) fz)) (St:Nat->σ->r9) (hw:s5 np st (St 0 Q)) (M :∀(s:σ) (U:r9->Prop),done s=some r->body (vu K U) (St l.length s)) (H :∀(next:σ->C ρ) (i:Nat) (x:α) (s:σ) (U:r9->Prop),i<l.length->(l.map enc).getD i default=enc x->Xdc.wrap ((i:Int)+1)=((i+1:Nat):Int)->V next x i s=some r-> (∀t v,s5 np t (St (i+1) v)->next v=some r->U t)->body (vu K U) (St i s)):AI done V l 0 Q=some r->tP np body K st:=by
 intro h;refine .mk λ_ hb=>?_;have hl:l.length<=9223372036854775807:=by simpa using hb F _ _ _ _ hs
 refine⟨λs n=>∃(i:Nat) (v:σ),n=l.length-i/\i<=l.length/\AI done V (l.drop i) i v=some r/\s=St i v,⟨St 0 Q,l.length,hw,0,Q,by simp,by simp,by simpa using h,rfl⟩,?_⟩;rintro _ n ⟨i,v,hn,hi,P,rfl⟩;by_cases he:i=l.length
 ·subst he;simp only[List.drop_length,AI] at P;exact M v _ P
 have J:i<l.length:=by omega
 rw[Xbb J] at P;simp only[AI] at P;exact H _ i l[i] v _ J (by simp[J]) (N7 (by omega) ⟨by omega,by omega⟩) P
  λt v' Y Z=>⟨_,l.length-(i+1),by omega,Y,i+1,v',rfl,by omega,Z,rfl⟩
def JV {α:Type}{l:O α}{i:Nat}(h:i<l.length):decide ((i:Int)<(l.length:Int))=true:=by simpa using h
def fo {α:Type}{l:O α}:decide ((l.length:Int)<(l.length:Int))=false:=by simp
def Eo {α F:Type}{f:α->F}{l:O α}{i:Nat}(h:i<l.length):0<=(i:Int)/\(i:Int)<((l.map f).length:Int):=⟨by omega,by simpa using h⟩
def E3 {np:Nat}{body:(AE->r9->Prop)->r9->Prop}{K:AE->r9->Prop}{st:r9}{σ ρ:Type}{J:(σ->C ρ)->σ->C ρ}{n:Nat}{H:σ}{r:ρ} (St:σ->r9) (V:s5 np st (St H)) (F :∀(next:σ->C ρ) (s:σ) (Q:r9->Prop),J next s=some r->(∀t v,s5 np t (St v)->next v=some r->Q t)->body (vu K Q) (St s)):Ai J n H=some r->tP np body K st:=by
 intro h;refine .mk λ_ _=>⟨λs n=>∃v,Ai J n v=some r/\s=St v,⟨St H,n,V,H,h,rfl⟩,?_⟩;rintro _ m ⟨v,U,rfl⟩;cases m with
 | zero=>cases U
 | succ m=>exact F _ v _ U λt Y M P=>⟨_,m,Nat.lt_succ_self m,M,Y,P,rfl⟩
def Qf (F:O Nat)(acc:O Nat):Nat:=F.foldl (λm j=>m ||| 2^j ||| acc.getD (acc.length-1-j) 0) 0
def gW:O z->O Nat->O Nat
 | [],acc=>acc
 | o::l,acc=>gW l (Qf (Bl o) acc::acc)
def UN (F:Array z)(o:z)(m:Nat):O z->I
 | []=>true
 | q::prev=>(m.testBit prev.length || q.apart F o)&&UN F o m prev
def tu.go (H:Array z):O z->O z->O Nat->I
 | [],_,_=>true
 | o::l,prev,F=>(Bl o).all (λj=>Xbr j prev.length)&&(match o.op with|.select _ _=>false|_=>true)&&UN H o (Qf (Bl o) F) prev &&
   tu.go H l (o::prev) (Qf (Bl o) F::F)
def tu (F:Array z):I:=tu.go F F.toList [] []
def Jn :∀(a b:O z) (acc:O (O Nat)),Hw (a++b) acc=Hw b (Hw a acc)
 | [],_,_=>rfl
 | o::a,b,acc=>Jn a b _
def OQ :∀(l:O z) (acc:O (O Nat)),∃p,Hw l acc=p++acc/\p.length=l.length
 | [],acc=>⟨[],rfl,rfl⟩
 | o::l,acc=>by obtain⟨p,F,H⟩:=OQ l (((Bl o).flatMap λj=>j::acc.getD (acc.length-1-j) [])::acc);exact⟨p++[(Bl o).flatMap λj=>j::acc.getD (acc.length-1-j) []],by rw[Hw,F];simp,by simp[H]⟩
def tV (masks:O Nat)(acc:O (O Nat)):Prop:=masks.length=acc.length/\∀k j,(masks.getD k 0).testBit j=true->j∈acc.getD k []
def Qr {masks:O Nat}{acc:O (O Nat)}(h:tV masks acc)(F:O Nat)(j:Nat)(J:(Qf F masks).testBit j=true):j∈F.flatMap λj=>j::acc.getD (acc.length-1-j) []:=by
 have key :∀(F:O Nat) (m:Nat),(F.foldl (λm j=>m ||| 2^j ||| masks.getD (masks.length-1-j) 0) m).testBit j=true->
   m.testBit j=true\/j∈F.flatMap λj=>j::acc.getD (acc.length-1-j) []:=by
  intro F;induction F with
  | nil=>intro m h;exact .inl h
  | cons p F K=>
   intro m H;simp only[Xai] at H;rcases K _ H with g|g
   ·simp only[Nat.testBit_or,Xco,Nat.testBit_two_pow,Xe] at g;rcases g with (g|g)|g
    ·exact .inl g
    ·subst g;exact .inr (by simp)
    rw[h.1] at g;have:=h.2 _ _ g;exact .inr (by simp only[Xac,X23,Wp];exact .inl (.inr this))
   exact .inr (by simp only[Xac,X23];exact .inr g)
 rcases key F 0 J with g|g
 ·simp at g
 exact g
def tV.cons {masks:O Nat}{acc:O (O Nat)}(h:tV masks acc)(F:O Nat):tV (Qf F masks::masks) ((F.flatMap λj=>j::acc.getD (acc.length-1-j) [])::acc):=by
 refine⟨by simp[h.1],λk j H=>?_⟩;cases k with
 | zero=>exact Qr h F j H
 | succ k=>exact h.2 k j H
def cK :∀(l:O z) {masks:O Nat} {acc:O (O Nat)},tV masks acc->tV (gW l masks) (Hw l acc)
 | [],_,_,h=>h
 | o::l,_,_,h=>cK l (h.cons (Bl o))
def SL {J:Array z}{o:z}{m:Nat} :∀{F:O z},UN J o m F=true->∀j q,j<F.length->F.reverse[j]?=some q->m.testBit j=true\/q.apart J o=true
 | [],_,j,q,M,_=>by simp at M
 | p::F,h,j,q,M,H=>by
  simp only[UN,X27,Xco] at h;simp only[List.reverse_cons] at H;by_cases he:j=F.length
  ·subst he;rw[Xa4 (by simp)] at H;simp at H;subst H;exact h.1
  have K:j<F.length:=by simp at M;omega
  rw[Ww (by simpa using K)] at H;exact SL h.2 j q K H
def Ss {H:Array z} :∀(l F:O z) (masks:O Nat),F.reverse++l=H.toList->tV masks (Hw F.reverse [])->tu.go H l F masks=true-> ∀i o,F.length<=i->H[i]?=some o->((Bl o).all (λj=>Xbr j i)&&(match o.op with|.select _ _=>false|_=>true) && (Xb4 i).all λj=>(F7 H i).contains j || (match H[j]? with
    | none=>false
    | some q=>q.apart H o))=true
 | [],F,masks,J,_,_,i,o,hi,P=>by
  have:H.toList.length=F.length:=by rw[<- J];simp
  simp only[Xal] at this;have:=(Xby.1 P).1;omega
 | q::l,F,masks,J,Z,h,i,o,hi,P=>by
  simp only[tu.go,X27] at h;obtain⟨⟨⟨h1,h2⟩,h3⟩,h4⟩:=h;by_cases he:i=F.length
  ·subst he;have K:H.toList[F.length]?=some o:=by simpa using P
   rw[<- J,Xa4 (by simp)] at K;simp at K;subst K;have ha:F7 H F.length=(Bl q).flatMap λj=>j::(Hw F.reverse []).getD ((Hw F.reverse []).length-1-j) []:=by
    unfold F7;rw[<- J,Jn,Hw];obtain⟨p,hp,a1⟩:=OQ l (((Bl q).flatMap λj=>j::(Hw F.reverse []).getD ((Hw F.reverse []).length-1-j) [])::Hw F.reverse []);have hs:H.size-1-F.length=p.length:=by
     have:H.toList.length=F.length+(l.length+1):=by rw[<- J];simp
     simp only[Xal] at this;omega
    rw[hp,hs];simp
   simp only[X27];refine⟨⟨h1,h2⟩,?_⟩;rw[Wo];intro j Q;have Q:=Xc4.1 Q;have U :∃p,H[j]?=some p/\F.reverse[j]?=some p:=by
    have M:j<F.reverse.length:=by simpa using Q
    refine⟨F.reverse[j],?_,X15 M⟩;have:H.toList[j]?=some F.reverse[j]:=by rw[<- J,Ww M,X15 M]
    simpa using this
   obtain⟨p,V,Y⟩:=U;rw[Xco];rcases SL h3 j p Q Y with g|g
   ·left;rw[ha];simpa using Qr Z (Bl q) j g
   right;rw[V];exact g
  refine Ss l (q::F) _ (by simpa using J) ?_ h4 i o (by simp;omega) P;rw[List.reverse_cons,Jn];exact Z.cons (Bl q)
def VC {F:Array z}(h:tu F=true):Ef F=true:=by unfold Ef;rw[Wo];intro i H;have H:=Xc4.1 H;have:=Ss F.toList [] [] (by simp) ⟨rfl,λk j J=>by simp at J⟩ h i F[i] (by simp) (by simp[H]);simp only[H,getElem?_pos];exact this
def te.tH (M:O Nat)(n i:Nat)(J wr:O Nat):Nat->O (O Nat×O Nat)->I
 | _,[]=>true
 | j,(F,H)::l=>((M.getD (n-1-j) 0).testBit i || ((wr.all λr=>!F.contains r)&&J.all λr=>!H.contains r))&&te.tH M n i J wr (j+1) l
def te.go (M:O Nat)(n:Nat):Nat->O (O Nat×O Nat)->I
 | _,[]=>true
 | i,(F,wr)::l=>te.tH M n i F wr (i+1) l&&te.go M n (i+1) l
def te (F:Array z)(H:O (O Nat×O Nat)):I:=te.go (gW F.toList []) F.size 0 H
def fZ {F:Array z}{J:O (O Nat×O Nat)}(h:te F J=true):EF F 0 J=true:=by
 have Q:=cK F.toList (masks:=[]) (acc:=[]) ⟨rfl,λk j U=>by simp at U⟩;have c :∀(l:O (O Nat×O Nat)) (i:Nat) (K wr:O Nat) (j:Nat),te.tH (gW F.toList []) F.size i K wr j l=true->EF.tH F i K wr j l=true:=by
  intro l;induction l with
  | nil=>intro i K wr j _;rfl
  | cons x l P=>
   intro i K wr j H;obtain⟨V,Y⟩:=x;simp only[te.tH,X27] at H;simp only[EF.tH,X27];refine⟨?_,P _ _ _ _ H.2⟩;have M:=H.1;rw[Xco] at M⊢;rcases M with g|g
   ·exact .inl (by simpa[F7] using Q.2 _ _ g)
   exact .inr g
 have g :∀(l:O (O Nat×O Nat)) (i:Nat),te.go (gW F.toList []) F.size i l=true->EF F i l=true:=by
  intro l;induction l with
  | nil=>intro i _;rfl
  | cons x l P=>intro i H;obtain⟨K,wr⟩:=x;simp only[te.go,X27] at H;simp only[EF,X27];exact⟨c _ _ _ _ _ H.1,P _ H.2⟩
 exact g _ _ h
def yY {F:Array z}{K:Prop}(h:tu F=true)(k:K):Ef F=true/\K:=⟨VC h,k⟩
def zm {F:Array z}{K:Prop}(h:(tu F&&Na F)=true)(k:K):(Ef F=true/\Na F=true)/\K:=by simp only[X27] at h;exact⟨⟨VC h.1,h.2⟩,k⟩
def yZ {F:Array z}{e:O (O Nat×O Nat)}{K:Prop}(h:te F e=true)(k:K):EF F 0 e=true/\K:=⟨fZ h,k⟩
def Z7 (x:S):Xdc.wrap (x.toNat:Int)=(x.toNat:Int):=by have:=x.toNat_lt;exact N7 rfl ⟨by omega,by omega⟩
def Xa (x:UInt16):Xdc.wrap (x.toNat:Int)=(x.toNat:Int):=by have:=x.toNat_lt;exact N7 rfl ⟨by omega,by omega⟩
def XX (x:UInt32):Xdc.wrap (x.toNat:Int)=(x.toNat:Int):=by have:=x.toNat_lt;exact N7 rfl ⟨by omega,by omega⟩
def BF (x:Int):S:=Xcv (x%256).toNat
def Vq (x:Int):UInt16:=UInt16.ofNat (x%65536).toNat
def Uw (x:Int):UInt32:=UInt32.ofNat (x%4294967296).toNat
def AY (x:Int):j:=Xae (x%18446744073709551616).toNat
def Tj (x:Int):IntKind.u8.wrap x=((BF x).toNat:Int):=by
 have e:(2^IntKind.u8.bits:Int)=256:=by decide
 simp only[IntKind.wrap,IntKind.signed,e,BF,Xct];simp;omega
def d4 (x:Int):IntKind.u16.wrap x=((Vq x).toNat:Int):=by
 have e:(2^IntKind.u16.bits:Int)=65536:=by decide
 simp only[IntKind.wrap,IntKind.signed,e,Vq,UInt16.toNat_ofNat'];simp;omega
def gz (x:Int):IntKind.u32.wrap x=((Uw x).toNat:Int):=by
 have e:(2^IntKind.u32.bits:Int)=4294967296:=by decide
 simp only[IntKind.wrap,IntKind.signed,e,Uw,UInt32.toNat_ofNat'];simp;omega
def MS (x:Int):IntKind.u64.wrap x=((AY x).toNat:Int):=by
 have e:(2^IntKind.u64.bits:Int)=18446744073709551616:=by decide
 simp only[IntKind.wrap,IntKind.signed,e,AY,Xad];simp;omega
def W9 {n:Int}(h:0<=n/\n<256):((BF n).toNat:Int)=n:=by simp only[BF,Xct];simp;omega
def VG {n:Int}(h:0<=n/\n<65536):((Vq n).toNat:Int)=n:=by simp only[Vq,UInt16.toNat_ofNat'];simp;omega
def Uo {n:Int}(h:0<=n/\n<4294967296):((Uw n).toNat:Int)=n:=by simp only[Uw,UInt32.toNat_ofNat'];simp;omega
def Us {n:Int}(h:0<=n/\n<18446744073709551616):((AY n).toNat:Int)=n:=by simp only[AY,Xad];simp;omega
def Iy {n m:Nat}(s:Nat)(h:n<m):0<=(n:Int).fdiv (2^s)/\(n:Int).fdiv (2^s)<m:=by
 have e:(2^s:Int)=((2^s:Nat):Int):=by simp
 rw[e,Int.fdiv_eq_ediv_of_nonneg _ (Xcc _),<- Int.natCast_ediv];have:=Nat.div_le_self n (2^s);generalize n/2^s=q at *;omega
def dt (x:S)(s:Nat):(x.toNat:Int).fdiv (2^s)=((BF ((x.toNat:Int).fdiv (2^s))).toNat:Int):=(W9 (Iy s x.toNat_lt)).symm
def ir (x:UInt16)(s:Nat):(x.toNat:Int).fdiv (2^s)=((Vq ((x.toNat:Int).fdiv (2^s))).toNat:Int):=(VG (Iy s x.toNat_lt)).symm
def jZ (x:UInt32)(s:Nat):(x.toNat:Int).fdiv (2^s)=((Uw ((x.toNat:Int).fdiv (2^s))).toNat:Int):=(Uo (Iy s x.toNat_lt)).symm
def YX (x:j)(s:Nat):(x.toNat:Int).fdiv (2^s)=((AY ((x.toNat:Int).fdiv (2^s))).toNat:Int):=(Us (Iy s x.toNat_lt)).symm
end Go.AX
end
section
namespace Go.AX
open Go.RowKit Go.Deep Go.ChangeShapes Go.WideShapes Go.ChangeAt
section
variable {H:Type} {enc:TypeId×A->H} {P:Program} {w:B} {L:vU H P}
def sZ.map' {t:Nat}{α K:Type}{cells:α->O D}{ok:α->Prop}(h:sZ L enc w t cells ok){F:K->O D}{J:K->Prop}(g:α->K)(Q :∀a,ok a->F (g a)=cells a)(U :∀a,ok a->J (g a)):sZ L enc w t F J:=by intro rp V x Y Z;obtain⟨a,M,h2⟩:=h rp V x Y Z;exact⟨g a,U a M,by rw[Q a M];exact h2⟩
def ea {k:IntKind}{n:Int}(h:(Lit.int k n).wf=true):k.min<=n/\n<=k.max:=by simpa[Lit.wf] using h
def uW {t:Nat}(F:P.underlying t=some (.int .i64)):sZ L enc w t (λn:Int=>[D.i n]) sL:=
 (bH F).map' id (λ_ _=>rfl) λa h=>by have:=ea h;simpa[IntKind.min,IntKind.max,IntKind.signed,IntKind.bits,sL] using this
def uB {t:Nat}{K:TypeDesc}(Q:P.underlying t=some K)(U:(match K with|.int _|.bool|.string|.slice _=>true|_=>false)=true){α:Type}{c:α->D}{ok:α->Prop}(h:sZ L enc w t (λa=>[c a]) ok){base:Nat}{v:A}{d:DataW H}{p:O MemPlace} (F:Value.okWide P w .any base t v) (V:DataW.Trod enc P w 0 (λ_=>true) true t v d p) (Y:L.W t d) :∃x,ok x/\gM (vE w) w (λ_=>none) (rY []) (.d (c x)) v:=by
 obtain⟨rp,Z⟩:=V;obtain⟨x,h1,h2⟩:=h rp _ _ Z Y;refine⟨x,h1,.d _ _ (tl.val (?_:tl w [c x] [v]))⟩;have M :∀J,v≠.agg J:=by rintro J rfl;unfold Value.okWide at F;rw[Q] at F;cases K<;>simp at U<;>simp[Cell.okWide,Cell.ok,Q] at F
 have:v.cells.toList=[v]:=by cases v<;>first|rfl|(rename_i J;exact absurd rfl (M J))
 rwa [this] at h2
inductive tJ (w:World):List Value->List AV->Prop
 | nil:tJ w [] []
 | cons {v:Value} {x:D} {vs:List Value} {avs:List AV} (h:gM (vE w) w (λ_=>none) (rY []) (.d x) v) (t:tJ w vs avs):tJ w (v::vs) (.d x::avs)
def tJ.get {vs:O A}{F:O AV}(h:tJ w vs F):vs.length=F.length/\∀i (J:i<F.length),gM (vE w) w (λ_=>none) (rY []) F[i] (vs.getD i Xc3)/\gO (rY []) F[i]:=by
 induction h with
 | nil=>exact⟨rfl,λi J=>by simp at J⟩
 | cons h t K=>
  refine⟨by simp[K.1],λi J=>?_⟩;cases i with
  | zero=>exact⟨h,A1 _ _⟩
  | succ i=>simpa using K.2 i (by simpa using J)
def LE (Q:laidOutB P=true){W U:B}(V:Below W.heap.size W U) :∀{ts:O TypeId} {vs:O A} {J:O (DataW H)} {K:O MemPlace}, (ts.all λt=>P.readableRec t&&decide (t<P.types.size))=true->DataW.TrodAll enc P W 0 (λ_=>true) true ts vs J K->DataW.TrodAll enc P U 0 (λb=>decide (b<W.heap.size)) true ts vs J K
 | [],[],[],_,_,h=>h
 | t::ts,v::vs,d::J,K,F,h=>by have M:=h.lt;obtain⟨p,q,Y,Z,rfl⟩:=h;simp only[Xd1,X27,Xe] at F;exact⟨p,q,Below.trod Q F.1.1 F.1.2 Y V λx hx=>M x (by simp[hx]),LE Q V F.2 Z,rfl⟩
 | [],[],_::_,_,_,h=>h.elim
 | [],_::_,_,_,_,h=>h.elim
 | _::_,[],_,_,_,h=>h.elim
 | _::_,_::_,[],_,_,h=>h.elim
def tq :∀{ts:O TypeId} {vs:O A} {F:O (DataW H)} {J:O MemPlace} {K:Nat->I},DataW.TrodAll enc P w 0 K true ts vs F J->F.length=ts.length/\vs.length=ts.length
 | [],[],[],_,_,_=>⟨rfl,rfl⟩
 | t::ts,v::vs,d::F,_,_,h=>by obtain⟨p,q,_,M,_⟩:=h;obtain⟨a,b⟩:=tq M;exact⟨by simp[a],by simp[b]⟩
 | [],[],_::_,_,_,h=>h.elim
 | [],_::_,_,_,_,h=>h.elim
 | _::_,[],_,_,_,h=>h.elim
 | _::_,_::_,[],_,_,h=>h.elim
def Ol {X:B->Prop}{wl:WL}{C:Checked}{L:vU H C.prog}{f:Xcx}{fn:Func}{s:ChangeSpec}{b:TypeId}(hl:laidOutB C.prog=true)(K:s.vars=[])(M :∀F:O (DataW H),F.length=fn.params.size->s.fn H (F++[])={ results:=[.lit (.bool true)],args:=F })
  (V:fn.resultTypes=#[b]) (hb:C.prog.underlying b=some .bool) (Q:(fn.params.toList.all λt=>C.prog.readableRec t&&decide (t<C.prog.types.size))=true)
  (a1 :∀(W:B),X W->∀(base:Nat) (args:Array A) (F:O (DataW H)) (p:O MemPlace),(∀(j:Nat) t v,fn.params[j]?=some t->args[j]?=some v->Value.okWide C.prog W .any base t v)-> DataW.TrodAll enc C.prog W 0 (λ_=>true) true fn.params.toList args.toList F p->(∀(j:Nat) t d,fn.params.toList[j]?=some t->F[j]?=some d->L.W t d)->∃U,tJ W args.toList U/\Bj wl C.prog f U [] (.b true) []/\∃gb:Nat->Prop,wl.gf gb W/\∀b,gb b->b<W.heap.size) :
  ∀(W:B),X W->∀(base:Nat) (args:Array A) (F gs:O (DataW H)) (J:O MemPlace),
   (∀(j:Nat) t v,fn.params[j]?=some t->args[j]?=some v->Value.okWide C.prog W .any base t v)->
   DataW.Whole enc C.prog fn.params.toList s.vars false W args.toList F gs J->
   (∀(j:Nat) t d,fn.params.toList[j]?=some t->F[j]?=some d->L.W t d)->
   Calls C.prog f args W λe W'=>∃v,e=.returned v/\s.post enc C.prog fn false true false false W args v W':=by
 intro W hX base args F gs J Y hW a6;have a7:=hW;obtain⟨p,q,hA,hV,rfl,aa,ab⟩:=hW;rw[K] at hV;obtain⟨rfl,rfl⟩:=trodVars_none hV;have hd:F.length=fn.params.size:=by simpa using (tq hA).1
 obtain⟨U,h1,h2,gb,a8⟩:=a1 W hX base args F p Y hA a6;obtain⟨o1,o2⟩:=h1.get;refine (ZV h2 W a8 args (by simpa using o1) λi hi=>by simpa[<- Array.getElem?_toList] using o2 i hi).mono λe W' ⟨he,Z⟩=>?_;subst he;refine⟨_,rfl,F,[],p++[],[],p,[],a7,?_,?_,?_,Z.frame _,λh=>by cases h⟩
 ·rw[M F hd,V];exact trodAll_mk1 (shut_bool hb _)
 ·rw[M F hd];exact LE hl Z Q hA
 rw[M F hd,K];rfl
def jr {P:Xcz}{ts vs:O TypeId}{F M:O (DataW H)}(h:(DataW.weightsEach P (ts++vs) (F++M)).all (·<=Xak)=true)(j:Nat)(t:TypeId)(d:DataW H)(J:ts[j]?=some t)(K:F[j]?=some d):(vU.reach H P).W t d:=
 Wo.2 λn Q=>Wo.1 h n (DataW.weights_mem_each (j:=j) (by rw[Ww (X16.1 J).1];exact J) (by rw[Ww (X16.1 K).1];exact K) n Q)
end
end Go.AX
end
section
namespace Go.AX
open Go.WideElems
section
variable {H:Type} {enc:TypeId×A->H} {P:Program} {w:B} {sp:Nat->I} {held:I} {t k e:TypeId}
def keyOf_int {kd:IntKind}(J:P.underlying k=some (.int kd)){v:A}{y:Lit}(h:keyOf P k v=some y) :∃n,v=.int kd n/\y=.int kd n:=by
 have F:mapKey P k v=some y:=by unfold keyOf at h;rw[J] at h;exact h
 unfold mapKey at F;rw[J] at F;cases v with
 | int q n=>
  simp only at F;split at F
  ·rename_i K;obtain⟨rfl,_⟩:=K;exact⟨n,rfl,(X25 F).symm⟩
  cases F
 | _=>simp at F
def eM {kd:IntKind}(ht:P.underlying t=some (.map k e))(hk:P.underlying k=some (.int kd)){rp:Nat}{cs:O A}{K:O (Lit×DataW H)}{p:O MemPlace} (h:DataW.trod enc P w 0 sp held rp t cs=some (.map K,p)) (Y:Lit×DataW H->D×D) (hD :∀(n:Int) (v:A) (d:DataW H) (m:Nat) (q:O MemPlace),(Lit.int kd n,d)∈K->DataW.trod enc P w 0 sp held m e v.cells.toList=some (d,q)->v.formed P e=true->Y (.int kd n,d)=(.val (.int kd n),.val v)/\v.oneCell'=true) : ∃b arr J,cs=[.map (some b)]/\w.heap[b]?=some (.map arr J)/\(arr.toList.map λx=>(D.val x.key,D.val x.val)).Perm (K.map Y)/\∀x∈arr.toList,x.key.oneCell'=true/\x.val.oneCell'=true:=by
 rcases open_map ht h with ⟨_,M⟩|⟨b,arr,J,n,_,a1,hb,_,F,M⟩
 ·simp at M
 simp only[X26,DataW.map.injEq] at M;have hp:K.Perm (arr.toList.map (rg P k (elemAt enc P w 0 sp held n e))):=by rw[M.1];exact Go.WideShapes.sorted_perm _
 have U :∀x∈arr.toList,Y (rg P k (elemAt enc P w 0 sp held n e) x)=(D.val x.key,D.val x.val)/\x.key.oneCell'=true/\x.val.oneCell'=true:=by
  intro x M;obtain⟨⟨yl,yd⟩,Q⟩:=F.reads x M;have Z:(yl,yd)∈K:=hp.mem_iff.2 (Xa0.2 ⟨x,M,rg_of Q⟩);rw[rg_of Q];have V:=rd_key Q;obtain⟨m,h1,h2⟩:=keyOf_int hk V;unfold rd at Q;rw[V,Xbv,Xc2] at Q;obtain⟨⟨d,q⟩,hd,Q⟩:=Q;simp only[X26,true_and] at Q;subst Q;unfold elemAt at hd;split at hd
  ·rename_i hf;dsimp only at h2;subst h2;obtain⟨g1,g2⟩:=hD m x.val d n q Z hd hf;rw[h1];exact⟨g1,rfl,g2⟩
  simp at hd
 refine⟨b,arr,J,a1,hb,?_,λx M=>(U x M).2⟩;have e:(arr.toList.map λx=>(D.val x.key,D.val x.val))=(arr.toList.map (rg P k (elemAt enc P w 0 sp held n e))).map Y:=by rw[List.map_map];exact List.map_congr_left λx M=>(U x M).1.symm
 rw[e];exact (hp.symm.map Y)
end
section
variable {H:Type} {enc:TypeId×A->H} {P:Program} {w:B}
open Go.ChangeShapes Go.WideShapes Go.ChangeAt Go.RowKit
def tT {X:B->Prop}{wl:WL}{C:Checked}{f:Xcx}{fn:Func}{s:ChangeSpec}{b:TypeId}(hl:laidOutB C.prog=true)(K:s.vars=[])(Z :∀J:O (DataW H),J.length=fn.params.size->s.fn H (J++[])={ results:=[.lit (.bool true)],args:=J })
  (Q:fn.resultTypes=#[b]) (hb:C.prog.underlying b=some .bool) (M:(fn.params.toList.all λt=>C.prog.readableRec t&&decide (t<C.prog.types.size))=true)
  (a1 :∀(W:B),X W->∀(base:Nat) (args:Array A) (J:O (DataW H)) (p:O MemPlace),(∀(j:Nat) t v,fn.params[j]?=some t->args[j]?=some v->Value.okWide C.prog W .any base t v)-> DataW.TrodAll enc C.prog W 0 (λ_=>true) true fn.params.toList args.toList J p->(∀(j:Nat) t d,fn.params.toList[j]?=some t->J[j]?=some d->Wt C.prog t d)->∃U,tJ W args.toList U/\Bj wl C.prog f U [] (.b true) []/\∃gb:Nat->Prop,wl.gf gb W/\∀b,gb b->b<W.heap.size) :
  ∀(W:B),X W->∀(base:Nat) (args:Array A) (J Y:O (DataW H)) (F:O MemPlace),
   (∀(j:Nat) t v,fn.params[j]?=some t->args[j]?=some v->Value.okWide C.prog W .any base t v)->
   DataW.Whole enc C.prog fn.params.toList s.vars false W args.toList J Y F->
   (DataW.weightsEach C.prog (fn.params.toList++s.plain.varTypes C.prog) (J++Y)).all (·<=Xak)=true->
   Calls C.prog f args W λe W'=>∃v,e=.returned v/\s.post enc C.prog fn false true false false W args v W':=by
 intro W hX base args J Y F V hW a6;exact Ol (L:=vU.reach H C.prog) hl K Z Q hb M a1 W hX base args J Y F V hW (jr a6)
end
def Un {tk:TK}{x:D}{l m:O (D×D)}(hp:l.Perm m)(M :∀p∈l,∃n,p.1=.val (.int .i64 n))(U:l.Pairwise λa b=>a.1≠b.1){q:C D}(h:BU tk x l=some q):BU tk x m=some q:=by
 induction hp generalizing q with
 | nil=>exact h
 | cons p hp ih=>
  simp only[BU] at h⊢;have V:=Wu.1 U;split at h
  ·exact h
  ·exact ih (λp hp=>M p (X19 _ hp)) V.2 h
  cases h
 | swap a b l=>
  obtain⟨i,hi⟩:=M b (by simp);obtain⟨j,hj⟩:=M a (by simp);have Q:b.1≠a.1:=(Wu.1 U).1 a (by simp);simp only[BU,hi,hj] at h⊢;rw[hi,hj] at Q;have Z:i≠j:=λe=>Q (by rw[e]);cases F:C7 tk x (.val (.int .i64 i)) with
  | none=>rw[F] at h;cases h
  | some b1=>
   have K :∃b2,C7 tk x (.val (.int .i64 j))=some b2/\(b1=true->b2=false):=by
    unfold C7 at F⊢;split at F
    ·rename_i kk a' a8 bb J;cases J;split at F
     ·rename_i a1;rw[Xy a1];refine⟨_,rfl,λY=>?_⟩;obtain rfl:=X25 F;simp only[Xbi] at Y;subst Y;simpa using Z
     cases F
    ·rename_i J;cases J
    ·rename_i J;cases J
    cases F
   obtain⟨b2,K,Y⟩:=K;rw[F,K] at h;rw[K];cases b1
   ·cases b2<;>exact h
   rw[Y rfl];exact h
 | trans V h2 a6 a7=>refine a7 (λp hp=>M p (V.mem_iff.2 hp)) ((V.pairwise_iff λh e=>h e.symm).1 U) (a6 M U h)
def bF {w:B}{arr:O Xbn}(h :∀x∈arr,x.key.oneCell'=true/\x.val.oneCell'=true):rM (λ_ _=>False) w (arr.map λx=>(D.val x.key,D.val x.val)) arr:=by
 refine⟨by simp,λi J=>?_⟩;have F:i<arr.length:=by simpa using J
 refine⟨arr[i],X15 F,⟨arr[i].key,by simp,rfl,(h _ (Wx F)).1⟩,?_⟩;simp only[Xas];exact .val _ (h _ (Wx F)).2
end Go.AX
end
section
namespace Go.AX
def O3 {α σ ρ:Type}{done:σ->C ρ}{body:(σ->C ρ)->α->Nat->σ->C ρ}(P:O α->Nat->σ->Prop)(F:O α->Nat->σ->C ρ) (H :∀i s,P [] i s->done s=F [] i s) (J :∀(next:σ->C ρ) x t i s,P (x::t) i s->(∀s,P t (i+1) s->next s=F t (i+1) s)->body next x i s=F (x::t) i s) : ∀(l:O α) (i:Nat) (s:σ),P l i s->AI done body l i s=F l i s
 | [],i,s,h=>H i s h
 | x::t,i,s,h=>J _ x t i s h λK M=>O3 P F H J t (i+1) K M
def Cm {σ ρ:Type}{body:(σ->C ρ)->σ->C ρ}(P:σ->Prop)(J:σ->Nat)(F:σ->C ρ) (K :∀(next:σ->C ρ) s,P s->(∀H,P H->J H<J s->next H=F H)->body next s=F s) : ∀(n:Nat) (s:σ),P s->J s<n->Ai body n s=F s
 | 0,s,_,h=>absurd h (Nat.not_lt_zero _)
 | n+1,s,h,hm=>K _ s h λH M Q=>Cm P J F K n H M (by omega)
def S3 {σ ρ:Type}{body:(σ->C ρ)->σ->C ρ}(P:σ->Prop)(H:σ->Nat)(Q:ρ->Prop) (J :∀(next:σ->C ρ) s,P s->(∀F,P F->H F<H s->∃r,next F=some r/\Q r)->∃r,body next s=some r/\Q r) : ∀(n:Nat) (s:σ),P s->H s<n->∃r,Ai body n s=some r/\Q r
 | 0,s,_,h=>absurd h (Nat.not_lt_zero _)
 | n+1,s,h,hm=>J _ s h λF K M=>S3 P H Q J n F K (by omega)
def Hu {α:Type}{l:O α}{a b:Nat}(F:a<=b)(H:b<=l.length):part l (a:Int) (b:Int)=some ((l.drop a).take (b-a)):=by unfold part;rw[Xy (by omega)];simp
def HK {τ ρ:Type}(b:Prop)[Decidable b](x y:τ)(K:τ->C ρ):AC (λk=>if b then k x else k y) K=K (if b then x else y):=by unfold AC;split<;>rfl
def SB (l:O S):(bs l).toList=l:=by rw[Xd8];simp[bs]
def BK {n:Nat}(h:n<18446744073709551616):n<rp:=h
def AD {α:Type}{b:Nat}{l m:O α}(F:Xdi b 65536=true)(h:l.length+m.length<=1000000000):gE b l m=some (l++m):=by
 unfold gE;have F:=X29 F;rw[Xy];refine⟨?_,by omega⟩;calc _<=1000000000*65536:=Nat.mul_le_mul h F
  _<=2^47:=by decide
def As {α:Type}{l:O α}{i:Nat}(h:i<l.length):iX l (i:Int)=some l[i]:=by unfold iX;rw[Xy (by omega)];simp[h]
def F3 {α:Type}(pre:O α)(x:α)(t:O α):iX (pre++x::t) (pre.length:Int)=some x:=by rw[As (by simp)];simp
def AN {x:Int}(h:-9223372036854775808<=x/\x<=9223372036854775807):AQ x=x:=N7 rfl h
def AA {α F:Type}(a:α)(f:α->C F):(some a).bind f=f a:=Eq.trans rfl rfl
def AB {τ ρ:Type}(m:(τ->C ρ)->C ρ)(k:τ->C ρ):AC m k=m k:=Eq.trans rfl rfl
end Go.AX
end
section
namespace Go.AX
def wk {np:Nat}{s H:r9}(wS:((List.range np).all λr=>!(s.ob.getD r none).isSome || (H.ob.getD r none).isSome)=true:=by rfl)
  (tm:vN s H s.tm H.tm:=by
   repeat' (first
    | exact sJ.refl _
    | refine And.intro ?_ ?_
    | exact True.intro
    | exact sJ.norm _
    | exact sJ.fresh _ _ _ rfl rfl
    | exact sJ.su _ _ _ _ _ _ rfl (by first|rfl|(simp only[X10];omega)) (.inl rfl)
    | exact sJ.su _ _ _ _ _ _ rfl (by first|rfl|(simp only[X10];omega)) (.inr rfl)
    | exact sJ.wA _ _ _ (by first|rfl|(simp only[X10];omega)|(simp only[yx,X10,X11,X18,X17];omega))
    | exact sJ.th _ _ _ _ _ (by first|rfl|(simp only[X10];omega))
    | exact sJ.wC _ _ _ _ _ _ _ _ _ rfl (by first|rfl|(simp only[X10];omega)) ew (.inl rfl)
    | exact sJ.wC _ _ _ _ _ _ _ _ _ rfl (by first|rfl|(simp only[X10];omega)) ew (.inr rfl)
    | refine sJ.xp ?_
    | refine sJ.wb rfl ?_
    | refine sJ.xu rfl ?_
    | refine sJ.wo ?_
    | refine sJ.box _ _ _ _ rfl rfl rfl (Nat.zero_lt_succ _) ?_
    | exact rfl))
  (ob:uF s H s.ob H.ob:=by
   repeat' (first
    | exact sJ.refl _
    | refine And.intro ?_ ?_
    | exact rfl
    | exact True.intro
    | refine Exists.intro _ (And.intro rfl ?_)
    | exact .inl ⟨_,rfl,id,True.intro⟩
    | exact .inl ⟨_,rfl,λ_=>rfl,True.intro⟩
    | exact .inl ⟨_,rfl,id,.inr ⟨_,_,rfl,rfl,(by first|rfl|(simp only[X10];omega))⟩⟩
    | exact .inl ⟨_,rfl,id,.inl (X29 rfl)⟩
    | exact .inl ⟨_,rfl,id,.inl (Nat.le_of_eq (by assumption))⟩
    | exact .inr ⟨rfl,rfl,by decide⟩
    | exact .inl rfl
    | exact .inr ⟨_,_,_,rfl⟩
    | exact .inl ⟨_,rfl,(by first|rfl|(simp only[X10];omega))⟩
    | exact sJ.norm _
    | exact sJ.fresh _ _ _ rfl rfl
    | exact sJ.su _ _ _ _ _ _ rfl (by first|rfl|(simp only[X10];omega)) (.inl rfl)
    | exact sJ.su _ _ _ _ _ _ rfl (by first|rfl|(simp only[X10];omega)) (.inr rfl)
    | exact sJ.wA _ _ _ (by first|rfl|(simp only[X10];omega)|(simp only[yx,X10,X11,X18,X17];omega))
    | refine sJ.xp ?_
    | refine sJ.wb rfl ?_
    | refine sJ.xu rfl ?_
    | refine sJ.wo ?_
    | refine sJ.box _ _ _ _ rfl rfl rfl (Nat.zero_lt_succ _) ?_))
  (closed:M8 H=true:=by rfl):s5 np s H:=.mk wS tm ob closed
section
variable {α τ ρ:Type} {r:ρ} {np:Nat} {t:r9} {St:τ->r9} {k':τ->Option ρ} {v v':τ} {b:I} {X:Option ρ} {A:Prop} {F:Option α} {k:α->Option ρ}
def sj (h:k' v=some r)(H:s5 np t (St v):=by exact wk) :∃s,s5 np t s/\∃v,k' v=some r/\s=St v:=Ff H h
def Oz (h:(if b=true then X else k' v)=some r)(a:X=some r->A)(H:s5 np t (St v):=by exact wk):Hv b A (∃s,s5 np t s/\∃v,k' v=some r/\s=St v):=NQ a (λh=>Ff H h) h
def VZ (h:(if b=true then k' v else X)=some r)(a:X=some r->A)(H:s5 np t (St v):=by exact wk):Hv b (∃s,s5 np t s/\∃v,k' v=some r/\s=St v) A:=NQ (λh=>Ff H h) a h
def zk {H:Type}{P:r9}{J:H->r9}{Q:H->Option ρ}{v2:H}(h:(if b=true then k' v else Q v2)=some r)(U:s5 np t (St v):=by exact wk)(K:s5 np P (J v2):=by exact wk):Hv b (∃s,s5 np t s/\∃v,k' v=some r/\s=St v) (∃s,s5 np P s/\∃v,Q v=some r/\s=J v):=
 NQ (λh=>Ff U h) (λh=>Ff K h) h
def Ce {B:Prop}{Y:Option ρ}(h:(if b=true then X else Y)=some r)(H:X=some r->A)(J:Y=some r->B):Hv b A B:=NQ H J h
def sI {X:(r9->Prop)->Prop}{K:r9->Prop}(h:X K):tL np X K:=.go h
def Ar {X:(r9->Prop)->Prop}{K:r9->Prop}{m:(τ->Option ρ)->Option ρ}{k:τ->Option ρ}(h:AC m k=some r)(St:τ->r9) (H :∀k':τ->Option ρ,m k'=some r->X (λt=>∃s,s5 np t s/\∃v,k' v=some r/\s=St v)) (J :∀v,k v=some r->K (St v)):tL np X K:=Vy St H J h
variable {C:AV->O OB->Prop} {M:AV->O OB->Option (O Nat)->Prop} {M2:AV->O OB->Prop} {c:α->AV} {o:α->O OB}
def B1 (h:Xd F k=some r)(j :∀v,F=some v->C (c v) (o v))(n :∀v,k v=some r->M (c v) (o v) (some [])) :∃H gF b,C H gF/\M H gF b:=by obtain⟨v,g,h⟩:=Aa h;exact⟨_,_,_,j v g,n v h⟩
def QL (l:O Nat)(h:Xd F k=some r)(j :∀v,F=some v->C (c v) (o v))(n :∀v,k v=some r->M (c v) (o v) (some l)) :∃H gF b,C H gF/\M H gF b:=by obtain⟨v,g,h⟩:=Aa h;exact⟨_,_,_,j v g,n v h⟩
def ky (h:Xd F k=some r)(j :∀v,F=some v->C (c v) (o v))(n :∀v,k v=some r->M (c v) (o v) none) :∃H gF b,C H gF/\M H gF b:=by obtain⟨v,g,h⟩:=Aa h;exact⟨_,_,_,j v g,n v h⟩
def IZ {L:Nat}{N:Prop}(h:Xd F k=some r)(j :∀v,F=some v->C (c v) (o v))(e :∀v,(o v).length=L)(n :∀v,k v=some r->M2 (c v) (o v)) :∃H gF,C H gF/\(gF.length=L\/N)/\M2 H gF:=by obtain⟨v,g,h⟩:=Aa h;exact⟨_,_,j v g,.inl (e v),n v h⟩
def lR {L:O OB->Prop}{ob:O (Option OB)}{self:Nat}(h:Xd F k=some r)(j :∀v,F=some v->C (c v) (o v))(e:ob[self]?=some none)(n :∀v,k v=some r->M2 (c v) (o v)) :∃H gF,C H gF/\(L gF\/ob[self]?=some none)/\M2 H gF:=by obtain⟨v,g,h⟩:=Aa h;exact⟨_,_,j v g,.inr e,n v h⟩
variable {l m:O α} {f:α->D} {by' sz:Nat} {i i':Int} {kl:O α->Option ρ} {ML:O D->Prop} {MD:D->Prop}
def xG (h:Xd (gE by' l m) kl=some r)(e:A)(n :∀v,kl v=some r->ML (v.map f)):A/\(((l.map f).length+(m.map f).length)*by'<=2^47/\(l.map f).length+(m.map f).length<=2^47)/\∃zs,l.map f++m.map f=zs/\ML zs:=by obtain⟨v,g,h⟩:=Aa h;exact⟨e,dT g,_,mO g,n v h⟩
def vH {N:Prop}(h:Xd (gE by' [] m) kl=some r)(n :∀v,kl v=some r->N):((m.map f).length*by'<=2^47/\(m.map f).length<=2^47)/\N:=by obtain⟨v,g,h⟩:=Aa h;exact⟨kG g,n v h⟩
def Fq (h:Xd (iX l i) k=some r)(e :∀v,(f v).cells.length=sz)(n :∀v,k v=some r->MD (f v)):(0<=i/\i<((l.map f).length:Int))/\∃x,(l.map f).getD i.toNat default=x/\x.cells.length=sz/\MD x:=by obtain⟨v,g,h⟩:=Aa h;exact⟨I5 g,_,Nk g,e v,n v h⟩
def qO (h:Xd (part l i i') kl=some r)(n :∀v,kl v=some r->ML (v.map f)):(0<=i/\i<=i'/\i'<=((l.map f).length:Int))/\∃ys,((l.map f).drop i.toNat).take (i'.toNat-i.toNat)=ys/\ML ys:=by obtain⟨v,g,h⟩:=Aa h;exact⟨TO g,_,Lh g,n v h⟩
def qS (h:Xd (part l i l.length) kl=some r)(n :∀v,kl v=some r->ML (v.map f)) : (0<=i/\i<=((l.map f).length:Int)/\((l.map f).length:Int)<=((l.map f).length:Int))/\∃ys,((l.map f).drop i.toNat).take (((l.map f).length:Int).toNat-i.toNat)=ys/\ML ys:=by obtain⟨v,g,h⟩:=Aa h;exact⟨Yk g,_,Y5 g,n v h⟩
end
def MO {a b:Nat}(h:a=b:=by first|rfl|exact X10 _|(simp only[X10];done)|(simp only[X10];omega)|(simp only[X10,X21];omega)|(simp only[yx,X10,X21,X11,X18,X17,X20];omega)):a=b:=h
def fin {A:Prop}{ρ:Type}{a r:ρ}(h:some a=some r)(k:some a=some r->A:=by intro h;cases h;exact⟨rfl,rfl⟩):A:=k h
end Go.AX
end
section
namespace Go.AX
open Go
end Go.AX
end
