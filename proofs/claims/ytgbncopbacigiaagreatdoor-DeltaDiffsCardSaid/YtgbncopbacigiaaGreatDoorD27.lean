/-
  Texts of one proof, packed.
-/
import Derived.Test.YtgbncopbacigiaaGreatDoorD17
import Derived.Test.YtgbncopbacigiaaGreatDoorD23
import Derived.Test.YtgbncopbacigiaaGreatDoorD25
import Derived.Test.YtgbncopbacigiaaGreatDoorD26
import Derived.KernelRfl
set_option linter.all false
set_option maxRecDepth 100000
set_option maxHeartbeats 4000000
open List renaming length_map→X10,length_append→X11,length_cons→X12,length_nil→X13,mem_singleton→X14,length_drop→X17,length_take→X18,mem_cons_of_mem→X19,length_replicate→X20,length_set→X21,mem_append→X23
open Nat renaming le_of_ble_eq_true→X29
open Option renaming bind→Xd
open Int renaming toNat→Xi
open List renaming map→Wr,take→Xaq,drop→Xat,range→Xb4
open Go renaming reachBytes→Xak,maxLen→Xbl
open List.Pairwise renaming nil→Xbq
section
namespace Go.AX.Q29
open Go Go.AX Go.AX.sN
def uY:rZ:=⟨[],(⟨0,[],(⟨false,(0:j),(0:j)⟩:Addr),0,0,0,[],[],[]⟩:gH),[]⟩
def xb:r5:=⟨0,false,false,false,0,[],[]⟩
def ji:Dq uY=false:=by
 have:vK uY.gH=false:=by decide
 unfold Dq;rw[this];simp[uY]
def mb:uv uY:=⟨⟨by simp[uY],by simp[uY,tg],by simp[uY],by simp[uY],by simp[uY],by simp[uY]⟩,by simp[uY],by simp[uY]⟩
def ZJ:A5 xb=some 33:=by unfold A5 C2 xb;simp only[AB,AA];rfl
def lM {k m t g:Int}{u:rZ}{p:r5}(H:u=uY\/(uv u/\UV u.gH u.gT))(hp:p=xb \/∃n,MP n p/\1<=n/\n<=1000):RV ⟨k,m,t,g,u,p⟩:=by
 refine⟨?_,?_,?_,?_,?_⟩<;>dsimp only
 ·rcases H with rfl|h
  ·exact mb
  exact h.1
 ·intro h;rcases H with rfl|F
  ·rw[ji] at h;cases h
  exact F.2
 ·intro h;rcases hp with rfl|⟨n,F,_⟩
  ·unfold K6 at h;rw[ZJ] at h;cases h
  exact⟨n,F⟩
 ·rcases hp with rfl|⟨n,F,_⟩
  ·exact⟨by simp[xb],by simp[xb]⟩
  have:=F.sm;exact⟨by have:=this.d;omega,by have:=this.f;omega⟩
 unfold K6;rcases hp with rfl|⟨n,F,J,K⟩
 ·rw[ZJ];rfl
 rw[Ya F ⟨J,K⟩];rfl
def fb {d:oX}{s:re}(F:Dk d)(V:WS s):Ok (DY d s) λr=>RV r.1/\Dk r.2:=by
 have hn:=V.n;let Q:r5->Prop:=λp=>p=xb \/∃n,MP n p/\1<=n/\n<=1000;unfold DY;refine .bind (AK F (by split<;>omega)) ?_;rintro⟨a,d⟩ ⟨Y,U,F⟩;dsimp only at Y U F⊢;have a3:a < 5:=by split at U<;>omega
 rw[AN (x:=101+a) (by omega)];refine .bind (AK F (by omega)) ?_;rintro⟨b,d⟩ ⟨b1,b2,F⟩;dsimp only at b1 b2 F⊢;refine .bind (.iX (by simp;omega)) λk _=>?_;refine .join (λx:oX×sX=>Dk x.1/\RV x.2) (λk6 K=>.ite (λ_=>.bind (fM F (by omega)) λ⟨u,d⟩ ⟨⟨hu,_,P⟩,F⟩=>K _ ⟨F,lM (.inr ⟨hu,P⟩) (.inl rfl)⟩) λ_=>?_) λ⟨d,r⟩ ⟨F,Z⟩=>.ret ⟨Z,F⟩;refine .join (λx:oX×Int×Int×Int×I×I×I×Int×(O Int)×(O sr)=>Dk x.1/\Q ⟨x.2.2.2.1,x.2.2.2.2.1,x.2.2.2.2.2.1,x.2.2.2.2.2.2.1,x.2.2.2.2.2.2.2.1,x.2.2.2.2.2.2.2.2.1,x.2.2.2.2.2.2.2.2.2⟩) (λk9 M=>.ite (λ_=>.bind (AK F (by omega)) ?_) λ_=>?_) ?_
 ·rintro⟨c,d⟩ ⟨_,_,F⟩;dsimp only at F⊢;refine .bind (AK F (by omega)) ?_;rintro⟨c,d⟩ ⟨_,_,F⟩;dsimp only at F⊢;exact .bind (.iX (by simp;omega)) λ_ _=>M _ ⟨F,.inl rfl⟩
 ·refine .join (λx:oX×Int×Int×I×I×I×Int×(O Int)×(O sr)=>Dk x.1/\Q ⟨x.2.2.1,x.2.2.2.1,x.2.2.2.2.1,x.2.2.2.2.2.1,x.2.2.2.2.2.2.1,x.2.2.2.2.2.2.2.1,x.2.2.2.2.2.2.2.2⟩) (λa6 H=>.ite (λ_=>.bind (JZ F) λ⟨p,d⟩ ⟨hp,F⟩=>H _ ⟨F,.inr ⟨_,hp,by omega⟩⟩) λ_=>?_) λ⟨d,g,q⟩ ⟨F,hq⟩=>M _ ⟨F,hq⟩;exact .join (λx:oX×Int=>Dk x.1) (λa7 J=>.ite (λ_=>.bind (AK F (by omega)) λ⟨_,d⟩ ⟨_,_,F⟩=>J _ F) λ_=>J _ F) λ⟨d,x⟩ F=>H _ ⟨F,.inl rfl⟩
 rintro⟨d,t,g,pa,p4,p6,ph,pp,pd,pf⟩ ⟨F,hp⟩;exact K _ ⟨F,lM (.inl rfl) hp⟩
inductive tW:re->List sX->re->Prop
 | nil (s:re):tW s [] s
 | snoc {s t u:re} {l:List sX} {r:sX}:tW s l t->WS t->RV r->(UQ t r).2.2=0->(UQ t r).1=Fo u->WS u->tW s (l++[r]) u
def Yl {d:oX}(F:Dk d):Ok (C0 d) λr=>∃s,r.1=Fo s/\WS s/\WS r.2.2.1/\tW r.2.2.1 r.2.1 s/\r.2.1.length<=30/\Dk r.2.2.2:=by
 unfold C0;refine .bind (kL F) ?_;rintro⟨s,d⟩ ⟨P,F⟩;dsimp only at P F⊢;rw[gX P,AA];refine .bind (AK F (by omega)) ?_;rintro⟨m,d⟩ ⟨m1,m2,F⟩;dsimp only at m1 m2 F⊢;rw[AN (by omega)];refine .join (λx:oX×sM×O sX=>Dk x.1/\∃t,x.2.1=Fo t/\WS t/\tW s x.2.2 t/\x.2.2.length<=30) (λk hk=>?_) λ⟨d,c,l⟩ ⟨F,t,h1,h2,h3,h4⟩=>.ret ⟨t,h1,h2,P,h3,h4,F⟩;refine .sP (λx:Int×oX×sM×O sX=>0<=x.1/\x.1<=30/\Dk x.2.1/\(∃t,x.2.2.1=Fo t/\WS t/\tW s x.2.2.2 t)/\x.2.2.2.length+x.1.toNat<=30) (λs=>s.1.toNat) ⟨by dsimp only;omega,by dsimp only;omega,F,⟨s,rfl,P,.nil s⟩,by simp;omega⟩ (BK (by dsimp only;omega)) ?_;rintro next ⟨i,d,c,l⟩ ⟨i1,i2,F,⟨t,V,K,J⟩,hl⟩ U
 dsimp only at i1 i2 F V J hl⊢;subst V;refine .join (λx:I×oX=>Dk x.2/\(x.1=true->0<i)) (λk2 H=>.ite (λh=>?_) λ_=>H _ ⟨F,by simp⟩) ?_
 ·unfold F8;rw[AA];exact H _ ⟨F,λ_=>by simpa using h⟩
 rintro⟨b,d⟩ ⟨F,Y⟩;dsimp only at F Y⊢;refine .ite (λh=>.bind (fb F K) ?_) λ_=>hk _ ⟨F,t,rfl,K,J,by dsimp only;omega⟩;have hi:=Y h;rintro⟨r,d⟩ ⟨Q,F⟩;dsimp only at Q F⊢;rw[eB K Q,AA];refine .join (λx:sM×O sX=>(∃u,x.1=Fo u/\WS u/\tW s x.2 u)/\x.2.length<=l.length+1) (λk2 H=>.ite (λh0=>.bind (.gE (by decide) (by simp;omega)) λw Z=>?_) λ_=>H _ ⟨⟨t,rfl,K,J⟩,by dsimp only;omega⟩) ?_
 ·have M:(UQ t r).2.2=0:=by simpa using h0
  obtain⟨u,e1,e2⟩:=mC K Q M;exact H _ ⟨⟨u,e1,e2,by rw[Z];exact .snoc J K Q M e1 e2⟩,by rw[Z];simp⟩
 rintro⟨c3,l3⟩ ⟨z1,z2⟩;dsimp only at z1 z2⊢;rw[AN (by omega)];exact U _ ⟨by dsimp only;omega,by dsimp only;omega,F,z1,by dsimp only;omega⟩ (by dsimp only;omega)
def IA {α:Type}(x:α)(t:O α):part (x::t) 1 ((x::t).length:Int)=some t:=by have:=Hu (l:=x::t) (a:=1) (b:=(x::t).length) (by simp) (Xa8 _);refine this.trans ?_;simp
def MC {r:gD}(h:tC r.gH):ET r=some r:=by unfold ET;rw[fp h,AA]
def fK {l:O gD}(F:l.length<=100000)(h :∀r∈l,tC r.gH):F2 l=some l:=by
 unfold F2;rw[AB];refine (TB F ?_).trans rfl;intro next x j v H J
 rw[MC (h x H),AA,AD (by decide) (by simp;omega),AA]
def jO {l:O gD}(F:l.length<=100000)(h :∀r∈l,tC r.gH):Az l=some l:=by
 unfold Az;rw[AB];refine (TB F ?_).trans rfl;intro next x j v H J
 rw[Lx (h x H),AA,AD (by decide) (by simp;omega),AA]
def Zm {to:Int}{a b:O gD}(V:a.length+b.length<=60000)(Y :∀r∈b,tC r.gH):GV to a b=some ((CX kR Ab Dl a b).map (uA to)):=by
 unfold GV;rw[AB];refine (Cm (λs:O gD×O gD×O rG=>s.1.length+s.2.1.length+s.2.2.length<=60000/\∀r∈s.2.1,tC r.gH) (λs=>s.1.length+s.2.1.length) (λs=>some (s.2.2++(CX kR Ab Dl s.1 s.2.1).map (uA to))) ?_ rp (a,b,[]) ⟨by simpa using V,Y⟩ (BK (by dsimp only;omega))).trans (by simp);rintro next ⟨x,y,v⟩ ⟨F,H⟩ J
 dsimp only at F H J⊢;have P :∀c:rG,v.length+1<=60000->gE (α:=rG) 240 v [c]=some (v++[c]):=λc Z=>AD (by decide) (by simp;omega);cases x with
 | nil=>
  cases y with
  | nil=>rw[AB,Xj (by simp)];show (if false=true then _ else _)=_;rw[Xj (by decide)];unfold CX;simp
  | cons y t=>
   have K:v.length+1<=60000:=by simp only[X13,X12] at F;omega
   rw[AB,Xj (by simp),Wd (p:=(((y::t).length:Int)>0)) (by simp)];show (if true=true then _ else _)=_;rw[Xy rfl,AB,Xy (by rfl)];dsimp only;rw[AB,Xj (by decide),AB,Xy (by decide)];dsimp only;rw[AB,Xy rfl,EW,AA,AA,MC (H y (by simp)),AA,P _ K,AA];dsimp only;rw[AB,Xj (by decide)];dsimp only;rw[AB,Xy (by decide),IA,AA];dsimp only;refine (J _ ⟨by simp only[X13,X12,X11] at F⊢;omega,λr M=>H r (X19 _ M)⟩ (by simp)).trans ?_;dsimp only;conv=>rhs;unfold CX
   simp[uA,kR]
 | cons x s=>
  cases y with
  | nil=>
   have K:v.length+1<=60000:=by simp only[X13,X12] at F;omega
   rw[AB,Xy (by simp)];show (if true=true then _ else _)=_;rw[Xy rfl,AB,Xj (by simp;omega),AB,Xy (by rfl)];dsimp only;rw[AB,Xy (by decide),EW,AA,P _ K,AA];dsimp only;rw[AB,Xy (by decide),IA,AA];dsimp only;rw[AB,Xj (by decide)];dsimp only;refine (J _ ⟨by simp only[X13,X12,X11] at F⊢;omega,by simp⟩ (by simp)).trans ?_;dsimp only;conv=>rhs;unfold CX
   simp[uA,kR];rfl
  | cons y t=>
   have K:v.length+1<=60000:=by simp only[X12] at F;omega
   have e1:E0 x.fv y.fv=some (Ab (kR x) (kR y)):=Mc _ _;rw[AB,Xy (by simp)];show (if true=true then _ else _)=_;rw[Xy rfl,AB,Xj (by simp;omega),AB,Xj (by simp;omega),EW,AA,EW,AA,e1,AA];dsimp only;conv=>rhs;unfold CX
   generalize Ab (kR x) (kR y)=c;rw[AB];by_cases Q:c<0
   ·rw[Xy (by simpa using Q),AA,P _ K,AA,Xy Q];dsimp only;rw[AB,Xy (by simp;omega),IA,AA];dsimp only;rw[AB,Xj (by simp;omega)];dsimp only;refine (J _ ⟨by simp only[X12,X11,X13] at F⊢;omega,H⟩ (by simp only[X12];omega)).trans ?_;simp[uA,kR];rfl
   rw[Xj (by simpa using Q),Xj Q,AB];by_cases U:0<c
   ·rw[Xy (by simpa using U),Xy U];dsimp only;rw[AB,Xy rfl,AA,AA,MC (H y (by simp)),AA,P _ K,AA];dsimp only;rw[AB,Xj (by simp;omega)];dsimp only;rw[AB,Xy (by simp;omega),IA,AA];dsimp only;refine (J _ ⟨by simp only[X12,X11,X13] at F⊢;omega,λr M=>H r (X19 _ M)⟩ (by simp only[X12];omega)).trans ?_;simp[uA,kR]
   rw[Xj (by simpa using U),Xj U,AA,AA,YJ,AA];cases hq:Dl x y
   ·show AC _ _=_;rw[AB];show (if true=true then _ else _)=_;rw[Xy rfl,AA,AA,MC (H y (by simp)),AA,P _ K,AA];dsimp only;rw[AB,Xy (by simp;omega),IA,AA];dsimp only;rw[AB,Xy (by simp;omega),IA,AA];dsimp only;refine (J _ ⟨by simp only[X12,X11,X13] at F⊢;omega,λr M=>H r (X19 _ M)⟩ (by simp only[X12];omega)).trans ?_;simp[uA,kR]
   show AC _ _=_;rw[AB,Xj (by decide)];dsimp only;rw[AB,Xy (by simp;omega),IA,AA];dsimp only;rw[AB,Xy (by simp;omega),IA,AA];dsimp only;refine (J _ ⟨by simp only[X12] at F⊢;omega,λr M=>H r (X19 _ M)⟩ (by simp only[X12];omega)).trans ?_;simp
def uI (c:rG):fv×C gD:=(c.fv,if c.Has=true then some c.gD else none)
def jn (to:Int)(c:fv×C gD):uI (uA to c)=c:=by obtain⟨p,o⟩:=c;cases o<;>rfl
def wq (c:rG):Prop:=sN.uM kR (uI c)/\(c.Has=true->tC c.gD.gH)
def nU {c:rG}(h:wq c)(F:c.Has=true):kR c.gD=c.fv:=h.1 c.gD (by unfold uI;rw[Xy F])
def jM (a b:fv):fv.rO a b=decide (a=b):=by
 by_cases h:a=b
 ·rw[Wd h];exact (fv.rb a b).2 h
 rw[Ws h];cases e:fv.rO a b with
 | false=>rfl
 | true=>exact absurd ((fv.rb a b).1 e) h
def Va (p:fv)(l:O gD):IW kR p l=l.filter λr=>!fv.rO r.fv p:=by unfold IW kR;congr 1;funext r;rw[jM]
def Ue (v:O gD)(c:rG):SG kR v (uI c)=(IW kR c.fv v)++(if c.Has=true then [c.gD] else []):=by
 unfold SG uI;by_cases h:c.Has=true
 ·rw[Xy h,Xy h]
 rw[Xj h,Xj h];simp
def NG (p:fv)(l:O gD):(IW kR p l).length<=l.length:=Xcb _ _
def fj {l:O gD}{c:rG}(F:l.length<=1000000):Ac l c=some (IW kR c.fv l,c):=by rw[Va];exact ja (f:=EV) (q:=λr=>!fv.rO r.fv c.fv) (z:=uN) (c:=c) (λx=>by unfold EV;rw[Bool.not_not]) F
def vY (v:O gD)(c:rG):O gD:=SG kR v (uI c)
def iU (n:Nat)(v:O gD):Prop:=v.length+n<=100000
def Yg (v:O gD)(c:rG):(vY v c).length<=v.length+1:=by have:=NG c.fv v;unfold vY;rw[Ue,X11];split<;>simp<;>omega
def o7 {ρ:Type}{next:O gD->C ρ}{body:(O gD->C ρ)->rG->Nat->O gD->C ρ}{t:O rG}{l:O gD}(F:iU t.length l) (H :∀next x j l m,x∈t->iU (m+1) l->body next x j l=next (vY l x)):AI next body t 0 l=next (t.foldl vY l):=by refine JI vY iU t 0 l ?_ H F;intro x _ m l h;have J:l.length+(m+1)<=100000:=h;have:=Yg l x;show (vY l x).length+m<=100000;omega
def lJ (m:O rG)(v:O gD):m.foldl vY v=QR kR v (m.map uI):=by unfold QR;rw[List.foldl_map];rfl
def qo (r:gD):=T0 r.fv
def S9 {l:O gD}{m:O rG}(K:si kR Ab l)(V:l.length+m.length<=90000)(M :∀r∈l,tC r.gH)(F :∀c∈m,wq c):E1 l m=some (SI kR Ab l (m.map uI)):=by
 unfold E1;rw[fK (by omega) M,AA,AB];refine (o7 (by show l.length+m.length<=100000;omega) ?_).trans ?_
 ·intro next c j v n H Y
  have Z:v.length+(n+1)<=100000:=Y;have hd:=NG c.fv v;have J:vY v c=_:=Ue v c;rw[fj (by omega),AA,J];dsimp only;rw[AB];by_cases h:c.Has=true
  ·rw[Xy h,Xy h,MC ((F c H).2 h),AA,AD (by decide) (by simp;omega),AA]
  rw[Xj h,Xj h,Xag]
 rw[lJ];have P:(QR kR l (m.map uI)).length<=l.length+m.length:=by
  rw[<- lJ];clear F V M K;induction m generalizing l with
  | nil=>simp
  | cons c t ih=>have Q:=Yg l c;have U:=ih (l:=vY l c);rw[Xai,X12];omega
 obtain⟨r,Q,U,h3⟩:=kh (key:=qo) (cmp:=Fv) (λa b=>rfl) (λa b=>by unfold Fv;rw[Mc];rfl) (l:=QR kR l (m.map uI)) (by omega);dsimp only;rw[Q,AA];congr 1;refine Z1 Ap K (λc H=>?_) U (h3.imp λ{a b} h=>?_)
 ·obtain⟨x,hx,rfl⟩:=Xa0.1 H;exact (F x hx).1
 unfold tR at h;exact of_decide_eq_false h
def kB {l1 l2:O gD}{r:gD}(H:At kR Ab (kR r) l1 l2):U8 kR Ab r (l1++l2)=l1++r::l2:=by unfold U8;rw[Xaa,Xaa,Ii λx F=>Wd (H.1 x F),IN λx F=>Ws (by have:=H.2 x F;omega), IN (l:=l1) λx F=>Ws (by have:=H.1 x F;omega),Ii (l:=l2) λx F=>Wd (H.2 x F)];simp
def ZX {ρ:Type}{l:O gD}{p:fv}(Y:l.length<=100000)(K:O gD->C ρ) : AI (σ:=(O gD)) (λM=>K M) (λF (H:gD) i12 M=>AC (τ:=(O gD)) (λJ=>if (!(fv.rO H.fv p)) then Xd (gE (α:=gD) 192 M ([H]:O gD)) λP=>J P else J M ) λQ=>F Q ) l 0 []=K (IW kR p l):=by
 have h:=JI (K:=K) (body:=λF (H:gD) i12 M=>AC (τ:=(O gD)) (λJ=>if (!(fv.rO H.fv p)) then Xd (gE (α:=gD) 192 M ([H]:O gD)) λP=>J P else J M ) λQ=>F Q) (λ(v:O gD) x=>v++(if (!fv.rO x.fv p)=true then [x] else [])) (λm v=>v.length+m<=100000) l 0 [] (λx _ m v h=>by
  have U:v.length+(m+1)<=100000:=h;show (v++_).length+m<=100000;rw[X11];split<;>simp<;>omega) (λnext x j v m Z h=>by
  have U:v.length+(m+1)<=100000:=h;rw[AB];by_cases e:(!fv.rO x.fv p)=true
  ·rw[Xy e,Xy e,AD (by decide) (by simp;omega),AA]
  rw[Xj e,Xj e,Xag]) (by show [].length+_<=100000;simp;omega)
 refine h.trans ?_;congr 1;rw[Va];have go :∀(t v:O gD),t.foldl (λ(v:O gD) x=>v++(if (!fv.rO x.fv p)=true then [x] else [])) v=v++t.filter λr=>!fv.rO r.fv p:=by
  intro t;induction t with
  | nil=>intro v;simp
  | cons x t V=>intro v;rw[Xai,V,List.filter_cons];split<;>simp
 simpa using go l []
def kD {ρ:Type}{l1 l2:O gD}{p:fv}(Y :∀q∈l1,Ab (kR q) p<0)(Z :∀y t,l2=y::t->¬ Ab (kR y) p<0)(hl:(l1++l2).length<=1000000)(K:Int->C ρ) : AC (τ:=Int) (λM=>Ai (σ:=Int) (λF H=>AC (τ:=I) (λJ=>if (decide (H<((l1++l2).length:Int))) then Xd (iX (l1++l2) H) λP=>Xd (BP P.fv p) λQ=>J (cond true (decide (Q<0)) false) else J false ) λU=>if U then F (AQ (H+1)) else M H ) rp 0 ) K=K (l1.length:Int):=by
 rw[AB];have V:(l1++l2).length=l1.length+l2.length:=by simp
 refine Cm (λv:Int=>0<=v/\v<=l1.length) (λv=>(l1.length-v).toNat) (λ_=>K (l1.length:Int)) ?_ rp 0 ⟨by omega,by omega⟩ (BK (by omega));intro next v hv ih
 obtain⟨v,rfl⟩ :∃n:Nat,v=(n:Int):=⟨v.toNat,by omega⟩;rw[AB];by_cases h:v<l1.length
 ·rw[Xy (by simp;omega),As (by omega),AA,EH,AA];have:(l1++l2)[v]'(by omega)=l1[v]:=Xa2 h;rw[this,show decide (Ab l1[v].fv p<0)=true from Wd (Y _ (Wx h))];show (if true=true then _ else _)=_;rw[Xy rfl,AN (by omega)];exact ih _ ⟨by omega,by omega⟩ (by omega)
 have e:v=l1.length:=by omega
 subst e;cases l2 with
 | nil=>rw[Xj (by simp)];show (if false=true then _ else _)=_;rw[Xj (by simp)]
 | cons y t=>rw[Xy (by simp;omega),F3,AA,EH,AA];rw[show decide (Ab y.fv p<0)=false from Ws (Z y t rfl)];show (if false=true then _ else _)=_;rw[Xj (by simp)]
def mi {ρ:Type}{l1 l2:O gD}{r:gD}(Q:tC r.gH)(V:(l1++l2).length<=1000000)(K:O gD->C ρ) : (Xd (sR (0<=(l1.length:Int)/\(l1.length:Int)<=((l1++l2).length:Int)/\((l1++l2).length:Int)<=((l1++l2).length:Int))) λ_=>Xd (gE (α:=gD) 192 [] (Xaq (Xi ((l1++l2).length:Int)-Xi (l1.length:Int)) (Xat (Xi (l1.length:Int)) (l1++l2)))) λ_=>Xd (sR ((l1.length:Int)<=(l1.length:Int)/\(l1.length:Int)<=((l1++l2).length:Int))) λ_=>Xd (part (l1++l2) 0 (l1.length:Int)) λH=>Xd (Az ([r]:O gD)) λJ=>Xd (gE (α:=gD) 192 H J) λM=>Xd (gE (α:=gD) 192 M (Xaq (Xi ((l1++l2).length:Int)-Xi (l1.length:Int)) (Xat (Xi (l1.length:Int)) (l1++l2)))) λP=>K P)=K (l1++r::l2):=by
 have F:(l1++l2).length=l1.length+l2.length:=by simp
 have U:Xaq (Xi ((l1++l2).length:Int)-Xi (l1.length:Int)) (Xat (Xi (l1.length:Int)) (l1++l2))=l2:=by rw[Xa7,Xa7,List.drop_left,F,Nat.add_sub_cancel_left,Xcj]
 have hp:part (l1++l2) 0 (l1.length:Int)=some l1:=by have:=Hu (l:=l1++l2) (a:=0) (b:=l1.length) (by omega) (by omega);simpa using this
 rw[TF ⟨by omega,by omega,by omega⟩,U,AD (by decide) (by simp;omega),AA,TF ⟨by omega,by omega⟩,hp,AA,NK Q,AA,AD (by decide) (by simp;omega),AA,AD (by decide) (by simp;omega),AA];simp
def Md {v:O gD}{c:rG}(H:si kR Ab v)(J:wq c):(c.Has=true->∃l1 l2,IW kR c.fv v=l1++l2/\At kR Ab c.fv l1 l2/\PN kR Ab v (uI c)=l1++c.gD::l2)/\(c.Has≠true->PN kR Ab v (uI c)=IW kR c.fv v):=by
 unfold PN uI;refine⟨λh=>?_,λh=>?_⟩
 ·have K:=nU J h;rw[Xy h];dsimp only;have M:si kR Ab (IW kR c.fv v):=EP H;rcases split Ap M c.fv with ⟨l1,x,l2,e,e2,_⟩|⟨l1,l2,e,F⟩
  ·have P:x∈IW kR c.fv v:=by rw[e];simp
   have:=(Xah.1 P).2;rw[e2] at this;simp at this
  exact⟨l1,l2,e,F,by rw[e];exact kB (K▸F)⟩
 rw[Xj h]
def xL (v:O gD)(c:rG):O gD:=PN kR Ab v (uI c)
def iQ (n:Nat)(v:O gD):Prop:=si kR Ab v/\v.length+n<=100000
def iy {v:O gD}{c:rG}(F:si kR Ab v)(H:wq c):(xL v c).length<=v.length+1:=by
 have J:=NG c.fv v;unfold xL;by_cases h:c.Has=true
 ·obtain⟨K,M,e1,_,e2⟩:=(Md F H).1 h;rw[e2];rw[e1] at J;simp at J⊢;omega
 rw[(Md F H).2 h];omega
def Ul {l:O gD}{m:O rG}(Q:si kR Ab l)(hl:l.length+m.length<=90000)(U :∀r∈l,tC r.gH)(M :∀c∈m,wq c):GM l m=some (SI kR Ab l (m.map uI)):=by
 unfold GM;rw[jO (by omega) U,AA,AB];refine (JI (K:=λP=>some P) xL iQ m 0 l ?_ ?_ ⟨Q,by omega⟩).trans ?_
 ·rintro c F n v ⟨H,V⟩;have:=iy H (M c F);exact⟨lF Ap H _,by omega⟩
 ·rintro next c j v n F ⟨H,V⟩
  have Y:=NG c.fv v;rw[AB,AB];refine (ZX (by omega) _).trans ?_;dsimp only;rw[AB];unfold xL;by_cases h:c.Has=true
  ·obtain⟨l1,l2,e1,J,e2⟩:=(Md H (M c F)).1 h;rw[Xy h,e2,e1];rw[e1] at Y;rw[kD J.1 (λy t Z=>by have:=J.2 y (by rw[Z];simp);omega) (by omega)];exact mi ((M c F).2 h) (by omega) _
  rw[Xj h,(Md H (M c F)).2 h]
 unfold SI;rw[List.foldl_map];rfl
def vX (k:Nat):fv:=(DD (k:Int)).getD ⟨⟨false,0,0⟩,0⟩
def nD {k:Int}(h:0<=k/\k<8):DD k=some (vX k.toNat):=by obtain⟨p,e,_⟩:=WI h;unfold vX;rw[Int.toNat_of_nonneg h.1,e];rfl
def lx :∀j,j<8->∀k,k<8->j<k->Ab (vX j) (vX k)<0:=by
 have h:(Xb4 8).all (λj=>(Xb4 8).all λk=>!(decide (j<k)) || decide (Ab (vX j) (vX k)<0))=true:=by kernel_rfl
 intro j H k J F;have K:=Wo.1 h j (Xc4.2 H);have M:=Wo.1 K k (Xc4.2 J);simpa[F] using M
structure BL (i:Int)(l:List gD):Prop where
 n:l.length<=i
 a:si kR Ab l
 k :∀r∈l,(∃j:Nat,(j:Int)<i/\kR r=vX j)/\tC r.gH
def BL.mono {i:Int}{l:O gD}(h:BL i l):BL (i+1) l:=⟨by have:=h.n;omega,h.a,λr F=>by
 obtain⟨⟨j,K,H⟩,J⟩:=h.k r F
 exact⟨⟨j,by omega,H⟩,J⟩⟩
def BL.snoc {i:Int}{l:O gD}{r:gD}(h:BL i l)(U:0<=i/\i<8)(J:kR r=vX i.toNat)(K:tC r.gH):BL (i+1) (l++[r]):=by
 refine⟨by have:=h.n;simp;omega,?_,λx F=>?_⟩
 ·refine Xb0.2 ⟨h.a,by simp,λx F y M=>?_⟩;obtain⟨⟨j,P,H⟩,_⟩:=h.k x F;rw[X14.1 M,H,J];exact lx j (by omega) _ (by omega) (by omega)
 rcases X23.1 F with F|F
 ·obtain⟨⟨j,P,H⟩,Q⟩:=h.k x F;exact⟨⟨j,by omega,H⟩,Q⟩
 rw[X14.1 F];exact⟨⟨i.toNat,by omega,J⟩,K⟩
def fO {a b:O gD}(K:si kR Ab a)(M:si kR Ab b) :∀c∈CX kR Ab Dl a b,∀r,c.2=some r->r∈b:=by
 rw[<- H7 Ap Dl a b K M];intro c P r H;obtain⟨p,_,hp⟩:=List.mem_filterMap.1 P;unfold Da at hp;cases J:Bi kR a p with
 | none=>
  rw[J] at hp;cases F:Bi kR b p with
  | none=>rw[F] at hp;cases hp
  | some y=>rw[F] at hp;cases hp;cases H;exact (Gl F).1
 | some x=>
  rw[J] at hp;cases F:Bi kR b p with
  | none=>rw[F] at hp;cases hp;cases H
  | some y=>
   rw[F] at hp;dsimp only at hp;split at hp
   ·cases hp
   cases hp;cases H;exact (Gl F).1
def V3 {to:Int}{a b:O gD}(F:si kR Ab a)(H:si kR Ab b)(K :∀r∈b,tC r.gH) :∀c∈(CX kR Ab Dl a b).map (uA to),wq c:=by
 intro c M;obtain⟨x,J,rfl⟩:=Xa0.1 M;refine⟨by rw[jn];exact gJ Ap F H x J,λh=>?_⟩;obtain⟨p,o⟩:=x;cases o with
 | none=>cases h
 | some r=>exact K r (fO F H _ J r rfl)
def XS {d:oX}{to:Int}(F:Dk d):Ok (C5 d to) λr=>(r.1.length<=16/\∀c∈r.1,wq c)/\Dk r.2:=by
 unfold C5;refine .join (λx:oX×O gD×O gD=>Dk x.1/\BL 8 x.2.1/\BL 8 x.2.2) (λk1 V=>?_) ?_
 ·refine .sP (λs:Int×oX×O gD×O gD=>(0<=s.1/\s.1<=8)/\Dk s.2.1/\BL s.1 s.2.2.1/\BL s.1 s.2.2.2) (λs=>(8-s.1).toNat)
   ⟨⟨by simp,by simp⟩,F,⟨by simp,Xbq,by simp⟩,⟨by simp,Xbq,by simp⟩⟩ (BK (by dsimp only;omega)) ?_
  rintro next ⟨i,d,a,b⟩ ⟨⟨Y,i2⟩,F,J,H⟩ Z
  dsimp only at Y i2 F J H Z⊢;have a1:=J.n;have a6:=H.n;refine .ite (λh=>?_) λh=>?_
  ·have h8:i<8:=by simpa using h
   rw[nD ⟨Y,h8⟩,AA];refine .bind (AK F (by omega)) ?_;rintro⟨m,d⟩ ⟨m1,m2,F⟩;dsimp only at m1 m2 F⊢;rw[Qe,AA,AN (x:=101+m) (by omega)];dsimp only;refine .bind (TP (by omega) _) λpt _=>.bind (AK F (by omega)) ?_;rintro⟨K,d⟩ ⟨_,_,F⟩;dsimp only at F⊢;refine .bind (AK F (by omega)) ?_;rintro⟨w,d⟩ ⟨_,_,F⟩;dsimp only at F⊢;have sm :∀K:Int,tC (⟨0,[⟨false,[101+m]⟩],pt,K,-1,-1,[],[],[]⟩:gH):=λK=>⟨by simp,by simp[tg],by simp,by simp,by simp,by simp⟩;have put :∀{l:O gD} (K:Int),BL i l->BL (i+1) (l++[⟨vX i.toNat,101+m,⟨0,[⟨false,[101+m]⟩],pt,K,-1,-1,[],[],[]⟩⟩]):=λK hl=>hl.snoc ⟨Y,h8⟩ rfl (sm K);refine .join (λx:O gD×O gD=>BL (i+1) x.1/\BL (i+1) x.2) (λa7 M=>?_) ?_
   ·refine .ite (λ_=>.bind (.gE (by decide) (by simp;omega)) λu U=>M _ ⟨U▸put K J,H.mono⟩) λ_=>?_;refine .join (λx:O gD×O gD=>BL (i+1) x.1/\BL (i+1) x.2) (λa8 P=>?_) λ⟨x,y⟩ h=>M _ h;refine .ite (λ_=>.bind (.gE (by decide) (by simp;omega)) λu U=>P _ ⟨J.mono,U▸put K H⟩) λ_=>?_;refine .join (λx:O gD×O gD=>BL (i+1) x.1/\BL (i+1) x.2) (λaa Q=>?_) λ⟨x,y⟩ h=>P _ h;exact .ite (λ_=>.bind (.gE (by decide) (by simp;omega)) λu U=>.bind (.gE (by decide) (by simp;omega)) λw hw=>Q _ ⟨U▸put K J,hw▸put 5 H⟩) λ_=>Q _ ⟨J.mono,H.mono⟩
   rintro⟨x,y⟩ ⟨hx,hy⟩;dsimp only at hx hy⊢;rw[AN (by omega)];exact Z _ ⟨⟨by dsimp only;omega,by dsimp only;omega⟩,F,hx,hy⟩ (by dsimp only;omega)
  have:i=8:=by simp only[Xe] at h;omega
  subst this;exact V _ ⟨F,J,H⟩
 rintro⟨d,a,b⟩ ⟨F,J,H⟩;dsimp only at F J H⊢;have h1:=J.n;have h2:=H.n;have hs :∀r∈b,tC r.gH:=λr hr=>(H.k r hr).2;rw[XT J.a H.a (by omega) hs,AA];refine .ret ⟨⟨?_,V3 J.a H.a hs⟩,F⟩;have:=FH (key:=kR) (cmp:=Ab) (same:=Dl) a b;show (Wr (uA to) _).length<=16;rw[X10];omega
def X8 (l:O rG):C3 l l=some true:=by
 unfold C3
 rw[Xj (by simp),AB,HI (l:=l) λnext i x F=>by
  rw[AB,FI F,AA,Xj (by simp),AA,(fv.rb x.fv x.fv).2 rfl,Xj (by decide),AA,Xj (by simp),AA,JY,AA]
  rfl]
def OX (l:O gD):CM l l=some true:=by
 unfold CM
 rw[Xj (by simp),AB,HI (l:=l) λnext i x F=>by
  rw[FI F,AA,JY,AA,Xj (by decide)]]
def XN:H6=some true:=by kernel_rfl
def mE (a0:O Int)(Q:Int)(h0:a0.length<=Xbl/\a0.length*8<=Xak/\∀a∈a0,sL a)(_:sL Q):Ea a0 Q=some true:=by
 refine ok_eq ?_;unfold Ea Lu;rw[AA];refine .bind (Yl (mT h0.1)) ?_;rintro⟨c,l1,s1,d⟩ ⟨s,hc,P,_,_,_,F⟩;dsimp only at hc F⊢;refine .bind (Yl F) ?_;rintro⟨x,l2,s2,d⟩ ⟨t,hx,ht,_,_,_,F⟩;dsimp only at hx F⊢;subst hc hx;have K :∀{s:re},WS s->∀l∈(Fo s).rQ,si kR Ab l/\l.length<=16384/\∀r∈l,tC r.gH:=λ{s} P l hl=>by obtain⟨q,_,rfl⟩:=Xa0.1 (show l∈s.fI.map (λq=>G1 s q.r4) from hl);exact⟨QM P.sv.l P.vs.pre _,Q0 P.sv _,WB P _⟩
 refine .join (λ_=>True) (λae U=>?_) λ_ _=>by rw[XN,AA];exact .ret rfl
 refine .tn (λ_ d=>Dk d) F (λd F=>U _ trivial) λnext a i d ha F hn=>?_;obtain⟨H,a2,a3⟩:=K P a (Xay ha);refine .join (λd=>Dk d) (λaf V=>?_) λd F=>hn _ F;refine .join (λd=>Dk d) (λag Y=>?_) λd F=>V _ F;refine .tn (λ_ d=>Dk d) F (λd F=>Y _ F) λa7 b j d hb F a8=>?_;obtain⟨b1,b2,b3⟩:=K ht b (Xay hb);have J:=V3 (to:=Q) H b1 b3;have ab:=FH (key:=kR) (cmp:=Ab) (same:=Dl) a b;rw[XT H b1 (by omega) b3,AA];have aa:((CX kR Ab Dl a b).map (uA Q)).length<=32768:=by rw[X10];omega
 refine .join (λv=>v=false) (λah Z=>?_) ?_
 ·rw[Zm (by omega) b3,AA,X8,AA,Xj (by decide),S9 H (by omega) a3 J,AA,Ul H (by omega) a3 J,AA,OX,AA];exact Z _ rfl
 rintro v rfl;rw[Xj (by decide)];generalize (CX kR Ab Dl a b).map (uA Q)=m at J aa⊢;rw[AD (by decide) (by simp;omega),AA];refine .bind (XS F) ?_;rintro⟨e,d⟩ ⟨⟨e1,e2⟩,F⟩;dsimp only at e1 e2 F⊢;rw[AD (by decide) (by omega),AA];have M :∀c∈m++e,wq c:=λc hc=>by
  rcases X23.1 hc with h|h
  ·exact J c h
  exact e2 c h
 have a6:b.length+(m++e).length<=90000:=by simp;omega
 rw[S9 b1 a6 b3 M,AA,Ul b1 a6 b3 M,AA,OX,AA,Xj (by decide)];exact a8 _ F
end Go.AX.Q29
end
section
namespace Go.AX.Q29
open Go Go.AX Go.Proofs
variable {wl:Prop}
instance VT {F:O Int}:CK (Lu F) 4 [ed F] [] (λr=>.ref 0 0) (λr=>[.box (oX.av r)]):=Wf 0 Tryz.f4 λh=>by unfold Lu at h;exact Wg .z h
instance {F:Int} {H:Int}:CK (J5 F H) 43 [ed F,ed H] [] ed oN:=Wf 0 Tryz.f43 λh=>by unfold J5 at h;exact Wg (.y 15 15 (.k (λv2=>⟨[(5,yi v2)],[]⟩))) h
instance Ad {F:oX}{H:Int}:CK (AG F H) 16 [.ref 0 0,ed H] [.box (oX.av F)] (λr=>.d (D.i r.1)) (λr=>[.box (oX.av r.2)]):=Wf 0 Tryz.f16 λh=>by unfold AG at h;exact Wg .z h
instance {F:Int}:CK (DD F) 33 [ed F] [] ed oN:=Wf 0 Tryz.f33 λh=>by unfold DD at h;exact Wg .z h
instance {a0:oX}:CK (DZ a0) 37 [.ref 0 0] [.box (oX.av a0)] (λr=>.d (mu.cW r.1)) (λr=>[.box (oX.av r.2)]):=Wf 0 Tryz.f37 λh=>by unfold DZ at h;exact Wg (.v λ_=>.v λ_=>.v λv1=>.y 97 98 (.d (u2 λv2 H=>⟨[(0,yr 0 0),(2,yr 3 0),(3,yr 4 0)],[(0,yB (oX.av v2)),(3,yB mu.zv),(4,yB [yi 99,AV.own 13 (Wr fv.cW ([(⟨(⟨false,(0:j),(3221225984:j)⟩:Addr),24⟩:fv)]:O fv)).length,yi 8,yi 24,yi 19,yi 64,yi 25,yi 65,yO 29 fv.cW H,yO 16 s8.cW ([(⟨64512,65534⟩:s8)]:O s8),y0 v1,yi 8,AV.d (D.nil 3),AV.d (D.nil 6),AV.d (D.nil 6)]),(13,some (OB.row 80 4 (Wr fv.cW ([(⟨(⟨false,(0:j),(3221225984:j)⟩:Addr),24⟩:fv)]:O fv)) .no)),(16,yR 132 2 s8.cW ([(⟨64512,65534⟩:s8)]:O s8)),(29,yR 80 4 fv.cW H)]⟩) (u2 λv2 H=>.d (u2 λv4 J=>⟨[],[(0,yB (oX.av v4)),(4,yB [yi 99,AV.own 13 (Wr fv.cW ([(⟨(⟨false,(0:j),(3221225984:j)⟩:Addr),24⟩:fv)]:O fv)).length,yi 8,yi 24,yi 19,yi 64,yi 25,yi 65,yO 29 fv.cW H,yO 16 s8.cW ([(⟨64512,65534⟩:s8)]:O s8),y0 v1,yi J,AV.d (D.nil 3),AV.d (D.nil 6),AV.d (D.nil 6)])]⟩) (u2 λv4 J=>.v λv6=>.v λ_=>.a (.w (u4 λQ U M F=>⟨[(4,yi v6),(5,yi Q)],[(0,yB (oX.av U)),(4,yB [yi 99,AV.own 13 (Wr fv.cW ([(⟨(⟨false,(0:j),(3221225984:j)⟩:Addr),24⟩:fv)]:O fv)).length,yi 8,yi 24,yi 19,yi 64,yi 25,yi 65,yO 29 fv.cW H,yO 16 s8.cW ([(⟨64512,65534⟩:s8)]:O s8),y0 v1,yi J,AV.d (D.nil 3),yO 70 oB.cW M,yO 88 oB.cW F]),(70,yR 134 6 oB.cW M),(88,yR 134 6 oB.cW F)]⟩) (u4 λQ U M F=>.b (.a (.v λaf=>.d (λV=>⟨[(6,yr 7 0),(7,yi V)],[(7,yB (fv.av af))]⟩) λV=>.c (.o 49 3 1 D.i (λY=>u2 λZ P=>⟨[(48,yO 49 D.i ([101,102,103,104,105,201,202,203,301]:O Int)),(49,yi (([101,102,103,104,105,201,202,203,301]:O Int).length:Int)),(50,yi (Y:Int))],[(0,yB (oX.av Z)),(4,yB [yi 99,AV.own 13 (Wr fv.cW ([(⟨(⟨false,(0:j),(3221225984:j)⟩:Addr),24⟩:fv)]:O fv)).length,yi 8,yi 24,yi 19,yi 64,yi 25,yi 65,yO 29 fv.cW H,yO 16 s8.cW ([(⟨64512,65534⟩:s8)]:O s8),y0 v1,yi J,AV.d (D.nil 3),yO 70 oB.cW P,yO 88 oB.cW F]),(49,yR 3 1 D.i ([101,102,103,104,105,201,202,203,301]:O Int)),(70,yR 134 6 oB.cW P)]⟩) (u2 λZ P Y ag=>.g (.d (u2 λa1 a6=>⟨[(9,yi ag),(60,yb a1)],[(0,yB (oX.av a6))]⟩) (u2 λa1 a6=>.k (λa7=>⟨[(9,X),(60,X)],[(4,yB [yi 99,AV.own 13 (Wr fv.cW ([(⟨(⟨false,(0:j),(3221225984:j)⟩:Addr),24⟩:fv)]:O fv)).length,yi 8,yi 24,yi 19,yi 64,yi 25,yi 65,yO 29 fv.cW H,yO 16 s8.cW ([(⟨64512,65534⟩:s8)]:O s8),y0 v1,yi J,AV.d (D.nil 3),yO 70 oB.cW a7,yO 88 oB.cW F]),(70,yR 134 6 oB.cW a7)]⟩))))) (u2 λa8 K=>⟨[],[(0,yB (oX.av a8)),(4,yB [yi 99,AV.own 13 (Wr fv.cW ([(⟨(⟨false,(0:j),(3221225984:j)⟩:Addr),24⟩:fv)]:O fv)).length,yi 8,yi 24,yi 19,yi 64,yi 25,yi 65,yO 29 fv.cW H,yO 16 s8.cW ([(⟨64512,65534⟩:s8)]:O s8),y0 v1,yi J,AV.d (D.nil 3),yO 70 oB.cW K,yO 88 oB.cW F]),(70,yR 134 6 oB.cW K)]⟩) (u2 λa8 K=>.k (u2 λah aa=>⟨[(6,X),(7,X)],[(0,yB (oX.av ah)),(4,yB [yi 99,AV.own 13 (Wr fv.cW ([(⟨(⟨false,(0:j),(3221225984:j)⟩:Addr),24⟩:fv)]:O fv)).length,yi 8,yi 24,yi 19,yi 64,yi 25,yi 65,yO 29 fv.cW H,yO 16 s8.cW ([(⟨64512,65534⟩:s8)]:O s8),y0 v1,yi J,AV.d (D.nil 3),yO 70 oB.cW K,yO 88 oB.cW aa]),(7,N),(88,yR 134 6 oB.cW aa)]⟩))) (u3 λai ab ae=>⟨[],[(0,yB (oX.av ai)),(4,yB [yi 99,AV.own 13 (Wr fv.cW ([(⟨(⟨false,(0:j),(3221225984:j)⟩:Addr),24⟩:fv)]:O fv)).length,yi 8,yi 24,yi 19,yi 64,yi 25,yi 65,yO 29 fv.cW H,yO 16 s8.cW ([(⟨64512,65534⟩:s8)]:O s8),y0 v1,yi J,AV.d (D.nil 3),yO 70 oB.cW ab,yO 88 oB.cW ae]),(70,yR 134 6 oB.cW ab),(88,yR 134 6 oB.cW ae)]⟩)) .z)) (u3 λv7 v8 v9=>⟨[(0,X)],[(0,yB (oX.av v7)),(4,yB [yi 99,AV.own 13 (Wr fv.cW ([(⟨(⟨false,(0:j),(3221225984:j)⟩:Addr),24⟩:fv)]:O fv)).length,yi 8,yi 24,yi 19,yi 64,yi 25,yi 65,yO 29 fv.cW H,yO 16 s8.cW ([(⟨64512,65534⟩:s8)]:O s8),y0 v1,yi J,AV.d (D.nil 3),yO 70 oB.cW v8,yO 88 oB.cW v9]),(70,yR 134 6 oB.cW v8),(88,yR 134 6 oB.cW v9)]⟩))))) h
instance {a0:oX} {F:Int}:CK (CO a0 F) 38 [.ref 0 0,ed F] [.box (oX.av a0)] (λr=>.d (r5.cW r.1)) (λr=>[.box (oX.av r.2)]):=Wf 0 Tryz.f38 λh=>by
 refine⟨rfl,?_⟩;unfold CO at h;(conv=>whnf);refine B1 h (λ_=>Ad.ok) ?_;rintro⟨v1,_⟩ h;refine B1 h (λ_=>Ad.ok) ?_;rintro⟨_,_⟩ h;refine sI ?_;refine Ar h (λ(v2,Q,U,V,P)=>⟨js,yB (oX.av v2)::nn 4 (yB r5.zv::yB [yi F,yb Q,yb U,yb (v1==0),yi V,yO 32 D.i P,AV.d (D.nil 2)]::nn 25 (yR 3 1 D.i P::nn 20 ([])))⟩) ?_ ?_
 ·intro _ h;refine VZ h λh=>?_;refine Ar h (λ(v7,v8,v9,H)=>⟨js,yB (oX.av v7)::nn 4 (yB r5.zv::yB [yi F,yb false,yb v8,yb (v1==0),yi v9,yO 32 D.i H,AV.d (D.nil 2)]::nn 25 (yR 3 1 D.i H::nn 20 ([])))⟩) ?_ ?_
  ·intro _ h;refine VZ h λh=>?_;refine Ar h (λ(Y,Z,J)=>⟨js,yB (oX.av Y)::nn 4 (yB r5.zv::yB [yi F,yb false,yb false,yb (v1==0),yi Z,yO 32 D.i J,AV.d (D.nil 2)]::nn 25 (yR 3 1 D.i J::nn 20 ([])))⟩) ?_ ?_
   ·intro _ h;refine Ce h ?_ ?_<;>intro h
    ·refine B1 h (λ_=>Ad.ok) ?_;rintro⟨_,_⟩ h;refine⟨_,rfl,?_⟩;exact sj h
    refine Ar h (λ(a6,K)=>⟨js,yB (oX.av a6)::nn 4 (yB r5.zv::yB [yi F,yb false,yb false,yb (v1==0),yi 0,yO 32 D.i K,AV.d (D.nil 2)]::nn 25 (yR 3 1 D.i K::nn 20 ([])))⟩) ?_ ?_
    ·intro _ h;refine Oz h λh=>?_;refine B1 h (λ_=>Ad.ok) ?_;rintro⟨_,_⟩ h;refine⟨_,rfl,?_⟩;exact sj h
    rintro⟨a6,K⟩ h;exact sj h
   rintro⟨Y,Z,J⟩ h;exact sj h
  rintro⟨v7,v8,v9,H⟩ h;exact sj h
 rintro⟨v2,Q,U,V,P⟩ h;refine Ar h (λ(a7,a8)=>⟨dd 4 (yr 5 0::yr 6 0::dd 46 ([])),yA F Q U (v1==0) V P a8 a7⟩) ?_ ?_
 ·intro _ h;revert h;refine E3 (λ(M,aa,ab)=>⟨yr 0 0::X::X::X::yr 5 0::yr 6 0::yi M::dd 45 ([]),yA F Q U (v1==0) V P ab aa⟩) ?_ ?_
  ·exact wk
  rintro _ ⟨M,aa,ab⟩ _ h ag;refine sI ?_;refine Oz h λh=>?_;refine sI ?_;refine B1 h (λ_=>Ad.ok) ?_;rintro⟨_,_⟩ h;refine Ar h (λ(ae,af)=>⟨yr 0 0::X::X::X::yr 5 0::yr 6 0::yi M::dd 45 ([]),yA F Q U (v1==0) V P af ae⟩) ?_ ?_
  ·intro _ h;refine Oz h λh=>?_;refine .inl (dO ?_);refine⟨_,rfl,?_⟩;refine IZ h (λ_=>Ad.ok) (λ_=>rfl) ?_;rintro⟨_,_⟩ h;refine⟨_,rfl,?_⟩;refine⟨rfl,?_⟩;refine xG (f:=sr.cW) h rfl λ_ h=>?_;refine cO ?_;exact sj h
  rintro⟨ae,af⟩ h;refine⟨_,rfl,?_⟩;exact ag _ _ wk h
 rintro⟨a7,a8⟩ h;(conv=>whnf);refine .inl ?_;refine⟨rfl,?_⟩;refine⟨rfl,?_⟩;exact fin h
instance T8 {F:Int}{H:I}:CK (DO F H) 35 [ed F,ed H] [] ed oN:=Wf 0 Tryz.f35 λh=>by unfold DO at h;exact Wg .z h
instance {F:oX} {H:Int}:CK (EL F H) 39 [.ref 0 0,ed H] [.box (oX.av F)] (λr=>.d (r6.cW r.1)) (λr=>[.box (oX.av r.2)]):=Wf 0 Tryz.f39 λh=>by unfold EL at h;exact Wg .z h
instance {F:oX}:CK (D3 F) 14 [.ref 0 0] [.box (oX.av F)] (λr=>.d (re.cW r.1)) (λr=>[.box (oX.av r.2)]):=Wf 0 Tryz.f14 λh=>by unfold D3 at h;exact Wg (.v λ(v1:mu)=>.v λ_=>.y 40 41 (.a (.w0 (u4 λP Q H J=>⟨[(0,yr 0 0),(2,yr 3 0),(3,yr 4 0),(4,yi P)],[(0,yB (oX.av Q)),(3,yB re.zv),(4,yB [AV.d (D.i v1.sK),AV.d (D.l 4 fv.cW v1.rU),AV.d (D.i v1.sq),AV.d (D.i v1.rj),AV.d (D.i v1.sl),AV.d (D.i v1.ri),AV.d (D.i v1.rR),AV.d (D.i v1.rS),AV.d (D.l 4 fv.cW v1.r7),AV.d (D.l 2 s8.cW v1.oE),AV.d (D.l 1 D.i v1.rI),AV.d (D.i v1.rV),AV.d (D.l 3 Set.cW v1.ry.oT),AV.d (D.l 6 oB.cW v1.ry.n5),AV.d (D.l 6 oB.cW v1.n9),yO 24 r5.cW H,yO 38 pk.cW J]),(24,yR 72 7 r5.cW H),(38,yR 108 8 pk.cW J)]⟩)) (u3 λv2 K M=>⟨[(2,yr 3 0),(3,yr 4 0)],[(0,yB (oX.av v2)),(3,yB re.zv),(4,yB [AV.d (D.i v1.sK),AV.d (D.l 4 fv.cW v1.rU),AV.d (D.i v1.sq),AV.d (D.i v1.rj),AV.d (D.i v1.sl),AV.d (D.i v1.ri),AV.d (D.i v1.rR),AV.d (D.i v1.rS),AV.d (D.l 4 fv.cW v1.r7),AV.d (D.l 2 s8.cW v1.oE),AV.d (D.l 1 D.i v1.rI),AV.d (D.i v1.rV),AV.d (D.l 3 Set.cW v1.ry.oT),AV.d (D.l 6 oB.cW v1.ry.n5),AV.d (D.l 6 oB.cW v1.n9),yO 24 r5.cW K,yO 38 pk.cW M]),(24,yR 72 7 r5.cW K),(38,yR 108 8 pk.cW M)]⟩))) h
instance {F:Int}:CK (C2 F) 79 [ed F] [] ed oN:=Wf 0 Tryz.f79 λh=>by unfold C2 at h;exact Wg (.y 9 9 (.k (λv1=>⟨[(2,yb v1)],[]⟩))) h
instance PX {F:r5}:CK (A5 F) 49 [ed F] [] ed oN:=Wf 0 Tryz.f49 λh=>by unfold A5 at h;exact Wg (.y 104 104 (.d (λv1=>⟨[(1,yr 1 0),(3,yb v1)],[(1,yB (r5.av F))]⟩) λv1=>.c (.f 34 1 D.i (λM P=>⟨[(3,yb P),(34,AV.d (D.l 1 D.i F.ta)),(35,yi (F.ta.length:Int)),(36,yi (M:Int))],[]⟩) (λP M Y=>.g (.k (λQ=>⟨[(3,yb Q)],[]⟩)))) (λv2=>⟨[(3,yb v2)],[]⟩) λv2=>.a (.f 62 2 sr.cW (λH J=>⟨[(3,yb J),(62,AV.d (D.l 2 sr.cW F.sr)),(63,yi (F.sr.length:Int)),(64,yi (H:Int))],[]⟩) (λJ H U=>.g (.k (λK=>⟨[(3,yb K)],[]⟩)))) (λV=>⟨[(1,X),(3,yb V)],[(1,N)]⟩))) h
instance {F:Int}:CK (HG F) 115 [ed F] [] ed oN:=Wf 0 Tryz.f115 λh=>by unfold HG at h;exact Wg (.y 9 9 (.k (λv1=>⟨[(2,yb v1)],[]⟩))) h
instance Jk {F:Addr}:CK (Bh F) 164 [ed F] [] ed oN:=Wf 0 Tryz.f164 λh=>by unfold Bh at h;exact Wg (.y 15 15 (.k (λv1=>⟨[(2,yb v1)],[]⟩))) h
instance JW {F:Addr}:CK (BC F) 180 [ed F] [] (λr=>AV.own 0 (Wr D.u8 r).length) (λr=>[.row 5 1 (Wr D.u8 r) .no]):=Wf 0 Tryz.f180 λh=>by
 refine⟨rfl,?_⟩;unfold BC at h;(conv=>whnf);refine B1 h (λ_=>Jk.ok) λ_ h=>?_;refine sI ?_;refine Ce h ?_ ?_<;>intro h
 ·(conv=>whnf);refine .inr ⟨X29 rfl,5,?_⟩;exact fin h
 refine Ar h (λv1=>⟨X::yr 1 0::X::yi v1::dd 31 ([]),N::yB (Addr.av F)::nn 33 ([])⟩) ?_ ?_
 ·intro _ h;exact Wg .z h
 rintro v1 h;refine⟨_,rfl,?_⟩;refine Ar h (λv2=>⟨dd 4 (yO 4 D.u8 v2::dd 30 ([])),nn 4 (yR 5 1 D.u8 v2::nn 30 ([]))⟩) ?_ ?_
 ·intro _ h;revert h;refine E3 (λ(J,H)=>⟨X::yr 1 0::X::X::yO 4 D.u8 H::yi J::dd 29 ([]),N::yB (Addr.av F)::N::N::yR 5 1 D.u8 H::nn 30 ([])⟩) ?_ ?_
  ·exact wk
  rintro _ ⟨J,H⟩ _ h M;refine sI ?_;refine Oz h λh=>?_;refine sI ?_;refine Ar h (λK=>⟨X::yr 1 0::X::X::yO 4 D.u8 H::yi J::yu K::dd 28 ([]),N::yB (Addr.av F)::N::N::yR 5 1 D.u8 H::nn 30 ([])⟩) ?_ ?_
  ·intro _ h;exact Wg .z h
  rintro K h;refine⟨by decide,_,rfl,?_⟩;refine⟨_,MS _,?_⟩;refine⟨_,MS _,?_⟩;refine⟨Xcc _,_,YX K _,?_⟩;exact Wg .z h
 rintro v2 h;exact Wg (.l (.r .z)) h
instance {F:Addr}:CK (Bz F) 217 [ed F] [] ed oN:=Wf 0 Tryz.f217 λh=>by unfold Bz at h;exact Wg .z h
instance {F:O S}:CK (BM F) 218 [ed F] [] e2 oN:=Wf 0 Tryz.f218 λh=>by unfold BM at h;exact Wg (.y 43 43 (.d (λv1=>⟨[(0,y1 F),(2,yr 2 0),(14,yb v1)],[(2,yB Addr.zv)]⟩) λv1=>.b .z (.a (.f0 20 1 D.u8 (λH J=>⟨[(0,X),(4,yr 4 0),(14,X),(20,y1 F),(21,yi (F.length:Int)),(22,yi (H:Int))],[(4,yB (Addr.av J))]⟩)) (λv2=>⟨[(0,X),(4,yr 4 0),(14,X)],[(4,yB (Addr.av v2))]⟩)))) h
instance {J:Addr} {F:Int}:CK (CS J F) 161 [ed J,ed F] [] e2 oN:=Wf 0 Tryz.f161 λh=>by
 refine⟨rfl,?_⟩;unfold CS at h;(conv=>whnf);refine .go ?_;refine B1 h (λ_=>Jk.ok) λ_ h=>?_;refine sI ?_;refine Ce h ?_ ?_<;>intro h
 ·exact fin h
 refine Ar h (λv1=>⟨X::yi F::yr 2 0::X::yr 4 0::dd 10 (yb v1::dd 38 ([])),N::N::yB (Addr.av J)::N::yB fv.zv::nn 49 ([])⟩) ?_ ?_
 ·intro _ h;exact Wg .z h
 rintro v1 h;refine sI ?_;refine Ce h ?_ ?_<;>intro h
 ·exact fin h
 refine QL [26] h (λ_=>JW.ok) λ_ h=>?_;refine Ar h (λv2=>⟨X::yi F::X::X::yr 4 0::X::yO 26 D.u8 v2::dd 47 ([]),nn 4 (yB fv.zv::nn 21 (yR 5 1 D.u8 v2::nn 27 ([])))⟩) ?_ ?_
 ·intro _ h;revert h;refine E3 (λ(K,H)=>⟨X::yi F::X::X::yr 4 0::X::yO 26 D.u8 H::yi K::dd 46 ([]),nn 4 (yB fv.zv::nn 21 (yR 5 1 D.u8 H::nn 27 ([])))⟩) ?_ ?_
  ·exact wk
  rintro _ ⟨K,H⟩ _ h Q;refine⟨H.length,MO,?_⟩;refine⟨_,rfl,?_⟩;refine sI ?_;refine Oz h λh=>?_;refine sI ?_;refine⟨by decide,_,rfl,?_⟩;obtain⟨P,M,h⟩:=Aa h;refine⟨rfl,I5 (f:=D.u8) M,?_⟩;refine⟨rfl,D.u8 P,(Nk (f:=D.u8) M),?_⟩;refine⟨by decide,_,rfl,?_⟩;refine⟨_,MS _,?_⟩;refine⟨Xcc _,_,dt (128:S) _,?_⟩;exact Wg .z h
 rintro v2 h;exact Wg (.m .z) h
instance {F:fv}:CK (Ae F) 117 [ed F] [] ed oN:=Wf 0 Tryz.f117 λh=>by unfold Ae at h;exact Wg (.y 20 20 (.k (λv1=>⟨[(2,yb v1)],[]⟩))) h
instance {F:O fv} {H:Int}:CK (HC F H) 116 [ed F,ed H] [] ed oN:=Wf 0 Tryz.f116 λh=>by unfold HC at h;exact Wg (.y 21 21 (.a (.f0 7 4 fv.cW (λJ _=>⟨[(0,y2 F),(1,yi H),(7,y2 F),(8,yi (F.length:Int)),(9,yi (J:Int))],[]⟩)) (λ_=>⟨[(0,y2 F),(1,yi H)],[]⟩))) h
instance {F:I}:CK (DC F) 118 [ed F] [] ed oN:=Wf 0 Tryz.f118 λh=>by unfold DC at h;exact Wg .z h
instance {F:T}:CK (E6 F) 162 [ed F] [] ed oN:=Wf 0 Tryz.f162 λh=>by
 refine⟨rfl,?_⟩;unfold E6 at h;(conv=>whnf);refine Ar h (λ_=>⟨ys F::dd 52 ([]),nn 53 ([])⟩) ?_ ?_
 ·intro _ h;revert h;refine E3 (λv1=>⟨ys F::dd 5 (yi (F.size:Int)::yi v1::dd 45 ([])),nn 53 ([])⟩) ?_ ?_
  ·exact wk
  rintro _ v1 _ h P;refine sI ?_;refine Oz h λh=>?_;refine sI ?_;obtain⟨J,H,h⟩:=Aa h;refine⟨mR H,J,jm H,?_⟩;exact Wg (.y 53 53 (.k (λK=>⟨[(0,ys F),(6,yi (F.size:Int)),(7,yi v1),(43,yb K)],[]⟩))) h
 rintro _ h;exact Wg (.y 53 53 (.k (λM=>⟨[(2,yb M)],[]⟩))) h
instance {F:oB}:CK (Ba F) 163 [ed F] [] ed oN:=Wf 0 Tryz.f163 λh=>by unfold Ba at h;exact Wg (.y 35 35 (.d (λv1=>⟨[(1,yr 1 0),(3,yi v1)],[(1,yB (oB.av F))]⟩) λv1=>.k (λv2=>⟨[(1,X),(2,yb v2),(3,X)],[(1,N)]⟩))) h
instance RD {F:ry}:CK (EJ F) 119 [ed F] [] ed oN:=Wf 0 Tryz.f119 λh=>by unfold EJ at h;exact Wg (.y 92 92 (.c (.f 14 3 Set.cW (λQ v2=>⟨[(1,yr 1 0),(3,AV.mp 12),(14,AV.d (D.l 3 Set.cW F.oT)),(15,yi (F.oT.length:Int)),(16,yi (Q:Int))],[(1,yB (ry.av F)),(12,some (OB.map 9 4 (BS D.s D.b v2)))]⟩) (λv2 Q H=>.a (.d (λU=>⟨[(5,yr 5 0),(41,yb U)],[(5,yB (Set.av H))]⟩) λU=>.b .z (.c (.f 46 1 D.i (λV _=>⟨[(41,X),(46,AV.d (D.l 1 D.i H.n7)),(47,yi (H.n7.length:Int)),(48,yi (V:Int))],[(12,some (OB.map 9 4 (BS D.s D.b (A3 v2 H.Name true))))]⟩) (λ_ V Y=>.g (.k (λJ=>⟨[(57,yb J)],[]⟩)))) (λ_=>⟨[(41,X)],[(12,some (OB.map 9 4 (BS D.s D.b (A3 v2 H.Name true))))]⟩) λ_=>.a (.f0 60 1 D.s (λK _=>⟨[(5,X),(60,AV.d (D.l 1 D.s H.oT)),(61,yi (H.oT.length:Int)),(62,yi (K:Int))],[(5,N)]⟩)) (λ_=>⟨[(5,X)],[(5,N)]⟩))) (λ_=>⟨[],[(12,some (OB.map 9 4 (BS D.s D.b (A3 v2 H.Name true))))]⟩))) (λ_=>⟨[(1,yr 1 0)],[(1,yB (ry.av F))]⟩) λ_=>.c (.f0 72 6 oB.cW (λM _=>⟨[(72,AV.d (D.l 6 oB.cW F.n5)),(73,yi (F.n5.length:Int)),(74,yi (M:Int))],[]⟩)) (λ_=>⟨[],[]⟩) λ_=>.k (λP=>⟨[(1,X),(2,yb P)],[(1,N)]⟩))) h
instance Qz {F:mu}:CK (E8 F) 66 [ed F] [] ed oN:=Wf 0 Tryz.f66 λh=>by unfold E8 at h;exact Wg (.y 186 186 (.d (λv1=>⟨[(1,yr 1 0),(43,yb v1)],[(1,yB (mu.av F))]⟩) λv1=>.b .z (.c (.f 45 2 s8.cW (λP _=>⟨[(43,X),(45,AV.d (D.l 2 s8.cW F.oE)),(46,yi (F.oE.length:Int)),(47,yi (P:Int))],[]⟩) (λ_ P Y=>.g (.k (λQ=>⟨[(65,yb Q)],[]⟩)))) (λ_=>⟨[(43,X)],[]⟩) λ_=>.c (.f0 68 1 D.i (λU _=>⟨[(68,AV.d (D.l 1 D.i F.rI)),(69,yi (F.rI.length:Int)),(70,yi (U:Int))],[]⟩)) (λ_=>⟨[],[]⟩) λ_=>.c (.f 79 6 oB.cW (λH _=>⟨[(79,AV.d (D.l 6 oB.cW F.n9)),(80,yi (F.n9.length:Int)),(81,yi (H:Int))],[]⟩) (λ_ H V=>.g (.k (λK=>⟨[(116,yb K)],[]⟩)))) (λ_=>⟨[],[]⟩) λ_=>.d (λJ=>⟨[(9,yb J)],[]⟩) λJ=>.k (λM=>⟨[(1,X),(2,yb M),(9,X)],[(1,N)]⟩)))) h
instance {F:Addr} {H:Addr}:CK (Ie F H) 62 [ed F,ed H] [] ed oN:=Wf 0 Tryz.f62 λh=>by unfold Ie at h;exact Wg (.b .z (.b .z (.y 37 37 (.k (λv1=>⟨[(17,yb v1)],[]⟩))))) h
end Go.AX.Q29
end
