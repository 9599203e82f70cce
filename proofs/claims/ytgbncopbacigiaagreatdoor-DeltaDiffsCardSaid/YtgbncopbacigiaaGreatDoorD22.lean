/-
  Texts of one proof, packed.
-/
import Derived.Test.YtgbncopbacigiaaGreatDoorD17
import Derived.Test.YtgbncopbacigiaaGreatDoorD21
set_option linter.all false
set_option maxRecDepth 100000
set_option maxHeartbeats 4000000
open List renaming length_map→X10,length_append→X11,length_cons→X12,length_nil→X13,getElem?_eq_getElem→X15,length_drop→X17,length_take→X18,mem_cons_of_mem→X19,length_replicate→X20,length_set→X21
open Bool renaming and_eq_true→X27,eq_iff_iff→X28
open Option renaming bind→Xd
open Go renaming maxLen→Xbl
section
namespace Go.AX.Q29
open Go Go.AX
def xf {α ρ:Type}{l:O α}{q:α->I}(g:α->(I->C ρ)->C ρ){K:I->C ρ}(hg :∀x∈l,∀k,g x k=k (q x))(b:I) : AC (τ:=I) (λV=>AI (σ:=I) (λJ=>V J) (λF M _ J=>AC (τ:=I) (λP=>if J=true then P true else g M P) λH=>F H) l 0 b) K=K (b || l.any q):=by
 simp only[AB];have key :∀(l:O α) (i:Nat) (b:I),(∀x∈l,∀k,g x k=k (q x))->AI (σ:=I) (λJ=>K J) (λF M _ J=>if J=true then F true else g M λH=>F H) l i b=K (b || l.any q):=by
  intro l;induction l with
  | nil=>intro i b _;rw[List.any_nil,Bool.or_false];rfl
  | cons x t Q=>intro i b h;show (if b=true then AI _ _ t (i+1) true else g x (λH=>AI _ _ t (i+1) H))=_;have U :∀y∈t,∀k,g y k=k (q y):=λy Y=>h y (X19 _ Y);rw[h x (by simp),Q (i+1) true U,Q (i+1) (q x) U,List.any_cons];cases b<;>rfl
 exact key l 0 b hg
def Vo {α σ ρ:Type}{K:σ->C ρ}{body:(σ->C ρ)->α->Nat->σ->C ρ}(st:σ->α->σ)(I:Nat->σ->Prop) (F :∀n s x,I (n+1) s->I n (st s x)) :∀(l:O α) (i:Nat) (s:σ),(∀next x j s n,x∈l->I (n+1) s->body next x j s=next (st s x))->I l.length s->AI K body l i s=K (l.foldl st s)
 | [],_,_,_,_=>rfl
 | x::t,i,s,H,h=>by show body (λJ=>AI K body t (i+1) J) x i s=_;rw[H _ x i s t.length (by simp) h];exact Vo st I F t (i+1) (st s x) (λnext y j s n M=>H next y j s n (X19 _ M)) (F _ _ _ h)
def ad (b:I)(n:Int):O Int:=cond b [n] []
def N8 {ρ:Type}{b:I}{n:Int}{v:O Int}{K:O Int->C ρ}(J:v.length<=1000) : AC (τ:=O Int) (λF=>if b=true then Xd (gE (α:=Int) 8 v ([n]:O Int)) λH=>F H else F v) K=K (v++ad b n):=by
 rw[AB];cases b
 ·rw[Xj (by simp)];show _=K (v++[]);rw[Xag]
 rw[Xy rfl,AD (by decide) (by simp;omega),AA];rfl
def mY (b:I)(n:Int):(ad b n).length<=1:=by cases b<;>simp[ad]
def HS (p:O oF):O Int:=p.flatMap (·.n7)
def Wj (p:O oF):(HS p).length=tg p:=by
 induction p with
 | nil=>rfl
 | cons s t F=>rw[ED,<- F];simp[HS]
def lI {ρ:Type}{K:O Int->C ρ} :∀(p:O oF) (i:Nat) (acc:O Int),acc.length+tg p<=1000000000-> AI (σ:=O Int) (λv2=>K v2) (λF (J:oF) _ v2=>Xd (gE (α:=Int) 8 v2 J.n7) λH=>F H) p i acc=K (acc++HS p)
 | [],_,acc,_=>by show K acc=K (acc++[]);rw[Xag]
 | s::t,i,acc,h=>by rw[ED] at h;show Xd (gE (α:=Int) 8 acc s.n7) (λH=>AI _ _ t (i+1) H)=_;rw[AD (by decide) (by omega),AA,lI t (i+1) _ (by rw[X11];omega)];show K _=K (acc++(s.n7++HS t));rw[Xau]
def RE {p:O oF}(h:tg p<=1000000000):Gy p=some (HS p):=by unfold Gy;rw[AB];exact lI p 0 [] (by simpa using h)
def Et {p:O oF}(h:tg p<=1000000000):DG p=some (HS p):=RE h
def Vs {p:O oF}(h:DW p=true){s:oF}(F:s∈p):s.n7≠[]:=by unfold DW at h;rw[X27,X27,Wo] at h;have:=h.1.1 s F;unfold KF at this;rw[X27,Xe] at this;intro e;rw[e] at this;exact this.1 rfl
def Pq:O oF->Int×I
 | []=>(0,false)
 | s::t=>if (DW (s::t)&&!s.Set)=true then (s.n7.headD 0,true) else (0,false)
def Vj (s:oF)(t:O oF):Pq (s::t)=if (DW (s::t)&&!s.Set)=true then (s.n7.headD 0,true) else (0,false):=rfl
def EW {α:Type}(x:α)(t:O α):iX (x::t) 0=some x:=F3 [] x t
def dS {l:O Int}(h:l≠[]):iX l 0=some (l.headD 0):=by
 cases l with
 | nil=>exact absurd rfl h
 | cons x t=>exact EW x t
def Qc {p:O oF}(K:p.length<=1000000000)(M:tg p<=1000000000):Gt p=some (Pq p):=by
 unfold Gt;rw[HV (by omega) (by omega),AB,AA];cases p with
 | nil=>cases DW []<;>rfl
 | cons s t=>
  rw[EW,AA,AA];rw[Vj];have F:((((s::t).length:Nat):Int)==0)=false:=by rw[X12];simp only[Xdo,ne_eq];omega
  rw[F];cases H:DW (s::t)
  ·rfl
  have hg:=dS (Vs H (Xc1 ..));cases P:s.Set
  ·show (Xd (iX s.n7 0) λJ=>some (J,true))=_;rw[hg,AA];rfl
  rfl
def WW (l:O Int):Int:=l.getLastD 0
def KY (p:O oF):Int×I:=
 match p.getLast? with
 | none=>(0,false)
 | some s=>if (DW p&&!s.Set)=true then (WW s.n7,true) else (0,false)
def V5 {α:Type}{l:O α}{x:α}(h:l.getLast?=some x)(H:l.length<=1000000000):iX l (AQ ((l.length:Int)-1))=some x:=by
 have F:l≠[]:=by intro e;rw[e] at h;simp at h
 have J:0<l.length:=Xc7.2 F;rw[AN (by omega),show (l.length:Int)-1=((l.length-1:Nat):Int) by omega,As (by omega)];rw[List.getLast?_eq_getElem?,X15 (by omega)] at h;exact h
def ZS {l:O Int}(h:l≠[]):l.getLast?=some (WW l):=by unfold WW;rw[List.getLastD_eq_getLast?,List.getLast?_eq_some_getLast h];rfl
def Wi {α:Type}(l:O α):(((l.length:Nat):Int)==0)=l.isEmpty:=by
 cases l with
 | nil=>rfl
 | cons x t=>show _=false;rw[X12];simp only[Xdo,ne_eq];omega
def gB {α:Type}{l:O α}{x:α}(h:l.getLast?=some x):x∈l:=by rw[List.getLast?_eq_some_iff] at h;obtain⟨ys,rfl⟩:=h;simp
def Z8 {p:O oF}{s:oF}(h:p.getLast?=some s)(F:s.n7≠[]):(HS p).getLast?=some (WW s.n7):=by
 rw[List.getLast?_eq_some_iff] at h;obtain⟨ys,rfl⟩:=h;show (List.flatMap _ _).getLast?=_;rw[List.flatMap_append,List.getLast?_append];have:(List.flatMap (λx:oF=>x.n7) [s])=s.n7:=by simp
 rw[this,ZS F];rfl
def Ov {p:O oF}(J:p.length<=1000000000)(K:tg p<=1000000000):F6 p=some (KY p):=by
 unfold F6 KY;rw[HV (by omega) (by omega),AB,AA,Wi];cases hp:p.getLast? with
 | none=>have:p=[]:=List.getLast?_eq_none_iff.1 hp;subst this;cases DW []<;>rfl
 | some s=>
  show _=some (if (DW p&&!s.Set)=true then (WW s.n7,true) else (0,false));have F:=gB hp;have M:p.isEmpty=false:=by cases p with
   | nil=>cases F
   | cons _ _=>rfl
  rw[M,V5 hp J,AA];cases P:DW p
  ·rfl
  have hg:=Z8 hp (Vs P F);cases U:s.Set
  ·show (Xd (DG p) λH=>Xd (iX H (AQ ((H.length:Int)-1))) λQ=>some (Q,true))=_;rw[Et K,AA,V5 hg (by rw[Wj];omega),AA];rfl
  rfl
def Vw (p:O oF) :∃v,DI p=some v:=by
 have h:Ok (DI p) λ_=>True:=by unfold DI;refine .join (λ_=>True) (λk H=>.for_ (λs=>H s trivial) λnext x i s _ _ J=>?_) λ_ _=>.ret trivial;exact .join (λ_=>True) (λK F=>.ite (λ_=>F _ trivial) λ_=>F _ trivial) λv _=>J v
 obtain⟨v,e,_⟩:=h;exact⟨v,e⟩
def S5 (p:O oF):Int:=(DI p).getD 0
def NS (p:O oF):DI p=some (S5 p):=by obtain⟨v,h⟩:=Vw p;unfold S5;rw[h];rfl
def Cf (p:O oF):Du p=some (S5 p):=NS p
def Qo {α:Type}{l:O α}{e:α->α->I}(h :∀a b,e a b=e b a)(x:α):(l.any λy=>e x y)=l.any λy=>e y x:=by congr 1;funext y;exact h x y
def Ux (a b:Int):(a==b)=(b==a):=Bool.beq_comm
def bB (a b:Addr):Addr.rO a b=Addr.rO b a:=by rw[X28,Addr.rb,Addr.rb];exact⟨Eq.symm,Eq.symm⟩
def UJ {p:O oF}(F:tg p<=1000000000)(n:Int):FW p n=some ((HS p).any λx=>n==x):=by unfold FW;rw[Et F,AA,AB,Qo Ux];exact ki (e:=λx y:Int=>x==y) (HS p) 0
def MW (l:O Int)(n:Int):FS l n=some (l.any λx=>n==x):=by unfold FS;rw[AB,Qo Ux];exact ki (e:=λx y:Int=>x==y) l 0
def XE (a b c:Int):BV a b c=some (decide (b<=a)&&decide (a<=c)):=Zn a b c
def GG (a:gH):I:=a.fT.any λy=>r8.rO y ⟨65535,666⟩
def LF (a:gH):Ds a=some (GG a):=by unfold Ds;rw[TQ,AA];rfl
def wd (o:oB):oB:={ o with Max:=cond o.fv.Addr.V6 128 32 }
def Ns (b:I):DC b=some (cond b 128 32):=by unfold DC;cases b<;>rfl
def JX {l:O oB}(M:l.length<=1000000):Dm l=some (l.map wd):=by
 unfold Dm;rw[AB];have h:=Vo (K:=λv2:O oB=>some v2) (body:=λH (J:oB) (_:Nat) v2=>Xd (DC J.fv.Addr.V6) λP=>Xd (gE (α:=oB) 48 v2 ([{ J with Max:=P }]:O oB)) λQ=>H Q)
  (λv x=>v++[wd x]) (λn v=>v.length+n<=1000000) (λn s x h=>by simp;omega) l 0 []
  (λnext x j s n _ h=>by
   show Xd (DC x.fv.Addr.V6) _=_
   rw[Ns,AA,AD (by decide) (by simp;omega),AA];rfl)
  (by simpa using M)
 refine h.trans ?_;have key :∀(l F:O oB),l.foldl (λv x=>v++[wd x]) F=F++l.map wd:=by
  intro l;induction l with
  | nil=>intro F;simp
  | cons x t U=>intro F;rw[Xai,U];simp
 rw[key,Xax]
def aZ {l:O Int}(h:l.length<=1000000):BZ l=some l:=by unfold BZ;rw[AD (by decide) (by simp;omega),AA]
def Ze {l:O S}(h:l.length<=1000000):B7 l=some l:=by unfold B7;rw[AD (by decide) (by simp;omega),AA]
def d2 (n:Int)(a:gH):I:=Bt n&&(a.rX !=-1)
def Ni {n:Int}{a:gH}:Ok (Ep 1 n a) λr=>(r.2==30)=d2 n a:=by
 unfold Ep d2;have K:Fa 1 n=some (!Bt n):=by
  unfold Fa Bt;rw[show D9 1=some 2 from rfl,AB,AA,Xj (by decide)];by_cases F:n<1
  ·rw[Xy (by simpa using F),Ws (p:=1<=n) (by omega)];rfl
  rw[Xj (by simpa using F),Wd (p:=1<=n) (by omega)];by_cases H:n>4294967295
  ·rw[Wd H,Ws (p:=n<=4294967295) (by omega)];rfl
  rw[Ws H,Wd (p:=n<=4294967295) (by omega)];rfl
 rw[K,AA];simp only[AB];cases Bt n
 ·exact .ret rfl
 rw[Xj (by simp),Xj (by decide),show (cond false true ((1:Int)==2))=false from rfl];cases J:(a.rX !=-1)
 ·rw[Xj (by simp),Xj (by simp)];have:(a.rX==-1)=true:=by rw[bne] at J;simpa using J
  rw[this,Xy rfl,Xj (by simp),show (cond true (cond false true ((1:Int)==4)) false)=false from rfl,Xj (by simp)];exact .ret rfl
 rw[Xy rfl,Xy (by rfl),Xy (by decide),Xy trivial];exact .ret rfl
def wQ (p:fv)(n:Int)(s:Int×O oB)(o:oB):Int×O oB:=
 cond (uy o.fv p) (cond (o.r4==n&&(n !=0&&decide (o.Max≥p.rL))) 1 (cond (s.1==0) 2 s.1),s.2++[o]) s
def zb (l:O oB)(p:fv)(n:Int):Int:=(l.foldl (wQ p n) (0,[])).1
def kN (p:fv)(n:Int)(s:Int×O oB)(o:oB):(wQ p n s o).2.length<=s.2.length+1:=by
 unfold wQ;cases uy o.fv p
 ·exact Nat.le_succ _
 show (s.2++[o]).length<=_;simp
def Pz {l:O oB}{p:fv}{n:Int}(F:l.length<=1000000)(hp:p.Addr.ok=true):Gk l p n=some (l.foldl (wQ p n) (0,[])):=by
 unfold Gk;simp only[AB];refine Vo (K:=λs:Int×O oB=>some (s.1,s.2)) (wQ p n) (λk s=>s.2.length+k<=1000000) (λk s x h=>by have:=kN p n s x;omega) l 0 (0,[]) (λnext x j s k _ h=>?_) (by simpa using F);obtain⟨a,b⟩:=s;dsimp only at h⊢;rw[D2 hp,AA];unfold wQ;cases uy x.fv p
 ·rfl
 rw[Xj (by simp),AD (by decide) (by simp;omega),AA];dsimp only;simp only[Xcr];cases (x.r4==n)
 ·cases (a==0)<;>rfl
 cases (n !=0)
 ·cases (a==0)<;>rfl
 cases decide (x.Max≥p.rL)
 ·cases (a==0)<;>rfl
 cases (a==0)<;>rfl
def gy (r:ry)(h:Int)(n:T)(p:fv)(o:Int):Int:=(Bg r h n p o).getD 1
def dp {r:ry}{h:Int}{n:T}{p:fv}{o:Int}(F :∀s∈r.oT,OM s)(H:n.size<=Xbl) : True/\Bg r h n p o=some (gy r h n p o):=by obtain⟨v,J⟩:=PT (h:=h) (p:=p) (o:=o) F H;unfold gy;rw[J];exact⟨trivial,rfl⟩
end Go.AX.Q29
end
section
namespace Go.AX.Q29
open Go Go.AX
structure xm (f:mu):Prop where
 s :∀s∈f.ry.oT,OM s
 o:f.ry.n5.length<=1000000
 r:f.n9.length<=1000000
 l :∀x∈f.rU,x.Addr.ok=true
def wJ (b:I)(l:O oB):O oB:=cond b (l.map wd) l
def kr (b:I)(l:O oB):(wJ b l).length=l.length:=by cases b<;>simp[wJ]
def ju (p:O oF):Int:=cond (KY p).2 (KY p).1 (-1)
def pW (f:mu)(h:I):ry:=⟨f.ry.oT,wJ h f.ry.n5⟩
def b1 (p:r6)(r:gD):I:=!(Pq r.gH.Path).2 || ((Pq r.gH.Path).1 !=p.r4)
def b2 (p:r6)(r:gD):I:=!(p.rz.any λx=>Addr.rO r.gH.Next x)
def b3 (f:mu)(r:gD):I:=decide (S5 r.gH.Path>f.rV)
def uV (f:mu)(r:gD):I:=(HS r.gH.Path).any λx=>f.sK==x
def b5 (r:gD):I:=r.gH.Path.any λs=>s.Set
def pv (f:mu)(n:Int):I:=f.oE.any λs=>decide (s.rT<=n)&&decide (n<=s.To)
def b6 (f:mu)(r:gD):I:=(HS r.gH.Path).any (pv f)
def wz (l:O Int)(n:Int):I:=l.any λx=>n==x
def fr (f:mu)(p:r6)(n:Int):I:=(n !=p.r4)&&wz f.rI n
def b7 (f:mu)(p:r6)(r:gD):I:=!(wz f.rI p.r4)&&(HS r.gH.Path).any (fr f p)
def b8 (p:r6)(r:gD):I:=d2 p.r4 r.gH
def b9 (f:mu)(r:gD):I:=f.rU.any λx=>uy x r.fv || uy r.fv x
def vq (f:mu)(r:gD):I:=f.r7.any λx=>uy x r.fv
def wX (f:mu)(r:gD)(h:I):I:=
 cond h (decide (r.fv.rL<cond r.fv.Addr.V6 f.rS f.rR)) (!(decide (cond r.fv.Addr.V6 f.sl f.sq<=r.fv.rL)&&decide (r.fv.rL<=cond r.fv.Addr.V6 f.ri f.rj)))
def wU (f:mu)(p:r6)(r:gD)(h:I):I:=gy (pW f h) p.r4 p.Set r.fv (ju r.gH.Path) !=0
def xS (f:mu)(r:gD)(h:I):I:=zb (wJ h f.n9) r.fv (ju r.gH.Path)==2
def Le (f:mu)(p:r6)(r:gD):O (Int×I):=
 [(2,b1 p r),(3,b2 p r),(4,b3 f r),(5,uV f r),(6,b5 r),(7,b6 f r),(8,b7 f p r),(9,b8 p r),(10,b9 f r),(11,vq f r),(12,wX f r (GG r.gH)),(13,wU f p r (GG r.gH)),(14,xS f r (GG r.gH))]
def fs:O (Int×I)->O Int
 | []=>[]
 | (k,b)::t=>ad b k++fs t
def K0 (r:gD):I:=B8 r.fv&&(Eh r.gH&&((r.gH.gS !=-1)&&(!(r.gH.Path.isEmpty)&&(!(Addr.rO r.gH.Next ⟨false,0,0⟩)&&(r.gH.Next.V6==r.fv.Addr.V6)))))
def Ph (f:mu)(p:r6)(r:gD):O Int:=cond (K0 r) (fs (Le f p r)) [1]
def gP {r:gD}(h:K0 r=true):tC r.gH:=by unfold K0 at h;rw[X27,X27] at h;exact tC.of h.2.1
def mW {r:gD}(h:vb r.gH):IV r=some (!K0 r):=by
 unfold IV K0;rw[CP,AB,AA,KQ h,AA,Wi];have e:(r.gH.gS==-1)=!(r.gH.gS !=-1):=by rw[bne,Bool.not_not]
 rw[e];generalize (r.gH.Path.isEmpty)=c;generalize (r.gH.gS !=-1)=d;generalize (Addr.rO r.gH.Next ⟨false,0,0⟩)=g;generalize (r.gH.Next.V6==r.fv.Addr.V6)=q;cases B8 r.fv
 ·rfl
 cases Eh r.gH
 ·rfl
 cases d
 ·rfl
 cases c
 ·cases g<;>cases q<;>rfl
 rfl
section
end
end Go.AX.Q29
end
section
namespace Go.AX.Q29
open Go Go.AX
def vm (f:mu)(p:r6)(r:gD):Int:=(Ph f p r).headD 0
def zw {ρ:Type}{a b:I}{K:I->C ρ}:AC (τ:=I) (λF=>if (!a)=true then F true else F (cond false true b)) K=K (!a || b):=by rw[AB];cases a<;>rfl
def B9 {l:O Int}{n:Nat}(h:l.length<=n)(b:I)(k:Int):(l++ad b k).length<=n+1:=by have:=mY b k;rw[X11];omega
def e6 {f:mu}{p:r6}(l:O Int)(a b:I):l.foldl (λ(s:I×I) n=>(s.1 || pv f n,s.2 || (!(wz f.rI p.r4)&&fr f p n))) (a,b)=(a || l.any (pv f),b || (!(wz f.rI p.r4)&&l.any (fr f p))):=by
 induction l generalizing a b with
 | nil=>simp
 | cons n t F=>rw[Xai,F,List.any_cons,List.any_cons];cases a<;>cases b<;>cases pv f n<;>cases fr f p n<;>cases wz f.rI p.r4<;>simp
def bK {f:mu}{p:r6}{r:gD}(Y:tC r.gH) : Fj f p r.gH=some ([]++ad (b1 p r) 2++ad (b2 p r) 3++ad (b3 f r) 4++ad (uV f r) 5++ad (b5 r) 6++ad (b6 f r) 7++ad (b7 f p r) 8++ad (b8 p r) 9):=by
 have l0:([]:O Int).length<=0:=Xa8 _;have l1:=B9 l0 (b1 p r) 2;have l2:=B9 l1 (b2 p r) 3;have l3:=B9 l2 (b3 f r) 4;have l4:=B9 l3 (uV f r) 5;have l5:=B9 l4 (b5 r) 6;have l6:=B9 l5 (b6 f r) 7;have l7:=B9 l6 (b7 f p r) 8;unfold Fj;rw[Qc (by have:=Y.p;omega) (by have:=Y.t;omega),AA];obtain⟨u,v,hq⟩ :∃u v,Pq r.gH.Path=(u,v):=⟨_,_,rfl⟩;have e1:(!v || (u !=p.r4))=b1 p r:=by unfold b1;rw[hq]
 rw[hq];show AC (τ:=I) (λk3=>if (!v)=true then k3 true else k3 (cond false true (u !=p.r4))) _=_;rw[zw,e1,N8 (by omega)];refine (xf (q:=λx=>Addr.rO x r.gH.Next) (λx k=>k (cond false true (Addr.rO x r.gH.Next))) (λ_ _ _=>rfl) false).trans ?_;have e2:(!(false || p.rz.any λx=>Addr.rO x r.gH.Next))=b2 p r:=by unfold b2;rw[Bool.false_or,Qo bB]
 rw[e2,N8 (by omega),Cf,AA];show AC (τ:=O Int) (λa1=>if b3 f r=true then _ else _) _=_;rw[N8 (by omega),UJ (by have:=Y.t;omega),AA];show AC (τ:=O Int) (λa1=>if uV f r=true then _ else _) _=_;rw[N8 (by omega)];refine (xf (q:=λx:oF=>x.Set) (λx k=>k (cond false true x.Set)) (λ_ _ _=>rfl) false).trans ?_;rw[Et (by have:=Y.t;omega),AA];have hl :∀(K:I×I->C (O Int)),AC (τ:=I×I) (λa6=>AI (σ:=I×I) (λ(v37,P)=>a6 (v37,P)) (λF (H:Int) i41 (v37,P)=>AC (τ:=I×I) (λa7=>AC (τ:=I) (λa8=>AI (σ:=I) (λQ=>a8 Q ) (λJ (V:s8) i47 Q=>AC (τ:=I) (λU=>if Q then U true else if (decide (H≥V.rT)) then U (cond false true (cond true (decide (H<=V.To)) false)) else U false ) λaa=>J aa ) f.oE 0 v37 ) λab=>AC (τ:=I) (λM=>if P then M true else if (H !=p.r4) then Xd (FS f.rI H) λae=>if (cond true ae false) then Xd (FS f.rI p.r4) λaf=>M (cond false true (cond true (!af) false)) else M false else M false ) λag=>a7 (ab,ag) ) λ(v55,ah)=>F (v55,ah)) (HS r.gH.Path) 0 (false,false)) K=K (b6 f r,b7 f p r):=by
  intro K;rw[AB];refine (Vo (K:=λs:I×I=>K (s.1,s.2)) (λ(s:I×I) n=>(s.1 || pv f n,s.2 || (!(wz f.rI p.r4)&&fr f p n))) (λ_ _=>True) (λ_ _ _ _=>trivial) (HS r.gH.Path) 0 (false,false) (λnext n j s _ _ _=>?_) trivial).trans ?_
  ·obtain⟨a,b⟩:=s;dsimp only;rw[AB];refine (xf (q:=λs:s8=>decide (s.rT<=n)&&decide (n<=s.To)) (λs k=>if (decide (n≥s.rT))=true then k (cond false true (cond true (decide (n<=s.To)) false)) else k false) (λs _ k=>?_) a).trans ?_
   ·by_cases Z:s.rT<=n
    ·rw[Xy (by simpa using Z),Wd Z];rfl
    rw[Xj (by simpa using Z),Ws Z];rfl
   rw[AB,MW,MW,AA,AA];unfold fr wz;show _=next (a || pv f n,_)
   unfold pv;cases b
   ·cases (n !=p.r4)
    ·simp
    cases (f.rI.any λx=>n==x)
    ·simp
    cases (f.rI.any λx=>p.r4==x)<;>rfl
   simp
  rw[e6];rfl
 refine (hl _).trans ?_;dsimp only;show AC (τ:=O Int) (λai=>if b5 r=true then _ else _) _=_;rw[N8 (by omega),N8 (by omega),N8 (by omega)];obtain⟨⟨c,d⟩,e,he⟩:=Ni (n:=p.r4) (a:=r.gH);rw[e,AA];dsimp only at he⊢;have e8:(d==30)=b8 p r:=he;rw[e8,N8 (by omega)]
def jh {f:mu}{r:gD}:HT f r=some (wX f r (GG r.gH)):=by
 unfold HT wX;rw[AB,LF];have key :∀F H J:Int,(if GG r.gH=true then some (decide (r.fv.rL<J)) else AC (τ:=I) (λK=>if decide (r.fv.rL<F)=true then K true else K (cond false true (decide (r.fv.rL>H)))) λQ=>some Q)=some (cond (GG r.gH) (decide (r.fv.rL<J)) (!(decide (F<=r.fv.rL)&&decide (r.fv.rL<=H)))):=by
  intro F H J;cases GG r.gH
  ·rw[Xj (by simp),AB];by_cases M:r.fv.rL<F
   ·rw[Xy (by simpa using M),Ws (p:=F<=r.fv.rL) (by omega)];rfl
   rw[Xj (by simpa using M),Wd (p:=F<=r.fv.rL) (by omega)];by_cases P:r.fv.rL>H
   ·rw[Wd P,Ws (p:=r.fv.rL<=H) (by omega)];rfl
   rw[Ws P,Wd (p:=r.fv.rL<=H) (by omega)];rfl
  rfl
 cases r.fv.Addr.V6
 ·exact key _ _ _
 exact key _ _ _
def bG {f:mu}{p:r6}{r:gD}(M:xm f)(hp:p.Set.size<=Xbl)(P:vb r.gH):Ib f p r=some (Ph f p r):=by
 unfold Ib Ph;rw[mW P,AA];cases F:K0 r
 ·rfl
 have P:=gP F;have H:r.fv.Addr.ok=true:=by unfold K0 at F;rw[X27] at F;exact ((HF _).1 F.1).1
 have l0:([]:O Int).length<=0:=Xa8 _;have l1:=B9 l0 (b1 p r) 2;have l2:=B9 l1 (b2 p r) 3;have l3:=B9 l2 (b3 f r) 4;have l4:=B9 l3 (uV f r) 5;have l5:=B9 l4 (b5 r) 6;have l6:=B9 l5 (b6 f r) 7;have l7:=B9 l6 (b7 f p r) 8;have l8:=B9 l7 (b8 p r) 9;have l9:=B9 l8 (b9 f r) 10;have V:=B9 l9 (vq f r) 11;have Y:=B9 V (wX f r (GG r.gH)) 12;have aa:=B9 Y (wU f p r (GG r.gH)) 13;rw[Xj (by simp),bK P,AA];refine (xf (q:=λx=>uy x r.fv || uy r.fv x) (λx k=>Xd (A7 x r.fv) λv9=>if (cond false true v9)=true then k true else Xd (A7 r.fv x) λZ=>k (cond false true Z)) (λx hx k=>?_) false).trans ?_
 ·rw[D2 H,D2 (M.l x hx),AA,AA];cases uy x r.fv<;>rfl
 refine (xf (q:=λx=>uy x r.fv) (λx k=>Xd (A7 x r.fv) λa1=>k (cond false true a1)) (λx _ k=>?_) false).trans ?_
 ·rw[D2 H,AA];rfl
 show AC (τ:=O Int) (λJ=>if b9 f r=true then _ else _) _=_;rw[N8 (by omega)];show AC (τ:=O Int) (λJ=>if vq f r=true then _ else _) _=_;rw[N8 (by omega),jh,AA,N8 (by omega),LF,AA];have hw :∀(K:O oB×O oB->C (O Int)),AC (τ:=(O oB)×(O oB)) (λQ=>if GG r.gH=true then Xd (Dm f.ry.n5) λa6=>Xd (Dm f.n9) λa7=>Q (a7,a6) else Q (f.n9,f.ry.n5)) K=K (wJ (GG r.gH) f.n9,wJ (GG r.gH) f.ry.n5):=by
  intro K;rw[AB];cases GG r.gH
  ·rfl
  rw[Xy rfl,JX M.o,AA,JX M.r,AA];rfl
 refine (hw _).trans ?_;dsimp only;rw[Ov (by have:=P.p;omega) (by have:=P.t;omega),AA];have ho :∀(K:Int->C (O Int)),(match KY r.gH.Path with|(a8,v39)=>AC (τ:=Int) (λU=>if (!v39)=true then U (-1) else U a8) K)=K (ju r.gH.Path):=by intro K;unfold ju;generalize KY r.gH.Path=q;obtain⟨u,v⟩:=q;dsimp only;rw[AB];cases v<;>rfl
 refine (ho _).trans ?_;rw[(dp (r:=(⟨f.ry.oT,wJ (GG r.gH) f.ry.n5⟩:ry)) M.s hp).2,AA];show AC (τ:=O Int) (λJ=>if wU f p r (GG r.gH)=true then _ else _) _=_;rw[N8 (by omega),Pz (by rw[kr];exact M.r) H,AA];show AC (τ:=O Int) (λJ=>if xS f r (GG r.gH)=true then _ else _) _=_;rw[N8 (by omega)];show some _=some (fs (Le f p r));unfold Le;simp only[fs,Xau,Xax,Xag]
def Vz {f:mu}{p:r6}{r:gD}(F:xm f)(hp:p.Set.size<=Xbl)(H:vb r.gH):Gn f p r=some (vm f p r):=by
 unfold Gn vm;rw[bG F hp H,AA];cases Ph f p r with
 | nil=>rfl
 | cons x t=>rw[Xy (by simp),EW,AA];rfl
def qT {ρ:Type}{a b c:I}{K:I->C ρ}:AC (τ:=I) (λk=>if a=true then k true else if (cond false true b)=true then k true else k (cond false true c)) K=K (a || (b || c)):=by rw[AB];cases a<;>cases b<;>rfl
def qx {ρ:Type}{a b c d e g:I}{K:I->C ρ}:AC (τ:=I) (λk=>if a=true then k true else if (cond false true b)=true then k true else if (cond false true c)=true then k true else if (cond false true d)=true then k true else if (cond false true e)=true then k true else k (cond false true g)) K=K (a || (b || (c || (d || (e || g))))):=by
 rw[AB];cases a
 ·cases b
  ·cases c
   ·cases d
    ·cases e<;>rfl
    rfl
   rfl
  rfl
 rfl
def lE {ρ:Type}{a b c d e g:I}{K:I->C ρ}:AC (τ:=I) (λk=>if a=true then if (cond true b false)=true then if (cond true c false)=true then if (cond true d false)=true then if (cond true e false)=true then k (cond true g false) else k false else k false else k false else k false else k false) K=K (a&&(b&&(c&&(d&&(e&&g))))):=by
 rw[AB];cases a
 ·rfl
 cases b
 ·rfl
 cases c
 ·rfl
 cases d
 ·rfl
 cases e<;>rfl
def oI {ρ:Type}{a b c d e g h i:I}{K:I->C ρ}:AC (τ:=I) (λk=>if a=true then if (cond true b false)=true then if (cond true c false)=true then if (cond true d false)=true then if (cond true e false)=true then if (cond true g false)=true then if (cond true h false)=true then k (cond true i false) else k false else k false else k false else k false else k false else k false else k false) K=K (a&&(b&&(c&&(d&&(e&&(g&&(h&&i))))))):=by
 rw[AB];cases a
 ·rfl
 cases b
 ·rfl
 cases c
 ·rfl
 cases d
 ·rfl
 cases e
 ·rfl
 cases g
 ·rfl
 cases h<;>rfl
def xk (s:s8):I:=!(decide (s.rT<0) || (decide (s.rT>s.To) || decide (s.To>4294967295)))
def Xz (o:oB):I:=B8 o.fv&&((decide (o.fv.rL<=o.Max)&&decide (o.Max<=cond o.fv.Addr.V6 128 32))&&(decide (0<=o.r4)&&decide (o.r4<=4294967295)))
def jE {α:Type}{l:O α}{q:α->I}:(l.any λx=>!q x)=!l.all q:=by rw[X28];simp
def zi (l:O Addr):AT l=some (!l.all Addr.ok):=by unfold AT AZ;rw[<- jE];exact oH (f:=CY) λx _=>by unfold CY;rw[IL,AA]
def fA (l:O fv)(n:Int):HC l n=some (l.all B8&&decide ((l.length:Int)<=n)):=by
 unfold HC;rw[AB];refine (Oo (g:=B8) (r0:=some false) λnext x i _=>?_).trans ?_
 ·rw[CP,AA];cases B8 x<;>rfl
 cases l.all B8<;>rfl
def U7 (n:Int):HG n=some (Bt n):=vd n
def TS (f:mu):I:=
 !(!Bt f.sK || (decide ((f.rU.length:Int)>8) || (decide ((f.r7.length:Int)>64) || (decide ((f.oE.length:Int)>64) || (decide ((f.rI.length:Int)>64) || decide ((f.n9.length:Int)>512)))))) &&(!(decide (f.sq<0) || (decide (f.sq>f.rj) || (decide (f.rj>32) || (decide (f.sl<0) || (decide (f.sl>f.ri) || (decide (f.ri>128) || (!(decide (0<=f.rR)&&decide (f.rR<=32)) || (!(decide (0<=f.rS)&&decide (f.rS<=128)) || !(decide (1<=f.rV)&&decide (f.rV<=60)))))))))) &&(!(!f.rU.all B8 || !f.r7.all B8)&&(!(!f.oE.all xk || !f.rI.all Bt)&&(f.n9.all Xz&&QO f.ry))))
def Qg {a b:Int}:decide (a<=b)=!decide (a>b):=by
 by_cases h:a<=b
 ·rw[Wd h,Ws (by omega)];rfl
 rw[Ws h,Wd (by omega)];rfl
def YC {a b:Int}:decide (a<b)=!decide (b<=a):=by
 by_cases h:a<b
 ·rw[Wd h,Ws (by omega)];rfl
 rw[Ws h,Wd (by omega)];rfl
def Ju {f:mu}(hz :∀s∈f.ry.oT,OM s):E8 f=some (TS f):=by
 unfold E8;simp only[U7,fA,HM hz,AA];rw[qx,AB,lE,oI];have hA:(!Bt f.sK || (!(f.rU.all B8&&decide ((f.rU.length:Int)<=8)) || (!(f.r7.all B8&&decide ((f.r7.length:Int)<=64)) || (decide ((f.oE.length:Int)>64) || (decide ((f.rI.length:Int)>64) || decide ((f.n9.length:Int)>512))))))=!(Bt f.sK&&((f.rU.all B8&&decide ((f.rU.length:Int)<=8))&&((f.r7.all B8&&decide ((f.r7.length:Int)<=64))&&(decide ((f.oE.length:Int)<=64)&&(decide ((f.rI.length:Int)<=64)&&decide ((f.n9.length:Int)<=512)))))):=by simp only[Bool.not_and,Qg (a:=(f.oE.length:Int)),Qg (a:=(f.rI.length:Int)),Qg (a:=(f.n9.length:Int)),Bool.not_not]
 have hP :∀{K:Unit->C I},AI (σ:=Unit) (λ_=>K ()) (λP (U:s8) i9 _=>AC (τ:=I) (λQ=>if (decide (U.rT<0))=true then Q true else if (cond false true (decide (U.rT>U.To)))=true then Q true else Q (cond false true (decide (U.To>4294967295)))) λY=>if Y=true then some false else P ()) f.oE 0 ()=cond (f.oE.all xk) (K ()) (some false):=by intro K;refine Oo (g:=xk) (r0:=some false) λnext x i _=>?_;rw[qT];unfold xk;generalize (decide (x.rT<0) || (decide (x.rT>x.To) || decide (x.To>4294967295)))=a;cases a<;>rfl
 have hF :∀{K:Unit->C I},AI (σ:=Unit) (λ_=>K ()) (λJ (wg:Int) i15 _=>if (!Bt wg)=true then some false else J ()) f.rI 0 ()=cond (f.rI.all Bt) (K ()) (some false):=by intro K;refine Oo (g:=Bt) (r0:=some false) λnext x i _=>?_;cases Bt x<;>rfl
 have Z :∀{V:C I},AI (σ:=Unit) (λ_=>V) (λM (F:oB) i20 _=>AC (τ:=I) (λH=>Xd (Ae F.fv) λa1=>if (!a1)=true then H true else if (cond false true (decide (F.Max<F.fv.rL)))=true then H true else Xd (DC F.fv.Addr.V6) λa6=>if (cond false true (decide (F.Max>a6)))=true then H true else if (cond false true (decide (F.r4<0)))=true then H true else H (cond false true (decide (F.r4>4294967295)))) λa7=>if a7=true then some false else M ()) f.n9 0 ()=cond (f.n9.all Xz) V (some false):=by
  intro V;refine Oo (K:=λ_=>V) (g:=Xz) (r0:=some false) λnext x i _=>?_;rw[AB,CP,AA,Ns,AA];unfold Xz;rw[Qg (a:=x.Max),Qg (a:=x.r4),YC (a:=x.Max),YC (a:=x.r4)];generalize decide (x.fv.rL<=x.Max)=a;generalize decide (x.Max>cond x.fv.Addr.V6 128 32)=b;generalize decide (0<=x.r4)=c;generalize decide (x.r4>4294967295)=d;cases B8 x.fv
  ·rfl
  cases a
  ·rfl
  cases b
  ·cases c
   ·rfl
   cases d<;>rfl
  rfl
 simp only[AB] at hP Z⊢;rw[hP,hF];simp only[CP,Ns,AA] at Z⊢;rw[Z,hA];unfold TS;simp only[ge_iff_le,gt_iff_lt,Bool.not_or,Bool.not_not];generalize hg:(Bt f.sK&&((f.rU.all B8&&decide ((f.rU.length:Int)<=8))&&((f.r7.all B8&&decide ((f.r7.length:Int)<=64))&&(decide ((f.oE.length:Int)<=64)&&(decide ((f.rI.length:Int)<=64)&&decide ((f.n9.length:Int)<=512))))))=g;have fin :∀{p q o n r:I},(if (!g)=true then some false else cond p (cond q (cond o (some (n&&r)) (some false)) (some false)) (some false))=some (g&&(p&&(q&&(o&&(n&&r))))):=by
  intro p q o n r;cases g
  ·rfl
  cases p
  ·rfl
  cases q
  ·rfl
  cases o<;>rfl
 refine fin.trans ?_;rw[<- hg];simp only[YC,Bool.not_not];congr 1;ac_rfl
def NF (p:r6):DU p=some (Bt p.r4&&((decide (0<=p.rj)&&decide (p.rj<=256))&&((decide (0<=p.ri)&&decide (p.ri<=256))&&(decide ((p.rz.length:Int)<=8)&&p.rz.all Addr.ok)))):=by
 unfold DU;simp only[XE,zi,AA,Bool.not_not];rw[AB];show (if Bt p.r4=true then _ else _)=_;generalize (decide (0<=p.rj)&&decide (p.rj<=256))=a;generalize (decide (0<=p.ri)&&decide (p.ri<=256))=b;generalize decide ((p.rz.length:Int)<=8)=c;cases Bt p.r4
 ·rfl
 cases a
 ·rfl
 cases b
 ·rfl
 cases c<;>rfl
def LJ (p:r6):Cj p=some (Bt p.r4&&((decide (0<=p.rj)&&decide (p.rj<=256))&&((decide (0<=p.ri)&&decide (p.ri<=256))&&(decide ((p.rz.length:Int)<=8)&&p.rz.all Addr.ok)))):=by
 unfold Cj;rw[AB];refine (Oo (g:=Addr.ok) (r0:=some false) λnext x i _=>?_).trans ?_
 ·rw[Dc,AA];cases x.ok<;>rfl
 simp only[U7,AA];rw[lE];simp only[ge_iff_le];generalize decide (0<=p.rj)=a;generalize decide (p.rj<=256)=b;generalize decide (0<=p.ri)=c;generalize decide (p.ri<=256)=d;generalize decide ((p.rz.length:Int)<=8)=e;generalize p.rz.all Addr.ok=g;cases Bt p.r4
 ·cases g<;>rfl
 cases a<;>cases b<;>cases c<;>cases d<;>cases e<;>cases g<;>rfl
def lO:O Set:=[⟨oO,[101,102,103,104,105,201,202,203,301],[]⟩,⟨oP,[201],[]⟩]
def ce:L0 [] lO=true:=by kernel_rfl
def MF.z6 {f:mu}(h:MF f):QO f.ry=true:=by
 have K:f.ry.oT=lO:=h.wN;unfold QO;rw[K,ce,Xc6,Wd (by decide),Xd3,Wd (by have:=h.gF.1;omega),Xd3,Wo];intro o M;obtain⟨⟨H,J,Q,U⟩,V⟩:=h.gF.2 o M;unfold U0;rw[X27,X27,X27];refine⟨⟨⟨(HF _).2 H.vO,?_⟩,?_⟩,?_⟩
 ·rw[Xe];rcases H.2 with ⟨P,F⟩|⟨P,F⟩<;>rcases J with ⟨q1,q2⟩|⟨q1,q2⟩
  ·omega
  ·rw[F] at q2;cases q2
  ·rw[F] at q2;cases q2
  omega
 ·rw[Xe];unfold Addr.w;rcases J with ⟨q1,q2⟩|⟨q1,q2⟩<;>rw[q1,q2]<;>decide
 unfold Bt;rw[Wd (by omega),Wd (by omega)];rfl
def YA {r:ry}(h:QO r=true) :∀s∈r.oT,OM s:=λs F=>aY ((QG.1 h).1.2 s F)
def MF.yJ {f:mu}(h:MF f):xm f:=by refine⟨YA h.z6,by have:=h.gF.1;omega,by have:=h.vS.1;omega,λx F=>?_⟩;rw[h.vW] at F;simp only[Wp,Xbf,Xdm] at F;subst F;show Addr.ok _=true;kernel_rfl
def gj {n:Nat}(h:n<=4):n<=Xbl:=Xa3 h (by decide)
def Ob (a b:O Int):EM a b=some (decide (a=b)):=by
 unfold EM;exact zy (e:=λv x:Int=>x !=v) λx y=>by
  by_cases h:x=y
  ·subst h;simp
  rw[Ws h];have:y≠x:=λe=>h e.symm;simpa using this
def mT {l:O Int}(h:l.length<=Xbl):Dk ⟨l,0⟩:=⟨Int.le_refl _,Xa3 h (by decide)⟩
def XP :∀l:O (Int×I),(fs l).Sublist (l.map (·.1))
 | []=>.slnil
 | (k,b)::t=>by
  show (ad b k++fs t).Sublist (k::t.map (·.1));cases b
  ·exact (XP t).cons _
  exact (XP t).cons_cons _
def ZK (f:mu)(p:r6)(r:gD):(Ph f p r).Pairwise (·<·)/\∀x∈Ph f p r,1<=x/\x<=14:=by
 unfold Ph;cases K0 r
 ·exact⟨by simp,by simp⟩
 have h:=XP (Le f p r);have e:(Le f p r).map (·.1)=[2,3,4,5,6,7,8,9,10,11,12,13,14]:=rfl;rw[e] at h;refine⟨Xdb h (by decide),λx F=>?_⟩;have:=h.subset F;simp only[Wp,Xbf,Xdm] at this;omega
def all_nil {f:mu}{p:r6}{r:gD}(h:vm f p r=0):K0 r=true/\b1 p r=false/\b2 p r=false/\uV f r=false/\b8 p r=false/\b9 f r=false/\wU f p r (GG r.gH)=false:=by
 have J:Ph f p r=[]:=by
  obtain⟨_,K⟩:=ZK f p r;unfold vm at h;cases he:Ph f p r with
  | nil=>rfl
  | cons x t=>rw[he] at h K;have:=K x (by simp);have h':x=0:=h;omega
 unfold Ph at J;cases P:K0 r
 ·rw[P] at J;cases J
 rw[P] at J;have H:fs (Le f p r)=[]:=J;unfold Le at H;simp only[fs,List.append_eq_nil_iff] at H;have F :∀{b:I} {n:Int},ad b n=[]->b=false:=by
  intro b n h;cases b
  ·rfl
  cases h
 obtain⟨Q,K,h3,U,h5,h6,h7,V,Y,Z,a1,M,a6,_⟩:=H;exact⟨rfl,F Q,F K,F U,F V,F Y,F M⟩
end Go.AX.Q29
end
section
namespace Go.AX.sN
universe u v
structure LO {κ:Type u}(cmp:κ->κ->Int):Prop where
 eq :∀{a b},cmp a b=0↔a=b
 tY :∀{a b},cmp a b<0↔0<cmp b a
 trans :∀{a b c},cmp a b<0->cmp b c<0->cmp a c<0
section
variable {α:Type v} {κ:Type u} {key:α->κ} {cmp:κ->κ->Int}
def si (key:α->κ)(cmp:κ->κ->Int)(l:O α):Prop:=l.Pairwise λa b=>cmp (key a) (key b)<0
def LO.ne (h:LO cmp){a b:κ}(F:cmp a b<0):a≠b:=λe=>by have:=h.eq.2 e;omega
def LO.ne' (h:LO cmp){a b:κ}(F:0<cmp a b):a≠b:=λe=>by have:=h.eq.2 e;omega
def At (key:α->κ)(cmp:κ->κ->Int)(k:κ)(l1 l2:O α):Prop:=(∀y∈l1,cmp (key y) k<0)/\∀y∈l2,0<cmp (key y) k
def split (h:LO cmp){l:O α}(M:si key cmp l)(k:κ) : (∃l1 x l2,l=l1++x::l2/\key x=k/\At key cmp k l1 l2)\/(∃l1 l2,l=l1++l2/\At key cmp k l1 l2):=by
 induction l with
 | nil=>exact .inr ⟨[],[],rfl,by simp[At]⟩
 | cons a t P=>
  obtain⟨J,Q⟩:=Wu.1 M;rcases Int.lt_trichotomy (cmp (key a) k) 0 with c|c|c
  ·have K :∀l1:O α,(∀y∈l1,cmp (key y) k<0)->∀y∈a::l1,cmp (key y) k<0:=λl1 p y F=>by
    rcases Wp.1 F with e|F
    ·rw[e];exact c
    exact p y F
   rcases P Q with ⟨l1,x,l2,H,e,p,q⟩|⟨l1,l2,H,p,q⟩
   ·exact .inl ⟨a::l1,x,l2,by rw[H];rfl,e,K l1 p,q⟩
   exact .inr ⟨a::l1,l2,by rw[H];rfl,K l1 p,q⟩
  ·refine .inl ⟨[],a,t,rfl,h.eq.1 c,by simp,λy F=>?_⟩;have:=J y F;rw[h.eq.1 c] at this;exact h.tY.1 this
  refine .inr ⟨[],a::t,rfl,by simp,λy F=>?_⟩;rcases Wp.1 F with e|F
  ·rw[e];exact c
  exact h.tY.1 (h.trans (h.tY.2 c) (J y F))
def filter_all {p:α->I}{l:O α}(h :∀x∈l,p x=true):l.filter p=l:=Xc8.2 h
def X7 (h:LO cmp){k:κ}{l1 l2:O α}{x:α}(H:At key cmp k l1 l2)(e:key x=k){p:α->I}(hp :∀y,p y=true↔key y≠k) : (l1++x::l2).filter p=l1++l2:=by
 have J:p x=false:=by
  cases K:p x with
  | false=>rfl
  | true=>exact absurd e ((hp x).1 K)
 rw[Xaa,Xba (by simp[J]),filter_all λy F=>(hp y).2 (h.ne (H.1 y F)),filter_all λy F=>(hp y).2 (h.ne' (H.2 y F))]
def Zk (h:LO cmp){k:κ}{l1 l2:O α}(H:At key cmp k l1 l2){p:α->I}(hp :∀y,p y=true↔key y≠k) : (l1++l2).filter p=l1++l2:=by rw[Xaa,filter_all λy F=>(hp y).2 (h.ne (H.1 y F)),filter_all λy F=>(hp y).2 (h.ne' (H.2 y F))]
def At.uQ (h:LO cmp){k:κ}{l1 l2:O α}{x:α}(H:At key cmp k l1 l2)(e:key x=k)(K:si key cmp (l1++l2)):si key cmp (l1++x::l2):=by
 obtain⟨M,P,Q⟩:=Xb0.1 K;refine Xb0.2 ⟨M,Wu.2 ⟨λy U=>?_,P⟩,λa J b F=>?_⟩
 ·rw[e];exact h.tY.2 (H.2 y U)
 rcases Wp.1 F with V|F
 ·rw[V,e];exact H.1 a J
 exact Q a J b F
def fX {l1 l2:O α}{x:α}(F:si key cmp (l1++x::l2)):si key cmp (l1++l2):=
 Xdb (List.Sublist.append_left (List.sublist_cons_self x l2) l1) F
def EP {l:O α}{p:α->I}(F:si key cmp l):si key cmp (l.filter p):=Xdb List.filter_sublist F
def YY (h:LO cmp){l m:O α}(U:si key cmp l)(V:si key cmp m)(H :∀x,x∈l↔x∈m):l=m:=by
 induction l generalizing m with
 | nil=>cases m with
  | nil=>rfl
  | cons b t=>exact absurd ((H b).2 Xc1) (by simp)
 | cons a t Y=>cases m with
  | nil=>exact absurd ((H a).1 Xc1) (by simp)
  | cons b s=>
   obtain⟨M,Z⟩:=Wu.1 U;obtain⟨P,h4⟩:=Wu.1 V;have J:a=b:=by
    rcases Wp.1 ((H a).1 Xc1) with e|e
    ·exact e
    rcases Wp.1 ((H b).2 Xc1) with K|K
    ·exact K.symm
    have:=M b K;have:=h.tY.1 (P a e);omega
   subst J;have Q :∀{u:O α} {x:α},(∀y∈u,cmp (key a) (key y)<0)->x∈u->x≠a:=λhu F e=>by have:=hu _ F;rw[e] at this;exact absurd (h.eq.2 rfl) (by omega:¬ cmp (key a) (key a)=0)
   rw[Y Z h4 λx=>⟨λF=>?_,λF=>?_⟩]
   ·rcases Wp.1 ((H x).1 (X19 _ F)) with e|e
    ·exact absurd e (Q M F)
    exact e
   rcases Wp.1 ((H x).2 (X19 _ F)) with e|e
   ·exact absurd e (Q P F)
   exact e
end
end Go.AX.sN
end
section
namespace Go.AX.Q29
open Go Go.AX Go.AX.sN
def T0 (p:fv):O Int:=G6 p.Addr++[p.rL]
def Ab (a b:fv):Int:=DL (T0 a) (T0 b)
def Pi (a b:fv):(T0 a).length=(T0 b).length:=rfl
def gI {a b:fv}(h:T0 a=T0 b):a=b:=by
 have F:G6 a.Addr=G6 b.Addr/\a.rL=b.rL:=by have:=List.append_inj h rfl;exact⟨this.1,by simpa using this.2⟩
 cases a;cases b;simp only[fv.mk.injEq];exact⟨QD F.1,F.2⟩
def Ap:LO Ab where
 eq {a b}:=⟨λh=>gI (Ik (Pi a b) h),λh=>by rw[h];exact Ig _⟩
 tY {a b}:=by unfold Ab;have:=M3 (T0 a) (T0 b);omega
 trans h1 h2:=PC (Pi _ _) (Pi _ _) h1 h2
def EH (a b:fv):BP a b=some (Ab a b):=MN a b
def Mc (a b:fv):E0 a b=some (Ab a b):=by unfold E0 Lq;simp only[mA,jo,kQ,mS,AA,dB,List.cons_append,Xax];simp only[kW];rfl
def aT {p:O oF}(V:p.length<=1000000)(Y:tg p<=1000000){ρ:Type}{K:O oF->C ρ} : AC (τ:=O oF) (λP=>AI (σ:=O oF) (λv2=>P v2) (λF (H:oF) i5 v2=>Xd (BZ H.n7) λJ=>Xd (gE (α:=oF) 32 v2 ([(⟨H.Set,J⟩:oF)]:O oF)) λM=>F M) p 0 []) K=K p:=by
 have go :∀(l pre:O oF) (i:Nat),pre++l=p->AI (σ:=O oF) (λv2=>K v2) (λF (H:oF) i5 v2=>Xd (BZ H.n7) λJ=>Xd (gE (α:=oF) 32 v2 ([(⟨H.Set,J⟩:oF)]:O oF)) λM=>F M) l i pre=K p:=by
  intro l;induction l with
  | nil=>intro pre i e;rw[Xag] at e;rw[e];rfl
  | cons x t Q=>
   intro pre i e;have U:x∈p:=by rw[<- e];simp
   have:=TL U;have Z:pre.length+1<=p.length:=by rw[<- e];simp
   rw[Be,aZ (by omega),AA,AD (by decide) (by simp;omega),AA];exact Q _ _ (by rw[<- e];simp)
 exact go p [] 0 rfl
def Za {p:O kI}(Y:p.length<=1000000)(Q :∀u∈p,u.Data.length<=1000000){ρ:Type}{K:O kI->C ρ} : AC (τ:=O kI) (λU=>AI (σ:=O kI) (λH=>U H) (λF (J:kI) i13 H=>Xd (B7 J.Data) λM=>Xd (gE (α:=kI) 40 H ([{ J with Data:=M }]:O kI)) λP=>F P) p 0 []) K=K p:=by
 have go :∀(l pre:O kI) (i:Nat),pre++l=p->AI (σ:=O kI) (λH=>K H) (λF (J:kI) i13 H=>Xd (B7 J.Data) λM=>Xd (gE (α:=kI) 40 H ([{ J with Data:=M }]:O kI)) λP=>F P) l i pre=K p:=by
  intro l;induction l with
  | nil=>intro pre i e;rw[Xag] at e;rw[e];rfl
  | cons x t V=>
   intro pre i e;have:=Q x (by rw[<- e];simp);have Z:pre.length+1<=p.length:=by rw[<- e];simp
   rw[Be,Ze (by omega),AA,AD (by decide) (by simp;omega),AA];exact V _ _ (by rw[<- e];simp)
 exact go p [] 0 rfl
def fp {a:gH}(h:tC a):Gv a=some a:=by unfold Gv;rw[aT h.p h.t,Za h.o h.d];unfold Bv C4;have:=h.c;have:=h.l;rw[AD (by decide) (by simp;omega),AA,AA,AD (by decide) (by simp;omega),AA,AA]
def gQ {p:O oF}(U:p.length<=1000000)(V:tg p<=1000000){ρ:Type}{K:O oF->C ρ} : AC (τ:=O oF) (λM=>AI (σ:=O oF) (λv2=>M v2) (λF (H:oF) i5 v2=>Xd (gE (α:=Int) 8 [] H.n7) λ_=>Xd (gE (α:=oF) 32 v2 ([H]:O oF)) λJ=>F J) p 0 []) K=K p:=by
 have go :∀(l pre:O oF) (i:Nat),pre++l=p->AI (σ:=O oF) (λv2=>K v2) (λF (H:oF) i5 v2=>Xd (gE (α:=Int) 8 [] H.n7) λ_=>Xd (gE (α:=oF) 32 v2 ([H]:O oF)) λJ=>F J) l i pre=K p:=by
  intro l;induction l with
  | nil=>intro pre i e;rw[Xag] at e;rw[e];rfl
  | cons x t P=>
   intro pre i e;have Q:x∈p:=by rw[<- e];simp
   have:=TL Q;have Y:pre.length+1<=p.length:=by rw[<- e];simp
   rw[Be,AD (by decide) (by simp;omega),AA,AD (by decide) (by simp;omega),AA];exact P _ _ (by rw[<- e];simp)
 exact go p [] 0 rfl
def eG {p:O kI}(V:p.length<=1000000)(P :∀u∈p,u.Data.length<=1000000){ρ:Type}{K:O kI->C ρ} : AC (τ:=O kI) (λQ=>AI (σ:=O kI) (λH=>Q H) (λF (J:kI) i13 H=>Xd (gE (α:=S) 1 [] J.Data) λ_=>Xd (gE (α:=kI) 40 H ([J]:O kI)) λM=>F M) p 0 []) K=K p:=by
 have go :∀(l pre:O kI) (i:Nat),pre++l=p->AI (σ:=O kI) (λH=>K H) (λF (J:kI) i13 H=>Xd (gE (α:=S) 1 [] J.Data) λ_=>Xd (gE (α:=kI) 40 H ([J]:O kI)) λM=>F M) l i pre=K p:=by
  intro l;induction l with
  | nil=>intro pre i e;rw[Xag] at e;rw[e];rfl
  | cons x t U=>
   intro pre i e;have:=P x (by rw[<- e];simp);have Y:pre.length+1<=p.length:=by rw[<- e];simp
   rw[Be,AD (by decide) (by simp;omega),AA,AD (by decide) (by simp;omega),AA];exact U _ _ (by rw[<- e];simp)
 exact go p [] 0 rfl
def Lx {a:gH}(h:tC a):BI a=some a:=by unfold BI;have:=h.c;have:=h.l;rw[gQ h.p h.t,AD (by decide) (by simp;omega),AA,AD (by decide) (by simp;omega),AA,eG h.o h.d]
structure xV (b:pk):Prop where
 h:b.gN.length<=1000000
 n:b.r6.rz.length<=1000000
 a :∀x∈b.gN,tC x.gD.gH
def Hk {b:pk}(h:xV b):DK b=some b:=by
 unfold DK;have:=h.n;rw[AD (by decide) (by simp;omega),AA,AB];have U:=h.h;have go :∀(t pre:O gN) (i:Nat),pre++t=b.gN->AI (σ:=O gN) (λv2=>(λJ=>some ({ b with gN:=J })) v2) (λF (H:gN) i5 v2=>Xd (BI H.gD.gH) λK=>Xd (gE (α:=gN) 208 v2 ([{ H with gD:={ H.gD with gH:=K } }]:O gN)) λM=>F M) t i pre=some b:=by
  intro t;induction t with
  | nil=>intro pre i e;rw[Xag] at e;rw[e];rfl
  | cons x t P=>
   intro pre i e;have V:pre.length+1<=b.gN.length:=by rw[<- e];simp
   have Q:=h.a x (by rw[<- e];simp);rw[Be,Lx Q,AA,AD (by decide) (by simp;omega),AA];exact P _ _ (by rw[<- e];simp)
 exact go b.gN [] 0 rfl
def kH (h:gN):fv:=h.gD.fv
def M7 {α:Type}(bad:Nat->α->I):O α->Nat->I
 | [],_=>false
 | x::t,i=>bad i x || M7 bad t (i+1)
def JA {α:Type}{bad:Nat->α->I} :∀{l:O α} {i:Nat},M7 bad l i=false ↔∀j x,l[j]?=some x->bad (i+j) x=false
 | [],i=>by simp[M7]
 | a::t,i=>by
  unfold M7;rw[Bool.or_eq_false_iff,JA];constructor
  ·rintro⟨H,J⟩ j x F;cases j with
   | zero=>cases F;exact H
   | succ j=>have:=J j x F;rwa [show i+1+j=i+(j+1) by omega] at this
  intro h;exact⟨h 0 a rfl,λj x F=>by have:=h (j+1) x F;rwa [show i+(j+1)=i+1+j by omega] at this⟩
def fW {α σ ρ:Type}{l:O α}{bad:Nat->α->I}{st:σ->α->σ}{body:(σ->C ρ)->α->Nat->σ->C ρ}{r:C ρ}{K:σ->C ρ} (H :∀next i x s,l[i]?=some x->body next x i s=if bad i x=true then r else next (st s x)) (s:σ):AI K body l 0 s=if M7 bad l 0=true then r else K (l.foldl st s):=by
 have go :∀(t pre:O α) (s:σ),pre++t=l->AI K body t pre.length s=if M7 bad t pre.length=true then r else K (t.foldl st s):=by
  intro t;induction t with
  | nil=>intro pre s e;rfl
  | cons x t J=>
   intro pre s e;have M:l[pre.length]?=some x:=by rw[<- e];simp
   rw[Be,H _ _ _ _ M];unfold M7;cases F:bad pre.length x
   ·rw[Xj (by simp),Bool.false_or];have:=J (pre++[x]) (st s x) (by rw[<- e];simp);simp only[X11,X12,X13,Xan] at this;exact this
   rw[Xy rfl,Bool.true_or,Xy rfl]
 exact go l [] s rfl
def n0 (l:O gN):Nat:=l.countP λh=>!h.gD.fv.Addr.V6
def n1 (l:O gN):Nat:=l.countP λh=>h.gD.fv.Addr.V6
def PM {x:gN}{t:O gN}(h:x.gD.fv.Addr.V6=false):n0 (x::t)=n0 t+1/\n1 (x::t)=n1 t:=by unfold n0 n1;simp[List.countP_cons,h]
def UI {x:gN}{t:O gN}(h:x.gD.fv.Addr.V6=true):n0 (x::t)=n0 t/\n1 (x::t)=n1 t+1:=by unfold n0 n1;simp[List.countP_cons,h]
def YL {ρ:Type}{K:Int×Int->C ρ}{l:O gN}(Z:l.length<=1000000) : AC (τ:=Int×Int) (λU=>AI (σ:=Int×Int) (λ(v2,v3)=>U (v2,v3)) (λF (M:gN) i6 (v2,v3)=>AC (τ:=Int×Int) (λH=>if M.gD.fv.Addr.V6 then H (v2,(AQ (v3+1))) else H ((AQ (v2+1)),v3)) λ(P,v9)=>F (P,v9)) l 0 (0,0)) K=K ((n0 l:Int),(n1 l:Int)):=by
 have go :∀(t:O gN) (i a b:Nat),a+t.length<=1000000->b+t.length<=1000000->AI (σ:=Int×Int) (λ(v2,v3)=>K (v2,v3)) (λF (M:gN) i6 (v2,v3)=>AC (τ:=Int×Int) (λH=>if M.gD.fv.Addr.V6 then H (v2,(AQ (v3+1))) else H ((AQ (v2+1)),v3)) λ(P,v9)=>F (P,v9)) t i ((a:Int),(b:Int))=K (((a+n0 t:Nat):Int),((b+n1 t:Nat):Int)):=by
  intro t;induction t with
  | nil=>intro i a b _ _;rfl
  | cons x t Q=>
   intro i a b V Y;simp only[X12] at V Y;rw[Be];dsimp only;rw[AB];cases J:x.gD.fv.Addr.V6
   ·rw[Xj (by simp)];dsimp only;rw[AN (by omega),show ((a:Int)+1)=((a+1:Nat):Int) from rfl,Q _ _ _ (by omega) (by omega)];simp only[(PM (t:=t) J).1,(PM (t:=t) J).2,show a+1+n0 t=a+(n0 t+1) by omega]
   rw[Xy rfl];dsimp only;rw[AN (by omega),show ((b:Int)+1)=((b+1:Nat):Int) from rfl,Q _ _ _ (by omega) (by omega)];simp only[(UI (t:=t) J).1,(UI (t:=t) J).2,show b+1+n1 t=b+(n1 t+1) by omega]
 have:=go l 0 0 0 (by omega) (by omega);simp only[Xan] at this;exact this
def WN {b:pk}(F:b.gN.length<=1000000):EN b=some ((n0 b.gN:Int),(n1 b.gN:Int)):=by unfold EN;rw[YL F]
def Ru (b:pk):I:=decide ((n0 b.gN:Int)<=b.r6.rj)
def Rj (b:pk):I:=decide ((n1 b.gN:Int)<=b.r6.ri)
def u9 (l:O gN):I:=l.any λh=>h.sb
def KZ (b:pk):BX b=some { b with ru:=cond (u9 b.gN) b.ru 0 }:=by
 unfold BX u9;rw[AB];have go :∀(l:O gN) (i:Nat),AI (σ:=Unit) (λ_=>(λ_:Unit=>some ({ ({ b with ru:=0 }) with r6:=(({ b with ru:=0 }:pk).r6) }:pk)) ()) (λF (H:gN) i4 _=>if H.sb then some b else F ()) l i ()=some (cond (l.any λh=>h.sb) b { b with ru:=0 }):=by
  intro l;induction l with
  | nil=>intro i;rfl
  | cons x t J=>
   intro i;rw[Be,List.any_cons];cases K:x.sb
   ·rw[Xj (by simp)];exact J (i+1)
   rw[Xy rfl];rfl
 refine (go b.gN 0).trans ?_;cases b.gN.any λh=>h.sb<;>rfl
end Go.AX.Q29
end
