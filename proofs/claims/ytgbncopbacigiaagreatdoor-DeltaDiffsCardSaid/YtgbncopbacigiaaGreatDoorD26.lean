/-
  Texts of one proof, packed.
-/
import Derived.Test.YtgbncopbacigiaaGreatDoorD25
set_option linter.all false
set_option maxRecDepth 100000
set_option maxHeartbeats 4000000
open List renaming length_map→X10,length_append→X11,length_cons→X12,mem_singleton→X14,getElem?_eq_getElem→X15,getElem?_eq_some_iff→X16,length_drop→X17,length_take→X18,mem_cons_of_mem→X19,length_replicate→X20,length_set→X21,length_singleton→X22,mem_append→X23
open Option.some renaming injEq→X24,inj→X25
open Bool renaming and_eq_true→X27
open Nat renaming mul_le_mul_right→X31,add_mul→X32
open Option renaming bind→Xd
open List renaming range→Xb4
open ByteArray renaming empty→Xaj
open List.Pairwise renaming nil→Xbq
section
namespace Go.AX.Q29
open Go Go.AX Go.AX.sN
structure ue (s:re):Prop where
 l:s.o3.length=s.fI.length
 n:s.o3.length<=64
 h :∀b∈s.o3,b.gN.length<=256
 x:ge s
 v :∀q∈s.fI,Ug q
def M6 (s:re)(n:Int)(p:fv):gD×I:=match uD s n with
 | none=>(uN,false)
 | some i=>if Ho s n p=[] then (uN,false) else ((Ho s n p).getD (fy (s.fI.getD i ⟨0,false,false,false,0,[],[]⟩) (Ho s n p)) uN,true)
def Vb {s:re}{n:Int}{i:Nat}(h:uD s n=some i):i<s.fI.length:=by unfold uD at h;obtain⟨h,_⟩:=List.findIdx?_eq_some_iff_getElem.1 h;exact h
def gU {s:re}{n:Int}{p:fv}(h:s.o3.length<=64):(Ho s n p).length<=64:=by
 unfold Ho;split
 ·simp
 split
 ·have :∀(t:O pk) (own:Int) (q:r5),(t.flatMap (Jb own q p)).length<=t.length:=by
   intro t own q;induction t with
   | nil=>simp
   | cons b t F=>have:=Sj own q p b;rw[Xac,X11,X12];omega
  exact Xa3 (this _ _ _) h
 simp
def kP {s:re}(h:ue s)(n:Int)(p:fv):Gp s n p=some (M6 s n p):=by
 unfold Gp M6;rw[TU h.l h.n h.x,AA];cases J:uD s n with
 | none=>
  have:Ho s n p=[]:=by unfold Ho;rw[J]
  rw[this];rfl
 | some i=>
  have F:=Vb J;dsimp only;by_cases H:Ho s n p=[]
  ·rw[H,Xy rfl];rfl
  have K:0<(Ho s n p).length:=Xc7.2 H;have M:=gU (n:=n) (p:=p) h.n;have P:=VM (p:=s.fI[i]) H;rw[Xj (by simp;omega),Xj H,lc,AA];unfold xD;rw[J];dsimp only;rw[As F,AA,mB (h.v _ (Wx F)) (by omega),AA];dsimp only;rw[As P,AA];simp[F,P]
def G1 (s:re)(n:Int):O gD:=(QQ s).filterMap λp=>if (M6 s n p).2=true then some (M6 s n p).1 else none
def N1 :∀(t:O pk) {l:O fv},Jq l->(∀b∈t,b.gN.length<=256)->(t.foldl JQ l).length<=l.length+256*t.length
 | [],l,_,_=>by simp
 | b::t,l,h,F=>by obtain⟨H,K,_⟩:=Jj b h;have:=N1 t H λc J=>F c (X19 _ J);have:=F b (by simp);rw[Xai,X12];omega
def wu (s:re)(n:Int)(v:O gD)(p:fv):O gD:=v++(if (M6 s n p).2=true then some (M6 s n p).1 else none).toList
def iA (m:Nat)(v:O gD):Prop:=v.length+m<=100000
def oz {ρ:Type}{s:re}{n:Int}{next:O gD->C ρ}{body:(O gD->C ρ)->fv->Nat->O gD->C ρ}{t:O fv}{l:O gD}(F:iA t.length l) (H :∀next x j l m,x∈t->iA (m+1) l->body next x j l=next (wu s n l x)):AI next body t 0 l=next (t.foldl (wu s n) l):=by refine JI (wu s n) iA t 0 l ?_ H F;intro x _ m l h;have J:l.length+(m+1)<=100000:=h;show (l++_).length+m<=100000;rw[X11];split<;>simp<;>omega
def gh (s:re)(n:Int) :∀(t:O fv) (v:O gD),t.foldl (wu s n) v=v++t.filterMap λp=>if (M6 s n p).2=true then some (M6 s n p).1 else none
 | [],v=>by simp
 | p::t,v=>by
  rw[Xai,gh s n t];unfold wu;rw[Xbc];by_cases h:(M6 s n p).2=true
  ·rw[Xy h];simp
  rw[Xj h];simp
def nz {s:re}(h:ue s)(n:Int):Il s n=some (G1 s n):=by
 unfold Il;rw[Xw h.n h.h,AA,AB];have F:(QQ s).length<=256*s.o3.length:=by have:=N1 s.o3 (l:=[]) Xbq h.h;show (List.foldl JQ [] s.o3).length<=_;simpa using this
 have M:=h.n;refine (oz (s:=s) (n:=n) (by show [].length+_<=100000;simp;omega) ?_).trans ?_
 ·intro next p j v m hp J
  have K:v.length+(m+1)<=100000:=J;cases H:M6 s n p with
  | mk r ok=>
   have e:wu s n v p=v++(if ok=true then some r else none).toList:=by unfold wu;rw[H]
   rw[kP h,H,AA,e];dsimp only;rw[AB];cases ok
   ·simp
   rw[Xy rfl,AD (by decide) (by simp;omega),AA];rfl
 show some (List.foldl (wu s n) [] (QQ s))=_;rw[gh,Xax];rfl
def Fo (s:re):sM:=⟨s,s.fI.map λq=>G1 s q.r4⟩
def yE (s:re)(v:O (O gD))(q:r5):O (O gD):=v++[G1 s q.r4]
def iF (m:Nat)(v:O (O gD)):Prop:=v.length+m<=1000
def cP {s:re}(h:ue s):Ez s=some (Fo s):=by
 unfold Ez Fo;rw[AB];have go :∀(t:O r5) (v:O (O gD)),t.foldl (yE s) v=v++t.map λq=>G1 s q.r4:=by
  intro t;induction t with
  | nil=>intro v;simp
  | cons q t H=>intro v;rw[Xai,H];unfold yE;simp
 have P:=h.l;have Q:=h.n;refine (JI (K:=λJ=>some (⟨s,J⟩:sM)) (yE s) iF s.fI 0 [] ?_ ?_ (by show [].length+_<=1000;simp;omega)).trans ?_
 ·intro q _ m v F;have M:v.length+(m+1)<=1000:=F;show (v++[G1 s q.r4]).length+m<=1000;simp;omega
 ·intro next q j v m _ F
  have M:v.length+(m+1)<=1000:=F;rw[nz h,AA,AD (by decide) (by simp;omega),AA];rfl
 rw[go,Xax]
def TB {α ρ:Type}{K:O α->C ρ}{body:(O α->C ρ)->α->Nat->O α->C ρ}{t:O α}(P:t.length<=100000) (F :∀next x j v,x∈t->v.length+1<=100000->body next x j v=next (v++[x])):AI K body t 0 []=K t:=by
 have h:=JI (K:=K) (body:=body) (λ(v:O α) x=>v++[x]) (λm v=>v.length+m<=100000) t 0 [] (λx _ m v h=>by
  have H:v.length+(m+1)<=100000:=h;show (v++[x]).length+m<=100000
  simp;omega) (λnext x j v m J h=>F next x j v J (by have H:v.length+(m+1)<=100000:=h;omega)) (by show [].length+_<=100000;simp;omega)
 rw[h];congr 1;have go :∀(t v:O α),t.foldl (λv x=>v++[x]) v=v++t:=by
  intro t;induction t with
  | nil=>intro v;simp
  | cons x t M=>intro v;rw[Xai,M];simp
 simpa using go t []
structure yI (f:mu):Prop where
 a:f.rU.length<=100000
 b:f.r7.length<=100000
 c:f.oE.length<=100000
 d:f.rI.length<=100000
 e:f.n9.length<=100000
 o:f.ry.n5.length<=100000
 s:f.ry.oT.length<=100000
 t :∀x∈f.ry.oT,x.n7.length<=100000/\x.oT.length<=100000
def nb {f:mu}(h:yI f):DX f=some f:=by
 unfold DX;have:=h.a;have:=h.b;have:=h.c;have:=h.d;have:=h.e;have:=h.o;rw[AD (by decide) (by simp;omega),AA,AD (by decide) (by simp;omega),AA,AD (by decide) (by simp;omega),AA,AD (by decide) (by simp;omega),AA, AD (by decide) (by simp;omega),AA,AD (by decide) (by simp;omega),AA,AB];refine (TB h.s ?_).trans rfl;intro next x j v F H
 obtain⟨J,K⟩:=h.t x F;rw[AD (by decide) (by simp;omega),AA,AD (by decide) (by simp;omega),AA,AD (by decide) (by simp;omega),AA]
structure xT (p:r5):Prop where
 d:p.ta.length<=100000
 p:p.sr.length<=100000
def O9 {p:r5}(h:xT p):Ey p=some p:=by unfold Ey;have:=h.d;have:=h.p;rw[AD (by decide) (by simp;omega),AA,AD (by decide) (by simp;omega),AA]
structure xN (s:re):Prop where
 f:yI s.mu
 p :∀q∈s.fI,xT q
 b :∀b∈s.o3,xV b
 l:s.fI.length<=64/\s.o3.length<=64
def lA {s:re}(h:xN s):E5 s=some s:=by
 have J:=h.l;unfold E5;rw[nb h.f,AA,AB];refine (TB (by omega) ?_).trans ?_
 ·intro next x j v F H
  rw[O9 (h.p x F),AA,AD (by decide) (by simp;omega),AA]
 show AC _ _=_;rw[AB];refine (TB (by omega) ?_).trans rfl;intro next x j v F H
 rw[Hk (h.b x F),AA,AD (by decide) (by simp;omega),AA]
def ik {s:re}(h:ue s)(F:xN s)(H:EQ s=some true):FG s=some (Fo s,0):=by unfold FG;rw[H,AA,Xj (by decide),lA F,AA,cP h,AA]
def WY :∀(l:O gN) (p:fv),(G5 l p).2=true->(G5 l p).1.gD.fv=p
 | [],p,h=>by have:(G5 [] p).2=false:=rfl;rw[this] at h;cases h
 | x::t,p,h=>by
  unfold G5 at h⊢;by_cases e:fv.rO x.gD.fv p=true
  ·rw[Xy e];exact (fv.rb _ _).1 e
  rw[Xj e] at h⊢;exact WY t p h
def cX {b:pk}{p:fv}(h:(Fz b p).2=true):(Fz b p).1.fv=p:=by
 unfold Fz eT at h⊢;split at h
 ·rename_i F;rw[Xy F];simp only[X27] at F;exact WY _ _ F.1
 cases h
def LR (s:re):Prop:=∀q∈s.fI,∀b∈s.o3,∀p,(Fz b p).2=true->(Lc s.mu.sK (Fz b p).1 q).2.2=0->(Lc s.mu.sK (Fz b p).1 q).2.1=0->(Lc s.mu.sK (Fz b p).1 q).1.fv=(Fz b p).1.fv
def eN {s:re}(U:s.o3.length=s.fI.length)(h:LR s){n:Int}{p:fv}{r:gD}(F:r∈Ho s n p):r.fv=p:=by
 unfold Ho at F;split at F
 ·cases F
 rename_i i M;have H:=Vb M;split at F
 ·obtain⟨b,P,F⟩:=Xc5.1 F;have Q:s.fI.getD i ⟨0,false,false,false,0,[],[]⟩=s.fI[i]:=by simp[H]
  rw[Q] at F;unfold Jb at F;split at F
  ·rename_i K;split at F
   ·rename_i J;simp only[X27,Xbi] at J;rw[X14.1 F,h _ (Wx H) b P p K J.1 J.2,cX K]
   cases F
  cases F
 cases F
def Ys {s:re}{n:Int}{p:fv}(h:(M6 s n p).2=true):(M6 s n p).1∈Ho s n p:=by
 unfold M6 at h⊢;split at h
 ·cases h
 rename_i i J;split at h
 ·cases h
 rename_i F;rw[Xj F];have H:=VM (p:=s.fI.getD i ⟨0,false,false,false,0,[],[]⟩) F;dsimp only;rw[Wq,X15 H,Xao];exact Wx H
def fF {f:fv->C gD}(F :∀p r,f p=some r->kR r=p) :∀{l:O fv},Jq l->si kR Ab (l.filterMap f)
 | [],_=>Xbq
 | p::t,h=>by
  obtain⟨K,M⟩:=Wu.1 h;have J:=fF F (l:=t) M;rw[Xbc];cases hp:f p with
  | none=>exact J
  | some r=>refine Wu.2 ⟨λx H=>?_,J⟩;obtain⟨q,P,H⟩:=List.mem_filterMap.1 H;rw[F p r hp,F q x H];exact K q P
def QM {s:re}(H:s.o3.length=s.fI.length)(h:LR s)(n:Int):si kR Ab (G1 s n):=by
 unfold G1;refine fF (λp r F=>?_) (aD s);split at F
 ·rename_i J;cases F;exact eN H h (Ys J)
 cases F
def FH {α:Type}{F:Type}[DecidableEq F]{key:α->F}{cmp:F->F->Int}{same:α->α->I} :∀(a b:O α),(CX key cmp same a b).length<=a.length+b.length
 | [],[]=>by unfold CX;simp
 | [],y::b=>by have:=FH (key:=key) (cmp:=cmp) (same:=same) [] b;unfold CX;simp at this⊢;omega
 | x::a,[]=>by have:=FH (key:=key) (cmp:=cmp) (same:=same) a [];unfold CX;simp at this⊢;omega
 | x::a,y::b=>by
  have H:=FH (key:=key) (cmp:=cmp) (same:=same) a (y::b);have J:=FH (key:=key) (cmp:=cmp) (same:=same) (x::a) b;have K:=FH (key:=key) (cmp:=cmp) (same:=same) a b;simp only[X12] at H J K;unfold CX;split
  ·simp only[X12];omega
  split
  ·simp only[X12];omega
  split<;>simp only[X12]<;>omega termination_by a b=>a.length+b.length
def Q0 {s:re}(h:ue s)(n:Int):(G1 s n).length<=16384:=by
 have F:(G1 s n).length<=(QQ s).length:=List.length_filterMap_le _ _;have H:(QQ s).length<=256*s.o3.length:=by have:=N1 s.o3 (l:=[]) Xbq h.h;show (List.foldl JQ [] s.o3).length<=_;simpa using this
 have:=h.n;omega
def pH (s F:re):O rG:=F.fI.flatMap λq=>(CX kR Ab Dl (G1 s q.r4) (G1 F q.r4)).map (uA q.r4)
def fc {ρ:Type}{s F:re}(h:ue s)(Q:ue F)(hp:LR s)(U:LR F)(ha:F.fI.map (·.r4)=s.fI.map (·.r4))(hs :∀n,∀r∈G1 F n,tC r.gH)(K:O rG->C ρ) : AI (σ:=(O rG)) (λJ=>K J) (λH (V:r5) M J=>Xd (iX (Fo s).rQ (M:Int)) λY=>Xd (iX (Fo F).rQ (M:Int)) λZ=>Xd (EU V.r4 Y Z) λa1=>Xd (gE (α:=rG) 240 J a1) λa6=>H a6 ) F.fI 0 []=K (pH s F):=by
 have hl:F.fI.length<=64:=by have:=Q.l;have:=Q.n;omega
 have a7:s.fI.length=F.fI.length:=by have:=congrArg List.length ha;simpa using this.symm
 refine (O3 (λt i (v:O rG)=>F.fI.drop i=t/\i+t.length=F.fI.length/\v.length<=i*40000) (λt i v=>K (v++t.flatMap λq=>(CX kR Ab Dl (G1 s q.r4) (G1 F q.r4)).map (uA q.r4))) ?_ ?_ F.fI 0 [] ⟨rfl,by omega,by simp⟩).trans ?_
 ·intro i v _;simp
 ·rintro next x t i v ⟨h1,h2,h3⟩ ih
  have hi:i<F.fI.length:=by simp at h2;omega
  have hx:F.fI[i]=x:=by have:=Xbb hi;rw[h1] at this;exact (List.cons.inj this).1.symm
  have P:s.fI[i].r4=x.r4:=by
   have e1:(F.fI.map (·.r4))[i]?=some x.r4:=by rw[Xd5,X15 hi,hx];rfl
   rw[ha,Xd5,X15 (by omega)] at e1;exact X25 e1
  have o1:iX (Fo s).rQ (i:Int)=some (G1 s x.r4):=by
   have:i<(s.fI.map λq=>G1 s q.r4).length:=by simp;omega
   show iX (s.fI.map λq=>G1 s q.r4) (i:Int)=_;rw[As this,Xas,P]
  have o2:iX (Fo F).rQ (i:Int)=some (G1 F x.r4):=by
   have:i<(F.fI.map λq=>G1 F q.r4).length:=by simp;omega
   show iX (F.fI.map λq=>G1 F q.r4) (i:Int)=_;rw[As this,Xas,hx]
  have l1:=Q0 h x.r4;have l2:=Q0 Q x.r4;have ld:=FH (key:=kR) (cmp:=Ab) (same:=Dl) (G1 s x.r4) (G1 F x.r4);rw[o1,AA,o2,AA,XT (QM h.l hp _) (QM Q.l U _) (by omega) (hs x.r4),AA,AD (by decide) (by simp;omega),AA];rw[ih _ ⟨by rw[<- List.drop_drop (i:=1),h1];rfl,by simp at h2;omega,by simp;omega⟩,Xac,Xau]
 rw[Xax];rfl
def K6 (p:r5):Int:=(A5 p).getD 0
def Kt (s:re)(i:Nat)(b:pk)(r:sX):Int×O r5×O pk:=
 if r.Kind=1 then ((EO s.mu b r.rZ).2,s.fI,s.o3.set i (EO s.mu b r.rZ).1)
 else if r.Kind=2 then ((GZ b).2,s.fI,s.o3.set i (GZ b).1)
 else if r.Kind=3 then ((IQ b r.uC r.tv).2,s.fI,s.o3.set i (IQ b r.uC r.tv).1)
 else if r.Kind=4 then ((if K6 r.r5=0/\r.r5.r4≠r.sE then 33 else K6 r.r5),s.fI.set i r.r5,s.o3)
 else if r.Kind=5 then (0,s.fI,s.o3.set i (OG b r.tv))
 else (1,s.fI,s.o3)
def Xq (s:re)(x:Int×O r5×O pk):re:=⟨s.mu,x.2.1,x.2.2⟩
def zC:sM:=⟨⟨⟨0,[],0,0,0,0,0,0,[],[],[],0,⟨[],[]⟩,[]⟩,[],[]⟩,[]⟩
def uX:pk:=⟨⟨0,Xaj,0,0,[]⟩,false,[],0⟩
def UQ (s:re)(r:sX):sM×O rG×Int:=match uD s r.sE with
 | none=>(zC,[],32)
 | some i=>
  if (Kt s i (s.o3.getD i uX) r).1=0 then (Fo (Xq s (Kt s i (s.o3.getD i uX) r)),pH s (Xq s (Kt s i (s.o3.getD i uX) r)),0)
  else (zC,[],(Kt s i (s.o3.getD i uX) r).1)
structure vI (s:re)(r:sX):Prop where
 f:xm s.mu
 b :∀b∈s.o3,w9 b/\b.r6.Set.size<=maxLen
 u:uv r.rZ
 p:xT r.r5
 c:A5 r.r5=some (K6 r.r5)
def gx {α:Type}{l:O α}{i:Nat}(h:i<l.length)(x:α):sx l (i:Int) x=some (l.set i x):=by obtain⟨H,e,F,_⟩:=Ok.sx (l:=l) (i:=(i:Int)) (x:=x) ⟨by omega,by omega⟩;rw[e,F,Xa7]
def fw {ρ:Type}{s:re}{r:sX}(F:vI s r){i:Nat}(hi:i<s.o3.length)(hp:i<s.fI.length)(K:Int×O r5×O pk->C ρ) : AC (τ:=Int×(O r5)×(O pk)) (λH=>if (r.Kind==1) then Xd (iX s.o3 (i:Int)) λv4=>Xd (FV s.mu v4 r.rZ) λ(v5,v6)=>Xd (iX s.o3 (i:Int)) λv7=>Xd (sx s.o3 (i:Int) v5) λv8=>H (v6,s.fI,v8) else AC (τ:=Int×(O r5)×(O pk)) (λk9=>if (r.Kind==2) then Xd (iX s.o3 (i:Int)) λa1=>Xd (FA a1) λ(v11,v12)=>Xd (iX s.o3 (i:Int)) λap=>Xd (sx s.o3 (i:Int) v11) λa6=>k9 (v12,s.fI,a6) else AC (τ:=Int×(O r5)×(O pk)) (λJ=>if (r.Kind==3) then Xd (iX s.o3 (i:Int)) λa7=>Xd (GW a7 r.uC r.tv) λ(v17,a8)=>Xd (iX s.o3 (i:Int)) λaq=>Xd (sx s.o3 (i:Int) v17) λaa=>J (a8,s.fI,aa) else AC (τ:=Int×(O r5)×(O pk)) (λM=>if (r.Kind==4) then Xd (A5 r.r5) λP=>AC (τ:=I) (λQ=>if (P==0) then Q (cond true (r.r5.r4 !=r.sE) false) else Q false ) λab=>AC (τ:=Int) (λU=>if ab then U 33 else U P ) λae=>Xd (Ey r.r5) λaf=>Xd (iX s.fI (i:Int)) λar=>Xd (sx s.fI (i:Int) af) λag=>M (ae,ag,s.o3) else AC (τ:=Int×(O pk)) (λV=>if (r.Kind==5) then Xd (iX s.o3 (i:Int)) λah=>Xd (FD ah r.tv) λai=>Xd (iX s.o3 (i:Int)) λau=>Xd (sx s.o3 (i:Int) ai) λaj=>V (0,aj) else V (1,s.o3) ) λ(v35,ak)=>M (v35,s.fI,ak) ) λ(v37,al,v39)=>J (v37,al,v39) ) λ(v40,v41,an)=>k9 (v40,v41,an) ) λ(ao,v44,v45)=>H (ao,v44,v45) ) K=K (Kt s i s.o3[i] r):=by
 obtain⟨Y,hz⟩:=F.b _ (Wx hi);have g:iX s.o3 (i:Int)=some s.o3[i]:=As hi;have gp:iX s.fI (i:Int)=some s.fI[i]:=As hp;have st :∀x:pk,sx s.o3 (i:Int) x=some (s.o3.set i x):=λx=>gx hi x;have sp :∀x:r5,sx s.fI (i:Int) x=some (s.fI.set i x):=λx=>gx hp x;unfold Kt;rw[AB];by_cases Z:r.Kind=1
 ·rw[Xy (by simpa using Z),Xy Z,g,AA,VE F.f Y hz F.u,AA];dsimp only;rw[AA,st,AA]
 rw[Xj (by simpa using Z),Xj Z,AB];by_cases k2:r.Kind=2
 ·rw[Xy (by simpa using k2),Xy k2,g,AA,VW Y,AA];dsimp only;rw[AA,st,AA]
 rw[Xj (by simpa using k2),Xj k2,AB];by_cases H:r.Kind=3
 ·rw[Xy (by simpa using H),Xy H,g,AA,Xn Y,AA];dsimp only;rw[AA,st,AA]
 rw[Xj (by simpa using H),Xj H,AB];by_cases k4:r.Kind=4
 ·rw[Xy (by simpa using k4),Xy k4,F.c,AA,AB];by_cases c0:K6 r.r5=0
  ·rw[Xy (by simpa using c0)];by_cases ca:r.r5.r4=r.sE
   ·have e:(cond true (r.r5.r4 !=r.sE) false)=false:=by simp[ca]
    rw[e];show AC _ _=_;rw[AB,Xj (by decide)];dsimp only;rw[O9 F.p,AA,gp,AA,sp,AA,Xj (by simp[ca])]
   have e:(cond true (r.r5.r4 !=r.sE) false)=true:=by simp[ca]
   rw[e];show AC _ _=_;rw[AB,Xy rfl];dsimp only;rw[O9 F.p,AA,gp,AA,sp,AA,Xy ⟨c0,ca⟩]
  rw[Xj (by simpa using c0)];show AC _ _=_;rw[AB,Xj (by decide)];dsimp only;rw[O9 F.p,AA,gp,AA,sp,AA,Xj (λh=>c0 h.1)]
 rw[Xj (by simpa using k4),Xj k4,AB];by_cases k5:r.Kind=5
 ·rw[Xy (by simpa using k5),Xy k5,g,AA,WT Y.xy,AA,AA,st,AA]
 rw[Xj (by simpa using k5),Xj k5]
structure wh (s:re)(s':re):Prop where
 o:ue s'
 p:LR s'
 a:s'.fI.map (·.r4)=s.fI.map (·.r4)
 r :∀n,∀r∈G1 s' n,tC r.gH
def kT {s:re}{r:sX}(h:ue s)(Q:xN s)(hp:LR s)(U:vI s r) (V :∀i,uD s r.sE=some i->(Kt s i (s.o3.getD i uX) r).1=0->wh s (Xq s (Kt s i (s.o3.getD i uX) r))) : FC (Fo s) r=some (UQ s r):=by
 unfold FC UQ;show Xd (E5 s) _=_;rw[lA Q,AA,lc,AA];unfold xD;cases M:uD s r.sE with
 | none=>dsimp only;rw[Xy (by decide)];rfl
 | some i=>
  have J:=Vb M;have H:i<s.o3.length:=by have:=h.l;omega
  have hg:s.o3.getD i uX=s.o3[i]:=by simp[H]
  have F:=V i M;dsimp only;rw[Xj (by simp),fw U H J,hg];rw[hg] at F;generalize Kt s i s.o3[i] r=x at F⊢;obtain⟨e,P,bs⟩:=x;dsimp only at F⊢;by_cases he:e=0
  ·subst he;have N:=F rfl;rw[Xj (by decide),Xy rfl];show Xd (Ez (Xq s (0,P,bs))) _=_;rw[cP N.o,AA,AB];exact fc h N.o hp N.p N.a N.r λK=>some (Fo (Xq s (0,P,bs)),K,0)
  rw[Xy (by simpa using he),Xj he];rfl
instance (F:Int):Tt (C2 F):=by unfold C2;exact Tt.so
instance (F:O n8) (H:n8):Tt (B0 F H):=by unfold B0;exact Tt.so
instance (F:Int) (H:gH) (J:Int) (K:Int) (M:Int) (P:Int):Tt (E7 F H J K M P):=by unfold E7;exact Tt.so
def Ro {l:O oF}(F:l.length<=100000)(H :∀s∈l,s.n7.length<=100000):GK l=some l:=by
 unfold GK;rw[AB];refine (TB F ?_).trans rfl;intro next x j v J K
 have:=H x J;rw[AD (by decide) (by simp;omega),AA,AD (by decide) (by simp;omega),AA]
instance (r:Int):Tt (D9 r):=by unfold D9;exact Tt.so
instance (a:gH):Tt (Ds a):=by unfold Ds;exact Tt.so
instance (p:O oF):Tt (Du p):=⟨⟨_,Cf p⟩⟩
instance (r o:Int):Tt (Fa r o):=by unfold Fa;exact Tt.so
instance (p:fv):Tt (Ae p):=⟨⟨_,(Im p).1⟩⟩
def j6 {p:O oF}{n:Nat}(h :∀s∈p,s.n7.length<=n):tg p<=n*p.length:=Tq h
def LG {n:Nat}{l:O oF}(J:l.length<=n)(F :∀s∈l,s.n7.length<=n)(H:n<=10000):Ok (DG l) λf=>f=l.flatMap λs=>s.n7:=by have:=j6 F;have K:n*l.length<=10000*10000:=Nat.mul_le_mul H (by omega);exact⟨_,Et (by omega),rfl⟩
theorem Qa {a:r5}(F:a.ta.length<=1000000000)(H:a.sr.length<=1000000000):Tt (A5 a):=by unfold A5;have J:=λi (h:i<a.ta.length)=>NU h F;have K:=λi (h:i<a.sr.length)=>NU h H;exact Tt.so
structure xZ (p:r5):Prop where
 d:p.ta.length<=1000
 f:p.sr.length<=1000
def N4 {n:Nat}{l:O oF}{a m:Int}(Q:l.length<=n)(H :∀s∈l,s.n7.length<=n)(hn:n<=5000) : Ok (Ei l a m) λr=>r.1.length<=n+100/\∀s∈r.1,s.n7.length<=n+100:=by
 unfold Ei;have:=Jz (l:=l) (by omega) (λs F=>by have:=H s F;omega);refine .join (λv=>v=false->0<=m) (λk J=>?_) λv U=>.ite (λ_=>.ret ⟨by simp,by simp⟩) λV=>?_
 ·refine .bind Ok.of λ_ _=>.ite (λ_=>J _ (by simp)) λ_=>.ite (λ_=>J _ (by simp)) λ_=>.ite (λ_=>J _ (by simp)) λ_=>J _ λh=>?_;simp at h;exact h
 have Y:0<=m:=U (by simpa using V);refine .bind (LG Q H (by omega)) λf hf=>.ite (λ_=>.ret ⟨by simp,by simp⟩) λhm=>?_;have a7:f.length<=n*n:=by
  rw[hf,List.length_flatMap];have :∀(l:O oF) (H :∀s∈l,s.n7.length<=n),(l.map λs=>s.n7.length).sum<=l.length*n:=by
   intro l;induction l with
   | nil=>intro _;simp
   | cons s l ih=>intro H;have:=ih λs F=>H s (by simp[F]);have:=H s (by simp);simp only[Xam,List.sum_cons,X12,X32];omega
  exact Xa3 (this l H) (X31 n Q)
 have a8:n*n<=5000*5000:=Nat.mul_le_mul hn hn;have a6:m<=64:=by rw[AN (by omega)] at hm;simp at hm;omega
 rw[Ro (by omega) (λs F=>by have:=H s F;omega),AA];refine .ite (λ_=>.ret ⟨by simp only;omega,λs F=>by have:=H s F;omega⟩) λ_=>?_;refine .join (λr:O Int=>r.length<=64) (λk J=>?_) λr hr=>?_
 ·refine .sP (λs:Int×O Int=>0<=s.1/\s.1<=m/\s.2.length=s.1.toNat) (λs=>(m-s.1).toNat) ⟨by simp,by simpa using Y,by simp⟩ (BK (by simp only;omega)) ?_;rintro next ⟨p,r⟩ ⟨Z,P,g3⟩ a1
  simp only at Z P g3;refine .ite (λM=>?_) λ_=>J _ (by omega);simp only[Xe] at M;refine .bind (.gE (by decide) (by simp;omega)) λw K=>?_;rw[AN (by omega)];refine a1 _ ⟨by simp only;omega,by simp only;omega,?_⟩ (by simp only;omega);simp only[K,X11,X22];omega
 rw[AA];refine .join (λv=>v=true->0<l.length) (λk J=>.ite (λM=>?_) λ_=>J _ (by simp)) λv U=>?_
 ·simp only[Xe] at M;exact .bind (.iX (by omega)) λ_ _=>J _ λ_=>by omega
 refine .join (λp:O oF×O Int=>p.1.length<=n/\(∀s∈p.1,s.n7.length<=n)/\p.2.length<=n+64) (λk J=>.ite (λM=>?_) λ_=>J _ ⟨Q,H,by simp only;omega⟩) ?_
 ·have hl:=U M;refine .bind (.iX (by omega)) λs F=>?_;have:=H s F.1;refine .bind (.gE (by decide) (by omega)) λw K=>.bind (.part ⟨by omega,by omega,Int.le_refl _⟩) λq hq=>J _ ⟨?_,?_,?_⟩
  ·simp only[hq.1,X18,X17];omega
  ·intro s F;simp only[hq.1] at F;exact H s (List.drop_subset _ _ (Xce F))
  simp only[K,X11];omega
 rintro⟨p,q⟩ ⟨Z,P,g3⟩;simp only at Z P g3;refine .bind (.gE (by decide) (by simp;omega)) λw K=>.ret ⟨by simp only[K,X11,X22];omega,λs F=>?_⟩;simp only[K,X23,X14] at F;rcases F with rfl|F
 ·simp only;omega
 have:=P s F;omega
def QC {n:Nat}{o:Int}{a:gH}(h:ui n a)(Z:n<=1000):Ok (Gx o a) λr=>r.Path=a.Path/\r.lf=a.lf/\r.fT=a.fT.filter (λc=>c.A !=0&&c.A !=o)/\r.n8=a.n8.filter (λc=>c.A !=o)/\ r.gS=a.gS/\r.Next=a.Next/\r.sd=a.sd/\r.rh=a.rh/\r.rX=a.rX:=by
 have hc:=h.c;have hl:=h.l;unfold Gx;rw[Lx (h.mono Z).x3,AA];refine .join (λr=>r=a.fT.filter (λc=>c.A !=0&&c.A !=o)) (λk M=>?_) λcs P=>?_
 ·refine .tn (λi r=>r=(a.fT.take i).filter (λc=>c.A !=0&&c.A !=o)) rfl (λr H=>M _ (by rw[H,Xcj])) ?_;rintro next x i r J rfl K
  have hi:=(X16.1 J).1;refine .join (λb=>b=(x.A !=0&&x.A !=o)) (λV F=>.ite (λh=>F _ (by rw[h,Xc6];rfl)) λh=>F _ (by simp at h;simp[h])) λb Y=>?_;refine .join (λr=>r=(a.fT.take (i+1)).filter (λc=>c.A !=0&&c.A !=o)) (λV F=>.ite (λh=>?_) λh=>F _ ?_) λr H=>K _ H
  ·refine .bind (.gE (by decide) ?_) λw Q=>F _ ?_
   ·have:=Xcb (λc:r8=>c.A !=0&&c.A !=o) (a.fT.take i);simp at this⊢;omega
   rw[Q,Xb8,J,Xaa];rw[Y] at h;simp only[Option.toList_some,List.filter_cons,h,Xdl,List.filter_nil]
  rw[Y] at h;rw[Xb8,J,Xaa];simp only[Option.toList_some,List.filter_cons,h,Xd0,List.filter_nil,Xag];simp
 refine .join (λr=>r=a.n8.filter (λc=>c.A !=o)) (λk M=>?_) λls U=>.ret ⟨rfl,rfl,P,U,rfl,rfl,rfl,rfl,rfl⟩;refine .tn (λi r=>r=(a.n8.take i).filter (λc=>c.A !=o)) rfl (λr H=>M _ (by rw[H,Xcj])) ?_;rintro next x i r J rfl K
 have hi:=(X16.1 J).1;refine .join (λr=>r=(a.n8.take (i+1)).filter (λc=>c.A !=o)) (λV F=>.ite (λh=>?_) λh=>F _ ?_) λr H=>K _ H
 ·refine .bind (.gE (by decide) ?_) λw Q=>F _ ?_
  ·have:=Xcb (λc:n8=>c.A !=o) (a.n8.take i);simp at this⊢;omega
  rw[Q,Xb8,J,Xaa];simp only[Option.toList_some,List.filter_cons,h,Xdl,List.filter_nil]
 rw[Xb8,J,Xaa];simp only[Option.toList_some,List.filter_cons,h,Xd0,List.filter_nil,Xag];simp
def Rk {n:Nat}{r o:Int}{a:gH}(h:ui n a):Ok (Hh r o a) λx=>ui n x.1:=by unfold Hh;refine .bind Ok.of λ_ _=>.ite (λ_=>.ret (.zero ..)) λ_=>.join (λ_=>True) (λk F=>Ok.q) λ_ _=>.join (λ_=>True) (λk F=>Ok.q) λ_ _=>?_;refine .ite (λ_=>.ret (.zero ..)) λ_=>.join (λ_=>True) (λk F=>Ok.q) λ_ _=>.join (λ_=>True) (λk F=>Ok.q) λ_ _=>.ret ?_;exact⟨h.p,h.s,h.c,h.l,h.o,h.d⟩
instance (o:Int) (a:gH) (n:Int):Tt (DN o a n):=by unfold DN;refine Ok.tt (Q:=λ_=>True) (.join (λ_=>True) (λk K=>?_) λ_ _=>.ret trivial);refine .for_ (λ_=>K _ trivial) λnext x i s U V F=>.join (λ_=>True) (λY H=>.join (λ_=>True) (λZ J=>?_) λ_ _=>H _ trivial) λ_ _=>F _;refine .sP (λv:Int=>0<=v/\v<=3) (λv=>v.toNat) (by omega) (BK (by decide)) λnext v hv M=>.ite (λP=>?_) λ_=>J _ trivial;simp only[Xe] at P;refine .bind Ok.of λ_ _=>.ite (λ_=>.ret trivial) λ_=>?_;rw[AN (by omega)];exact M _ (by omega) (by omega)
theorem UG {n:Nat}{l:O oF}{a:Int}(F:l.length<=n)(H :∀s∈l,s.n7.length<=n)(J:n<=10000):Tt (FW l a):=by unfold FW;have:=(LG F H J).tt;exact Tt.so
theorem Nu {n:Nat}{o:Int}{r:gD}{p:r5}(F:ui n r.gH)(H:n<=10000):Tt (Es o r p):=by unfold Es;have:=UG (a:=p.r4) F.p F.s H;exact Tt.so
def TN {n:Nat}{o:Int}{r:gD}{p:r5}(F:ui n r.gH)(hp:xZ p)(hn:n<=1000) : Ok (C9 o r p) λx=>ui (n+100) x.1.gH/\(x.2.2=0->x.2.1=0->x.1.fv=r.fv/\x.1.rT=r.rT):=by
 unfold C9;have:=Px F (by omega);have:=Nu (o:=o) (p:=p) F (by omega);have:=Qa (a:=p) (by have:=hp.d;omega) (by have:=hp.f;omega);refine .join (λ_=>True) (λk hk=>Ok.q) λ_ _=>.ite (λ_=>.ret ⟨.zero ..,λh=>by cases h⟩) λ_=>?_;refine .bind Ok.of λ_ _=>.ite (λh=>.ret ⟨.zero ..,λH=>by simp at h;exact absurd H h⟩) λ_=>.bind Ok.of λ_ _=>.ite (λh=>.ret ⟨.zero ..,λ_ H=>by simp at h;exact absurd H h⟩) λ_=>.bind Ok.of λ_ _=>?_;refine .bind (N4 F.p F.s (by omega)) ?_;rintro⟨q,e⟩ ⟨J,K⟩;simp only at J K;refine .ite (λh=>.ret ⟨.zero ..,λH=>by simp at h;exact absurd H h⟩) λ_=>.bind (QC F (by omega)) λa P=>?_;obtain⟨a1,M,Q,U,_⟩:=P;have V:ui (n+100) ({ a with Path:=q,rh:=(-1) }):=by
  refine⟨J,K,?_,?_,?_,?_⟩
  ·simp only[Q];exact Xa3 (Xcb _ _) (Xa3 F.c (by omega))
  ·simp only[U];exact Xa3 (Xcb _ _) (Xa3 F.l (by omega))
  ·simp only[M];exact Xa3 F.o (by omega)
  simp only[M];exact λu Y=>Xa3 (F.d u Y) (by omega)
 refine .bind (Rk V) ?_;rintro⟨x,e2⟩ Z;exact .ret ⟨Z,λ_ _=>⟨rfl,rfl⟩⟩
def lp {p:O oF}{s:oF}(h:s∈p):s.n7.length<=tg p:=by
 induction p with
 | nil=>cases h
 | cons y t F=>
  rw[ED];rcases Wp.1 h with rfl|h
  ·omega
  have:=F h;omega
def VA.zo {a:gH}(v:VA a):ui 300 a:=by obtain⟨J,K⟩:=H4 v.p;have M:=(HZ.1 v.c).2.2;have P:=(HU.1 v.l).2.2;have Q:=v.e;exact⟨by omega,λs F=>by have:=lp F;omega,by omega,by omega,by omega,λu H=>by have:=(Ge v.O H).2.2.2.2;omega⟩
def YZ :∀(l:O gN) (p:fv),(G5 l p).2=true->(G5 l p).1∈l
 | [],p,h=>by have:(G5 [] p).2=false:=rfl;rw[this] at h;cases h
 | x::t,p,h=>by
  unfold G5 at h⊢;by_cases e:fv.rO x.gD.fv p=true
  ·rw[Xy e];simp
  rw[Xj e] at h⊢;exact X19 _ (YZ t p h)
def kC {b:pk}{p:fv}(h:(Fz b p).2=true) :∃x∈b.gN,(Fz b p).1=x.gD:=by
 unfold Fz eT at h⊢;split at h
 ·rename_i F;rw[Xy F];simp only[X27] at F;exact⟨_,YZ _ _ F.1,rfl⟩
 cases h
structure VS (s:re):Prop where
 b :∀b∈s.o3,VR b
 p :∀q∈s.fI,xZ q
def VS.exp {s:re}(h:VS s) :∀q∈s.fI,∀b∈s.o3,∀p,(Fz b p).2=true-> C9 s.mu.sK (Fz b p).1 q=some (Lc s.mu.sK (Fz b p).1 q)/\ui 400 (Lc s.mu.sK (Fz b p).1 q).1.gH/\ ((Lc s.mu.sK (Fz b p).1 q).2.2=0->(Lc s.mu.sK (Fz b p).1 q).2.1=0->(Lc s.mu.sK (Fz b p).1 q).1.fv=(Fz b p).1.fv):=by
 intro q H b J p K;obtain⟨x,M,e⟩:=kC K;rw[e];have P:Eh x.gD.gH=true:=by have:=((h.b b J).ok x M).2;simp only[vL,X27] at this;exact this.1
 obtain⟨y,F,Q,U⟩:=TN (o:=s.mu.sK) (r:=x.gD) (p:=q) (Nw.1 P).zo (h.p q H) (by omega);have e2:Lc s.mu.sK x.gD q=y:=by unfold Lc;rw[F];rfl
 rw[e2];exact⟨F,Q,λa b=>(U a b).1⟩
def VS.ok {s:re}(h:VS s):ge s:=λq F b H p J=>(h.exp q F b H p J).1
def VS.pre {s:re}(h:VS s):LR s:=λq F b H p J=>(h.exp q F b H p J).2.2
structure MP (n:Int)(p:r5):Prop where
 wi:p.r4=n
 w5:0<=p.rV/\p.rV<=4
 yg:p.ta=[] \/∃x,p.ta=[x]/\101<=x/\x<=104
 wG:p.sr.length<=5/\(∀(i:Nat) (x:sr),p.sr[i]?=some x->101<=x.r4/\x.r4<=105/\-2<=x.Value/\x.Value<=2)/\∀(i:Nat) (x y:sr),p.sr[i]?=some x->p.sr[i+1]?=some y->x.r4<y.r4
def MP.sm {n:Int}{p:r5}(h:MP n p):xZ p:=by refine⟨?_,by have:=h.wG.1;omega⟩;rcases h.yg with h|⟨x,h,_⟩<;>rw[h]<;>simp
def JZ {d:oX}{n:Int}(F:Dk d):Ok (CO d n) λr=>MP n r.1/\Dk r.2:=by
 unfold CO;refine .bind (AK F (by omega)) ?_;rintro⟨a,d⟩ ⟨_,_,F⟩;refine .bind (AK F (by omega)) ?_;rintro⟨b,d⟩ ⟨_,_,F⟩;simp only at F;let J:Int->O Int->Prop:=λh U=>(0<=h/\h<=4)/\(U=[] \/∃x,U=[x]/\101<=x/\x<=104);have J0:J 0 []:=⟨by omega,.inl rfl⟩;refine .join (λx:oX×Bool×Bool×Int×O Int=>Dk x.1/\J x.2.2.2.1 x.2.2.2.2) (λk hk=>.ite (λ_=>hk _ ⟨F,J0⟩) λ_=>?_) ?_
 ·refine .join (λx:oX×Bool×Int×O Int=>Dk x.1/\J x.2.2.1 x.2.2.2) (λk2 K=>.ite (λ_=>K _ ⟨F,J0⟩) λ_=>?_) (λ⟨d,b,h,U⟩ H=>hk _ H);refine .join (λx:oX×Int×O Int=>Dk x.1/\J x.2.1 x.2.2) (λk3 V=>.ite (λ_=>.bind (AK F (by omega)) ?_) λ_=>?_) (λ⟨d,h,U⟩ H=>K _ H)
  ·rintro⟨c,d⟩ ⟨c1,c2,F⟩;simp only at c1 c2;exact V _ ⟨F,by simp only;rw[AN (by omega)];omega,.inl rfl⟩
  refine .join (λx:oX×O Int=>Dk x.1/\J 0 x.2) (λk4 Y=>.ite (λ_=>.bind (AK F (by omega)) ?_) λ_=>Y _ ⟨F,J0⟩) (λ⟨d,U⟩ H=>V _ H);rintro⟨c,d⟩ ⟨c1,c2,F⟩;simp only at c1 c2;refine Y _ ⟨F,by omega,.inr ⟨_,rfl,?_⟩⟩;rw[AN (by omega)];omega
 rintro⟨d,n4,n6,w5,U⟩ ⟨F,Z,a1⟩;simp only at F Z a1;let I:Int->O sr->Prop:=λm l=>l.length<=m/\(∀(i:Nat) (x:sr),l[i]?=some x->101<=x.r4/\x.r4<101+m/\-2<=x.Value/\x.Value<=2)/\∀(i:Nat) (x y:sr),l[i]?=some x->l[i+1]?=some y->x.r4<y.r4;refine .join (λx:oX×O sr=>Dk x.1/\I 5 x.2) (λk hk=>?_) ?_
 ·refine .sP (λs:Int×oX×O sr=>0<=s.1/\s.1<=5/\Dk s.2.1/\I s.1 s.2.2) (λs=>(5-s.1).toNat) ⟨by simp,by simp,F,by simp,by simp,by simp⟩ (BK (by simp only;omega)) ?_;rintro next ⟨m,d,l⟩ ⟨m1,m2,F,l1,M,P⟩ a6
  simp only at m1 m2 F l1 M P;refine .ite (λhc=>.bind (AK F (by omega)) ?_) λhc=>?_
  ·simp only[Xe] at hc;rintro⟨c,d⟩ ⟨_,_,F⟩;simp only at F;refine .join (λx:oX×O sr=>Dk x.1/\I (m+1) x.2) (λk2 K=>.ite (λ_=>.bind (AK F (by omega)) ?_) λ_=>K _ ⟨F,by simp only;omega,λi x H=>by have:=M i x H;omega,P⟩) ?_
   ·rintro⟨v,d⟩ ⟨v1,v2,F⟩;simp only at v1 v2 F;refine .bind (.gE (by decide) (by simp;omega)) λw hw=>K _ ⟨F,by rw[hw];simp;omega,?_,?_⟩
    ·intro i x H;simp only[hw] at H;rcases Nat.lt_or_ge i l.length with h|h
     ·rw[Ww h] at H;have:=M i x H;omega
     rw[Xa4 h] at H;have:i-l.length=0:=by have:=(X16.1 H).1;simp at this;omega
     rw[this] at H;simp only[List.getElem?_cons_zero,X24] at H;subst H;simp only;rw[AN (by omega),AN (by omega)];omega
    intro i x y H Q;simp only[hw] at H Q;have a7:=(X16.1 Q).1;simp only[X11,X22] at a7;rw[Ww (by omega)] at H;rcases Nat.lt_or_ge (i+1) l.length with h|h
    ·rw[Ww h] at Q;exact P i x y H Q
    rw[Xa4 h,show i+1-l.length=0 by omega] at Q;simp only[List.getElem?_cons_zero,X24] at Q;subst Q;have:=M i x H;simp only;rw[AN (by omega)];omega
   rintro⟨d,l⟩ ⟨F,hI⟩;rw[AN (by omega)];exact a6 _ ⟨by simp only;omega,by simp only;omega,F,hI⟩ (by simp only;omega)
  simp only[Xe] at hc;have:m=5:=by omega
  subst this;exact hk _ ⟨F,l1,M,P⟩
 rintro⟨d,l⟩ ⟨F,l1,M,P⟩;simp only at l1 M P;exact .ret ⟨⟨rfl,Z,a1,by simp only;omega,λi x H=>by have:=M i x H;omega,P⟩,F⟩
def ei {n:Int}(h:1<=n/\n<=4294967295):C2 n=some true:=by unfold C2;rw[AB,Xy (by simpa using h.1)];show some (decide (n<=4294967295))=some true;rw[Wd h.2]
def NH {α:Type}{l:O α}{i:Nat}{x:α}(h:l[i]?=some x):iX l (i:Int)=some x:=by obtain⟨F,H⟩:=X16.1 h;rw[As F,H]
def Ya {n:Int}{p:r5}(h:MP n p)(hn:1<=n/\n<=1000):A5 p=some 0:=by
 obtain⟨Q,h2,Y,h4,Z,h6⟩:=h;have:Ok (A5 p) λb=>b=0:=by
  unfold A5;refine .join (λb=>b=true) (λk M=>?_) λb F=>?_
  ·rw[Q,ei (by omega),AA,Xy rfl,Xy (by simp;omega),Xy (by simp;omega)];have hd:p.ta.length<=64:=by rcases Y with h|⟨x,h,_⟩<;>rw[h]<;>simp
   rw[Xy (by simp;omega)];refine M _ ?_;show decide ((p.sr.length:Int)<=64)=true;exact Wd (by omega)
  rw[F];refine .join (λb=>b=true) (λk M=>.tn (λi b=>b=true) rfl (λb F=>M _ F) λnext x i b H F K=>?_) λb F=>?_
  ·refine .join (λb=>b=true) (λk2 J=>?_) λb F=>K _ F;have U:i=0/\101<=x/\x<=104:=by
    rcases Y with h|⟨y,h,P⟩
    ·rw[h] at H;simp at H
    rw[h] at H;rcases i with _|i
    ·exact⟨rfl,by simp at H;omega,by simp at H;omega⟩
    simp at H
   obtain⟨rfl,h7,h8⟩:=U;rw[F,Xy rfl,ei (by omega),AA,Xy (by decide),Xy (by decide)];exact J _ rfl
  rw[F];refine .join (λb=>b=true) (λk M=>.tn (λi b=>b=true) rfl (λb F=>M _ F) λnext x i b H F K=>?_) λb F=>?_
  ·refine .join (λb=>b=true) (λk2 J=>?_) λb F=>K _ F;obtain⟨q1,q2,q3,q4⟩:=Z i x H;have hi:=(X16.1 H).1;rw[F,Xy rfl,ei (by omega),AA,Xy (by decide)];refine .ite (λ_=>?_) λh0=>?_
   ·rw[Xy (by simp;omega)];exact J _ (Wd (by omega))
   have a1:i≠0:=by simpa using h0
   have e:AQ ((i:Int)-1)=((i-1:Nat):Int):=by rw[AN (by omega)];omega
   rw[e];cases P:p.sr[i-1]? with
   | none=>rw[List.getElem?_eq_none_iff] at P;omega
   | some y=>have V:=h6 (i-1) y x P (by rw[show i-1+1=i by omega];exact H);rw[NH P,AA,Wd V,Xy (by decide),Xy (by simp;omega)];exact J _ (Wd (by omega))
  rw[F,Xj (by decide)];exact .ret rfl
 obtain⟨r,Q,rfl⟩:=this;exact Q
def MP.val {n:Int}{p:r5}(h:MP n p):Ug p:=by
 intro m;unfold Ta;cases F:p.sr.find? λx=>x.r4==m with
 | none=>exact⟨by decide,by decide⟩
 | some x=>have H:=List.mem_of_find?_eq_some F;obtain⟨i,J⟩:=List.mem_iff_getElem?.1 H;obtain⟨_,_,K,M⟩:=h.wG.2.1 i x J;exact⟨by show -1000<=x.Value;omega,by show x.Value<=1000;omega⟩
structure WS (s:re):Prop where
 f:MF s.mu
 n:2<=s.fI.length/\s.fI.length<=5
 r:s.o3.length=s.fI.length
 p :∀(i:Nat) (p:r5),s.fI[i]?=some p->MP (101+i) p
 b :∀(i:Nat) (b:pk),s.o3[i]?=some b->WV s.mu b/\b.r6.r4=101+i
def mM {p:r6}{n:Int}{u:I}(K:p.r4=n)(J:p.Set.size<=4)(F:KD p=true)(M:101<=n/\n<=105):WR ⟨p,u,[],0⟩:=by have H:=Uk F;exact⟨⟨F,by simp,Int.le_refl _,by show (0:Int)<=1073745919;decide,rfl,Xbq,by simp,Wd H.1,Wd H.2⟩,by dsimp only;omega,J⟩
def kL {d:oX}(F:Dk d):Ok (D3 d) λr=>WS r.1/\Dk r.2:=by
 unfold D3;refine .bind (Qx F) ?_;rintro⟨f,d⟩ ⟨hf,F⟩;dsimp only at hf F⊢;let S:O r5->O pk->Prop:=λM bs=>bs.length=M.length/\(∀(i:Nat) (p:r5),M[i]?=some p->MP (101+i) p)/\(∀(i:Nat) (b:pk),bs[i]?=some b->WV f b/\b.r6.r4=101+i);refine .join (λx:oX×O r5×O pk=>Dk x.1/\(2<=x.2.1.length/\x.2.1.length<=5)/\S x.2.1 x.2.2) (λk hk=>?_) ?_
 ·refine .sP (λs:Int×oX×O r5×O pk=>0<=s.1/\s.1<=5/\s.2.2.1.length=s.1.toNat/\Dk s.2.1/\S s.2.2.1 s.2.2.2) (λs=>(5-s.1).toNat)
   ⟨by simp,by simp,rfl,F,rfl,by simp,by simp⟩ (BK (by simp only;omega)) ?_
  rintro next ⟨i,d,M,bs⟩ ⟨i1,i2,P,F,H,J,K⟩ Q
  dsimp only at i1 i2 P F H J K⊢;refine .bind (AK F (by omega)) ?_;rintro⟨a,d⟩ ⟨a1,a2,F⟩;dsimp only at a1 a2 F⊢;rw[AN (x:=2+a) (by omega),AN (x:=101+i) (by omega)];refine .ite (λU=>?_) λU=>hk _ ⟨F,by dsimp only;simp only[Xe] at U;omega,H,J,K⟩;simp only[Xe] at U;refine .bind (JZ F) ?_;rintro⟨p,d⟩ ⟨hp,F⟩;dsimp only at hp F⊢;refine .bind (.gE (by decide) (by simp;omega)) λa6 V=>.bind (Xr F (by omega)) ?_;rintro⟨pe,d⟩ ⟨⟨Y,p2,p3⟩,F⟩;dsimp only at Y p2 p3 F⊢;refine .bind (AK F (by omega)) ?_;rintro⟨u,d⟩ ⟨_,_,F⟩;dsimp only at F⊢;refine .bind (.gE (by decide) (by simp;omega)) λa7 Z=>?_;rw[AN (by omega)];subst V Z;refine Q _ ⟨by dsimp only;omega,by dsimp only;omega,by simp;omega,F,by simp[H],?_,?_⟩ (by dsimp only;omega)
  ·intro j q hq;rcases Vx hq with h|⟨rfl,rfl⟩
   ·exact J j q h
   rw[P,Int.toNat_of_nonneg i1];exact hp
  intro j q hq;rcases Vx hq with h|⟨rfl,rfl⟩
  ·exact K j q h
  have hj:(bs.length:Int)=i:=by rw[H,P];omega
  exact⟨⟨mM Y p2 p3 (by omega),by simp⟩,by dsimp only;rw[Y];omega⟩
 rintro⟨d,M,bs⟩ ⟨F,hn,H,J,K⟩;exact .ret ⟨⟨hf,hn,H,J,K⟩,F⟩
def WS.vr {s:re}(h:WS s) :∀b∈s.o3,VR b:=λb F=>by obtain⟨i,H⟩:=List.mem_iff_getElem?.1 F;exact (h.b i b H).1.w.v
def WS.mp {s:re}(h:WS s) :∀q∈s.fI,∃n,MP n q:=λq F=>by obtain⟨i,H⟩:=List.mem_iff_getElem?.1 F;exact⟨_,h.p i q H⟩
def WS.vs {s:re}(h:WS s):VS s:=⟨h.vr,λq F=>by
 obtain⟨n,H⟩:=h.mp q F
 exact H.sm⟩
def WS.sv {s:re}(h:WS s):ue s:=by refine⟨h.r,by have:=h.n;have:=h.r;omega,λb F=>by have:=(h.vr b F).len;omega,h.vs.ok,λq H=>?_⟩;obtain⟨n,J⟩:=h.mp q H;exact J.val
def WS.sz {s:re}(h:WS s):xN s:=by
 have f:=h.f;have M:=f.free.1;have P:=f.yj.1;have f3:=f.gF.1;have f4:=f.vS.1;refine⟨⟨by rw[f.vW];simp,by omega,by rw[f.wK];simp,by omega,by omega,by omega,by rw[f.wN];simp,?_⟩,λq H=>?_,λb J=>(h.vr b J).yw.xy,by have:=h.n;have:=h.r;omega⟩
 ·rw[f.wN];intro x F;simp only[Wp,Xbf,Xdm] at F;rcases F with rfl|rfl<;>exact⟨by simp,by simp⟩
 obtain⟨n,K⟩:=h.mp q H;have:=K.sm;exact⟨by have:=this.d;omega,by have:=this.f;omega⟩
structure RV (r:sX):Prop where
 s:uv r.rZ
 u:Dq r.rZ=true->UV r.rZ.gH r.rZ.gT
 p:K6 r.r5=0->∃n,MP n r.r5
 z:xT r.r5
 c:A5 r.r5=some (K6 r.r5)
def WS.tQ {s:re}(h:WS s){i:Nat}{b c:pk}(H:s.o3[i]?=some b)(J:WV s.mu c)(hp:c.r6=b.r6):WS ⟨s.mu,s.fI,s.o3.set i c⟩:=by
 refine⟨h.f,h.n,by simp[h.r],h.p,λj x F=>?_⟩;dsimp only at F⊢;have K:=(X16.1 H).1;by_cases e:i=j
 ·subst e;rw[Xcm K] at F;cases F;exact⟨J,by rw[hp];exact (h.b i b H).2⟩
 rw[Xcf e] at F;exact h.b j x F
def WS.yn {s:re}(h:WS s){i:Nat}{q:r5}(H:MP (101+i) q):WS ⟨s.mu,s.fI.set i q,s.o3⟩:=by
 refine⟨h.f,by simpa using h.n,by simp[h.r],λj x F=>?_,h.b⟩;dsimp only at F⊢;by_cases e:i=j
 ·subst e;have J:i<s.fI.length:=by have:=(X16.1 F).1;simpa using this
  rw[Xcm J] at F;cases F;exact H
 rw[Xcf e] at F;exact h.p j x F
def kA {s:re}(h:WS s):EQ s=some true:=by
 have hn:=h.n;have hr:=h.r;have F:=h.f.zA;have:Ok (EQ s) λb=>b=true:=by
  unfold EQ;refine .join (λb=>b=false) (λk V=>?_) λc H=>?_
  ·rw[Ju h.f.yJ.s,F,AA,Xj (by decide),Xj (by simp;omega)];refine V _ ?_;rw[hr];show ((s.fI.length:Int) !=s.fI.length)=false;exact Xca _
  rw[H,Xj (by decide)];refine .join (λ_=>True) (λk V=>.tn (λ_ _=>True) trivial (λ_ _=>V _ trivial) λnext x i _ hx _ Y=>?_) λ_ _=>.ret rfl;have hi:=(X16.1 hx).1;have hp:=h.p i x hx;cases U:s.o3[i]? with
  | none=>rw[List.getElem?_eq_none_iff] at U;omega
  | some b=>
   obtain⟨hB,Z⟩:=h.b i b U;have hV:=hB.w.v;have J:=hp.wi;have K:=h.f.own;refine .join (λ_=>True) (λk8 a1=>?_) λ_ _=>Y _ trivial;refine .join (λb=>b=false) (λk9 a6=>?_) λc H=>?_
   ·rw[Ya hp (by omega),AA,Xj (by decide)];have e:(x.r4==s.mu.sK)=false:=by rw[J,K];exact Xdo.2 (by omega)
    have e2:(b.r6.r4 !=x.r4)=false:=by rw[J,Z];exact Xca _
    rw[e,Xj (by decide)];have fin:Ok ((some b).bind λa7=>(CJ a7).bind λa8=>if (cond false true (!a8))=true then k9 true else (some b).bind λaa=>k9 (cond false true (aa.r6.r4 !=x.r4))) λb=>b=true:=by rw[AA,I4 hV.yw,hV.to,AA,Xj (by decide),AA,e2];exact a6 _ rfl
    rw[NH U];refine .ite (λh0=>?_) λ_=>fin;have af:0<i:=by simpa using h0
    have e:AQ ((i:Int)-1)=((i-1:Nat):Int):=by rw[AN (by omega)];omega
    rw[e];cases M:s.fI[i-1]? with
    | none=>rw[List.getElem?_eq_none_iff] at M;omega
    | some y=>have ag:=(h.p (i-1) y M).wi;rw[NH M,AA,Xj (by simp;omega)];exact fin
   rw[H,Xj (by decide),NH U,AA];refine .join (λ_=>True) (λk2 ab=>.for_ (λ_=>ab _ trivial) λae y j s2 _ M P=>?_) λ_ _=>a1 _ trivial;refine .join (λb=>b=false) (λk3 Q=>.ite (λ_=>?_) λ_=>Q _ rfl) λc H=>?_
   ·have hu:=(hB.h y M).2;have hq:y.gD.gH.Path.length<=2/\∀s∈y.gD.gH.Path,s.n7.length<=10:=by
     rcases hu with ⟨e,_⟩|⟨_,_,b,sv,_⟩
     ·cases e
     exact sv.p
    have ht:=Tq hq.2;have ah:tg y.gD.gH.Path<=20:=by have:=hq.1;omega
    rw[Et (by omega),AA];refine Q _ ?_;show decide (((HS y.gD.gH.Path).length:Int)>60)=false;rw[Wj];exact Ws (by omega)
   rw[H,Xj (by decide)];exact P _
 obtain⟨r,h1,rfl⟩:=this;exact h1
def RV.xg {s:re}{r:sX}(h:WS s)(F:RV r):vI s r:=
 ⟨h.f.yJ,λb H=>by
  obtain⟨i,J⟩:=List.mem_iff_getElem?.1 H;have:=(h.b i b J).1.w
  exact⟨this.v.yw,this.sz⟩,F.s,F.z,F.c⟩
def li {s:re}{n:Int}{i:Nat}(h:uD s n=some i) :∃q,s.fI[i]?=some q/\q.r4=n:=by unfold uD at h;obtain⟨F,H,_⟩:=List.findIdx?_eq_some_iff_getElem.1 h;exact⟨_,X15 F,by simpa using H⟩
def fu {s:re}{r:sX}(h:WS s)(U:RV r){i:Nat}(V:uD s r.sE=some i)(H:(Kt s i (s.o3.getD i uX) r).1=0):WS (Xq s (Kt s i (s.o3.getD i uX) r)):=by
 have a1:=Vb V;have K:i<s.o3.length:=by have:=h.r;omega
 have hg:s.o3.getD i uX=s.o3[i]:=by simp[K]
 have J:s.o3[i]?=some s.o3[i]:=X15 K;obtain⟨M,ha⟩:=h.b i _ J;rw[hg] at H⊢;generalize s.o3[i]=b at J M ha H⊢;unfold Kt at H⊢;by_cases Y:r.Kind=1
 ·rw[Xy Y] at H⊢;have F:(EO s.mu b r.rZ).2=0:=H;have hv:Dq r.rZ=true:=by
   unfold EO at F;split at F
   ·rename_i P;simp only[X27] at P;exact P.2.2
   exact absurd F (by decide)
  exact h.tQ J (M.apply (U.u hv) F) (by rw[TC F];rfl)
 rw[Xj Y] at H⊢;by_cases Z:r.Kind=2
 ·rw[Xy Z] at H⊢;have F:(GZ b).2=0:=H;exact h.tQ J (M.raise F) (by rw[TA F])
 rw[Xj Z] at H⊢;by_cases k3:r.Kind=3
 ·rw[Xy k3] at H⊢;have F:(IQ b r.uC r.tv).2=0:=H;exact h.tQ J (M.down F) (by rw[WX F];rfl)
 rw[Xj k3] at H⊢;by_cases k4:r.Kind=4
 ·rw[Xy k4] at H⊢;have P:K6 r.r5=0/\r.r5.r4=r.sE:=by
   dsimp only at H;by_cases q:K6 r.r5=0/\r.r5.r4≠r.sE
   ·rw[Xy q] at H;cases H
   rw[Xj q] at H;exact⟨H,Classical.byContradiction λq2=>q ⟨H,q2⟩⟩
  obtain⟨n,hm⟩:=U.p P.1;obtain⟨q,hq,Q⟩:=li V;have:=(h.p i q hq).wi;have hn:n=101+(i:Int):=by rw[<- hm.wi,P.2,<- Q,this]
  exact h.yn (hn▸hm)
 rw[Xj k4] at H⊢;by_cases k5:r.Kind=5
 ·rw[Xy k5];exact h.tQ J (M.vC _) rfl
 rw[Xj k5] at H;cases H
def WS.wi {s:re}(h:WS s):s.fI.map (·.r4)=(Xb4 s.fI.length).map λ(i:Nat)=>(101+i:Int):=by refine List.ext_getElem (by simp) λi F H=>?_;simp only[X10] at F;have:=(h.p i _ (X15 F)).wi;simpa using this
def WB {s:re}(h:WS s)(n:Int) :∀r∈G1 s n,tC r.gH:=by
 intro r J;unfold G1 at J;obtain⟨p,_,hp⟩:=List.mem_filterMap.1 J;split at hp
 ·rename_i K;cases hp;have F:=Ys K;generalize (M6 s n p).1=r at F⊢;unfold Ho at F;split at F
  ·cases F
  rename_i i M;have H:=Vb M;have P:s.fI.getD i ⟨0,false,false,false,0,[],[]⟩=s.fI[i]:=by simp[H]
  rw[P] at F;split at F
  ·obtain⟨b,Q,F⟩:=Xc5.1 F;unfold Jb at F;split at F
   ·rename_i U;split at F
    ·rw[X14.1 F];exact ((h.vs.exp _ (Wx H) b Q p U).2.1.mono (by omega)).x3
    cases F
   cases F
  cases F
 cases hp
def my {s:re}{r:sX}(h:WS s)(H:RV r) :∀i,uD s r.sE=some i->(Kt s i (s.o3.getD i uX) r).1=0->wh s (Xq s (Kt s i (s.o3.getD i uX) r)):=by
 intro i J K;have F:=fu h H J K;refine⟨F.sv,F.vs.pre,?_,WB F⟩;rw[F.wi,h.wi];congr 2;show (Kt s i (s.o3.getD i uX) r).2.1.length=_;unfold Kt;split
 ·rfl
 split
 ·rfl
 split
 ·rfl
 split
 ·simp
 split<;>rfl
def eB {s:re}{r:sX}(h:WS s)(F:RV r):FC (Fo s) r=some (UQ s r):=kT h.sv h.sz h.vs.pre (F.xg h) (my h F)
def gX {s:re}(h:WS s):FG s=some (Fo s,0):=ik h.sv h.sz (kA h)
def mC {s:re}{r:sX}(h:WS s)(K:RV r)(F:(UQ s r).2.2=0) :∃J,(UQ s r).1=Fo J/\WS J:=by
 unfold UQ at F⊢;split at F
 ·cases F
 rename_i i M;split at F
 ·rename_i H;rw[Xy H];exact⟨_,rfl,fu h K M H⟩
 rename_i H;exact absurd F H
end Go.AX.Q29
end
