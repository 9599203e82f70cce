/-
  Texts of one proof, packed.
-/
import Derived.Test.YthbbpeeghmpcfaaGreatDoorR27
import Derived.Test.YthbbpeeghmpcfaaGreatDoorR28
set_option linter.all false
set_option maxRecDepth 100000
set_option maxHeartbeats 4000000
open List renaming length_map→X1,length_append→X2,length_cons→X3,length_nil→X10,mem_singleton→X11,getElem?_eq_some_iff→X13,length_drop→X14,length_take→X15,mem_cons_of_mem→X16,length_replicate→X17,length_set→X18,mem_append→X20
open Option.some renaming inj→X22
open Bool renaming and_eq_true→X24
open Nat renaming mul_le_mul_right→X28
open Option renaming bind→Xx
open Int renaming toNat→Xa0
open List renaming take→Xb7,drop→Xb8
open List.Pairwise renaming nil→Xdm
section
namespace Go.AX.Q33
open Go Go.AX Go.AX.Cw
structure SV (b:Bool)(a:gH):Prop where
 v:Fb a=true
 o:a.o3≠-1
 n:a.Next.V6=b/\Addr.zn a.Next Mm=false
 p:a.Path.length<=2/\∀s∈a.Path,s.qv.length<=10
 c:a.fT.length<=8
 l:a.iX.length<=7
 u :∀x∈a.oE,x.Data.length<=2
def s7 {d:tx}{n:Int}(F:Dk d)(K:101<=n/\n<=105):Ok (Ec d n) λr=>(Ci r.1.fI/\SV r.1.fI.Addr.V6 r.1.gH)/\Dk r.2:=by unfold Ec;refine .bind (Ij F) ?_;rintro⟨p,d⟩ ⟨J,F⟩;dsimp only at J F⊢;refine .bind (Zs F K) ?_;rintro⟨a,d⟩ ⟨⟨M,P,H,Q,U⟩,F⟩;exact .ret ⟨⟨J,M,P,⟨H.next.2.1,H.next.2.2⟩,H.path.2,Q,U,H.Ow.2.2⟩,F⟩
def XA {p:O r8}{n:Nat}(h :∀s∈p,s.qv.length<=n):DP p<=n*p.length:=by
 induction p with
 | nil=>exact Xef _
 | cons s t F=>have J:=F λx H=>h x (X16 _ H);have K:=h s (by simp);rw[CH,X3,Nat.mul_add];omega
def sE {b:I}{a:gH}(s:SV b a){k:Int}{d:O S}(h:G a k=some d):d.length<=100:=by
 have F:=s.p.1;have H:=XA s.p.2;have J:=s.c;have K:=s.l;unfold G at h;split at h
 ·split at h
  ·obtain rfl:=X22 h;simp
  cases h
 split at h
 ·split at h
  ·obtain rfl:=X22 h;rw[P6];omega
  cases h
 split at h
 ·split at h
  ·obtain rfl:=X22 h;simp[b4]
  cases h
 split at h
 ·split at h
  ·obtain rfl:=X22 h;rw[KD];omega
  cases h
 split at h
 ·split at h
  ·obtain rfl:=X22 h;rw[KD];omega
  cases h
 split at h
 ·split at h
  ·obtain rfl:=X22 h;rw[M1];omega
  cases h
 split at h
 ·split at h
  ·obtain rfl:=X22 h;rw[MM];omega
  cases h
 split at h
 ·split at h
  ·obtain rfl:=X22 h;rw[KD];omega
  cases h
 cases h
def X0 {x:gL}(h:(0<=x.Flags/\x.Flags<=255)/\0<=x.gE/\x.gE<=255)(F:x.Data.length<=200):R0 x=true:=by unfold R0;rw[Xa4 h.1.1,Xa4 h.1.2,Xa4 h.2.1,Xa4 h.2.2,Xa4 (by omega)];rfl
def lh {b:I}{a:gH}(s:SV b a){x:gL}(h:x∈Kc a):R0 x=true/\x.Data.length<=100:=by
 have v:=Nu.1 s.v;rcases (JY v.O).1 h with ⟨k,q⟩|q
 ·have H:=WW q;obtain⟨d,J,rfl⟩:=FT.1 q;have F:=sE s J;have key :∀k∈Pm,(0<=fl k/\fl k<=255)/\0<=k/\k<=255:=by decide
  exact⟨X0 (key k H) (by dsimp only;omega),F⟩
 have F:=s.u x q;obtain⟨_,K,M,P,_⟩:=DL v.O q;exact⟨X0 ⟨by omega,by omega,by omega⟩ (by omega),by omega⟩
def wA {u:zl}{b:I}(s:SV b u.gH)(gw :∀p∈u.oB,Ci p)(ga :∀p∈u.gF,Ci p)(w:u.oB.length<=3)(n:u.gF.length<=4):VV u=true:=by
 have v:=Nu.1 s.v;have P:=Bj (za:=true) gw;have Q:=Bj (za:=false) gw;have U:=Bj (za:=true) ga;have V:=Bj (za:=false) ga;have hL:(Hc u.gH.Next).length<=16:=by have:=(Io v.n).2;have:=(WK u.gH.Next).2;omega
 have K:(zZ u).length<=16/\∀x∈zZ u,R0 x=true/\x.Data.length<=100:=by
  unfold zZ;split
  ·exact⟨XF v,λx F=>lh s F⟩
  simp
 have M:(Jb u).length<=17/\∀x∈Jb u,R0 x=true/\x.Data.length<=100:=by
  unfold Jb;split
  ·refine⟨by rw[G0];omega,λx F=>?_⟩;rcases D5.1 F with F|rfl
   ·exact K.2 x F
   have H:([0,2,1,16]++Hc u.gH.Next++[0]++Ap true u.gF:O S).length<=100:=by simp only[X2,X3,X10];omega
   exact⟨X0 (by dsimp only;omega) (by dsimp only;omega),H⟩
  exact⟨by omega,K.2⟩
 have J:(By u).length<=18/\∀x∈By u,R0 x=true/\x.Data.length<=100:=by
  unfold By;split
  ·refine⟨by rw[G0];omega,λx F=>?_⟩;rcases D5.1 F with F|rfl
   ·exact M.2 x F
   have H:([0,2,1]++Ap true u.oB:O S).length<=100:=by simp only[X2,X3,X10];omega
   exact⟨X0 (by dsimp only;omega) (by dsimp only;omega),H⟩
  exact⟨by omega,M.2⟩
 have hj:=P9 (N:=100) λx F=>(J.2 x F).2;have Y:(By u).length*(100+4)<=18*104:=X28 _ J.1;have e:Dz (By u)=(DN (By u),0):=by unfold Dz;rw[Xa2 (Xa6.2 λx F=>(J.2 x F).1),Xa1 (by omega)]
 unfold VV Dt;rw[e,Xa1 (by simp)];have t :∀n,(two n).length=2:=λn=>rfl;have Z:(Kv u (DN (By u))).length<=4077:=by unfold Kv;simp only[X2,t];omega
 rw[Xa4 Z];rfl
def UV (a:gH)(l:O fI):Prop:=(l=[]/\a=eA)\/(l≠[]/\l.length<=4/\∃b,SV b a/\∀p∈l,Ci p/\p.Addr.V6=b)
def SV.fit {b:I}{a:gH}(s:SV b a){p:fI}(h:p.Addr.V6=b):U9 a p=true:=by
 unfold U9;rw[s.n.2,s.v,h,s.n.1];have:(a.o3 !=-1)=true:=by simpa using s.o
 rw[this];cases b<;>rfl
def UV.valid {u:zl}(h:UV u.gH u.gF)(gw :∀p∈u.oB,Ci p)(w:u.oB.length<=3):Lv u/\CN u=true:=by
 obtain⟨W,a,l⟩:=u;dsimp only at h gw w;rcases h with ⟨rfl,rfl⟩|⟨M,P,b,s,K⟩
 ·exact⟨⟨⟨by simp[eA],by simp[eA,DP],by simp[eA],by simp[eA],by simp[eA],by simp[eA]⟩,by dsimp only;omega,by simp⟩,uY gw (by omega)⟩
 have F:VV ⟨W,a,l⟩=true:=wA (u:=⟨W,a,l⟩) s gw (λp H=>(K p H).1) w P;have J:l.all (U9 a)=true:=Xa6.2 λp H=>s.fit (K p H).2
 have hg:(W++l).all OH=true:=Xa6.2 λp H=>(JA p).2.2 (by
  rcases X20.1 H with q|q
  ·exact gw p q
  exact (K p q).1)
 refine⟨⟨(Nu.1 s.v).sm,by dsimp only;omega,by dsimp only;omega⟩,?_⟩;unfold CN;dsimp only;rw[F,J,hg,Xa4 (p:=W.length<=256) (by omega),Xa4 (p:=l.length<=256) (by omega),Xa9 M];rfl
def oH {d:tx}{n:Int}(F:Dk d)(hn:101<=n/\n<=105):Ok (D7 d n) λr=>(Lv r.1/\CN r.1=true/\UV r.1.gH r.1.gF)/\Dk r.2:=by
 unfold D7;rw[Zb,AA];refine .bind (AN F (by omega)) ?_;rintro⟨a,d⟩ ⟨a1,a2,F⟩;dsimp only at a1 a2 F⊢;refine .join (λq:tx×O fI=>Dk q.1/\q.2.length<=3/\∀p∈q.2,Ci p) (λk hk=>?_) ?_
 ·refine .Dr (λq:Int×tx×O fI=>0<=q.1/\q.1+q.2.2.length<=3/\Dk q.2.1/\∀p∈q.2.2,Ci p) (λq=>q.1.toNat) ⟨a1,by dsimp only[X10];omega,F,by simp⟩ (BE (by dsimp only;omega)) ?_;rintro next ⟨i,d,l⟩ ⟨i1,i2,F,J⟩ P
  dsimp only at i1 i2 F J P⊢;refine .join (λq:I×tx=>(q.1=true->0<i)/\Dk q.2) (λk2 H=>.ite (λh=>?_) λh=>H _ ⟨λe=>(by cases e),F⟩) ?_
  ·refine .bind (AN F (by omega)) ?_;rintro⟨b,d⟩ ⟨b1,b2,F⟩;exact H _ ⟨λ_=>by simpa using h,F⟩
  rintro⟨b,d⟩ ⟨hb,F⟩;dsimp only at hb F⊢;refine .ite (λh=>?_) λh=>hk _ ⟨F,by dsimp only;omega,J⟩;have hi:=hb h;refine .bind (Ij F) ?_;rintro⟨p,d⟩ ⟨Q,F⟩;dsimp only at Q F⊢;refine .bind (.gO (by decide) (by simp;omega)) λw M=>P _ ⟨?_,?_,F,?_⟩ ?_
  ·dsimp only;rw[AK (by omega)];omega
  ·dsimp only;rw[AK (by omega),M];simp;omega
  ·intro q U;rw[M] at U;rcases X20.1 U with h|h
   ·exact J q h
   rw[X11.1 h];exact Q
  dsimp only;rw[AK (by omega)];omega
 rintro⟨d,wd⟩ ⟨F,w1,w2⟩;dsimp only at F w1 w2⊢;refine .bind (AN F (by omega)) ?_;rintro⟨b,d⟩ ⟨b1,b2,F⟩;dsimp only at F⊢;refine .join (λq:tx×Int×(O r8)×I×j×j×Int×Int×Int×(O oF)×(O iX)×(O gL)×(O fI)=>Dk q.1/\UV ⟨q.2.1,q.2.2.1,⟨q.2.2.2.1,q.2.2.2.2.1,q.2.2.2.2.2.1⟩,q.2.2.2.2.2.2.1,q.2.2.2.2.2.2.2.1,q.2.2.2.2.2.2.2.2.1,q.2.2.2.2.2.2.2.2.2.1,q.2.2.2.2.2.2.2.2.2.2.1,q.2.2.2.2.2.2.2.2.2.2.2.1⟩ q.2.2.2.2.2.2.2.2.2.2.2.2) (λk hk=>?_) ?_
 ·refine .ite (λh=>?_) λh=>hk _ ⟨F,.inl ⟨rfl,rfl⟩⟩;refine .bind (s7 F hn) ?_;rintro⟨r,d⟩ ⟨⟨V,Y⟩,F⟩;dsimp only at V Y F⊢;refine .bind (AN F (by omega)) ?_;rintro⟨c,d⟩ ⟨c1,c2,F⟩;dsimp only at c1 c2 F⊢;refine .join (λq:tx×O fI=>Dk q.1/\q.2≠[]/\q.2.length<=4/\∀p∈q.2,Ci p/\p.Addr.V6=r.fI.Addr.V6) (λk2 H=>?_) ?_
  ·refine .Dr (λq:Int×tx×O fI=>0<=q.1/\q.1+q.2.2.length<=4/\q.2.2≠[]/\Dk q.2.1/\∀p∈q.2.2,Ci p/\p.Addr.V6=r.fI.Addr.V6) (λq=>q.1.toNat) ⟨c1,by simp;omega,by simp,F,by simpa using V⟩ (BE (by dsimp only;omega)) ?_;rintro next ⟨i,d,l⟩ ⟨i1,i2,i3,F,J⟩ P
   dsimp only at i1 i2 i3 F J P⊢;refine .ite (λh=>?_) λh=>H _ ⟨F,i3,by dsimp only;omega,J⟩;have hi:0<i:=by simpa using h
   refine .bind (Ij F) ?_;rintro⟨p,d⟩ ⟨Q,F⟩;dsimp only at Q F⊢;refine .join (λl':O fI=>l'.length<=l.length+1/\l'≠[]/\∀p∈l',Ci p/\p.Addr.V6=r.fI.Addr.V6) (λk3 Z=>.ite (λh=>?_) λh=>Z _ ⟨by omega,i3,J⟩) λl' K=>P _ ⟨?_,?_,K.2.1,F,K.2.2⟩ ?_
   ·refine .bind (.gO (by decide) (by simp;omega)) λw M=>Z _ ⟨by rw[M];simp,by rw[M];simp,λq U=>?_⟩;rw[M] at U;rcases X20.1 U with h'|h'
    ·exact J q h'
    rw[X11.1 h'];exact⟨Q,by simpa using h⟩
   ·dsimp only;rw[AK (by omega)];omega
   ·dsimp only;rw[AK (by omega)];have:=K.1;omega
   dsimp only;rw[AK (by omega)];omega
  rintro⟨d,an⟩ ⟨F,n1,n2,n3⟩;exact hk _ ⟨F,.inr ⟨n1,n2,_,Y,n3⟩⟩
 rintro⟨d,o,pa,nv,nh,nl,me,pr,ot,co,la,un,an⟩ ⟨F,hu⟩;obtain⟨g1,g2⟩:=UV.valid (u:=⟨wd,⟨o,pa,⟨nv,nh,nl⟩,me,pr,ot,co,la,un⟩,an⟩) hu w2 w1;exact .ret ⟨⟨g1,g2,hu⟩,F⟩
def Jm {l:O gT}{h x:gT}:x∈IN l h↔x=h\/(x∈l/\kH x≠kH h):=by
 unfold IN;simp only[X20,Xb2,Xa7,Xy];constructor
 ·rintro (⟨F,H⟩|F|⟨F,H⟩)
  ·exact .inr ⟨F,Ax.ne H⟩
  ·exact .inl F
  exact .inr ⟨F,Ax.ne' H⟩
 rintro (F|⟨F,H⟩)
 ·exact .inr (.inl F)
 have K:Az (kH x) (kH h)≠0:=λe=>H (Ax.eq.1 e);by_cases J:Az (kH x) (kH h)<0
 ·exact .inl ⟨F,J⟩
 exact .inr (.inr ⟨F,by omega⟩)
def Ys {g:fI->gT}(hg :∀p,kH (g p)=p){x:gT} :∀(t:O fI) (l:O gT),x∈t.foldl (λl p=>IN l (g p)) l↔(∃p∈t,x=g p)\/(x∈l/\kH x∉t)
 | [],l=>by simp
 | p::t,l=>by
  rw[Xaj,Ys hg t,Jm,hg];constructor
  ·rintro (⟨q,H,e⟩|⟨e|⟨K,J⟩,M⟩)
   ·exact .inl ⟨q,X16 _ H,e⟩
   ·exact .inl ⟨p,by simp,e⟩
   exact .inr ⟨K,λF=>(Xa7.1 F).elim J M⟩
  rintro (⟨q,H,e⟩|⟨K,J⟩)
  ·by_cases F:kH x∈t
   ·exact .inl ⟨kH x,F,by rw[e,hg]⟩
   refine .inr ⟨.inl ?_,F⟩;rcases Xa7.1 H with rfl|H
   ·exact e
   exact absurd (by rw[e,hg];exact H) F
  exact .inr ⟨.inr ⟨K,λe=>J (by rw[e];simp)⟩,λF=>J (X16 _ F)⟩
def Vr {x:gT} :∀(t:O fI) (l:O gT),x∈t.foldl Gy l↔x∈l/\kH x∉t
 | [],l=>by simp
 | p::t,l=>by rw[Xaj,Vr t];unfold Gy;rw[Xb2,dD,Xa7,not_or,Xf2]
def YQ {f:oX}{b:rv}{u:zl}{x:gT}:x∈Ir f b u↔(∃p∈u.gF,x=Pr f b u p)\/(x∈b.gT/\kH x∉u.oB/\kH x∉u.gF):=by unfold Ir wdE;rw[Ys (g:=Pr f b u) (λ_=>rfl),Vr,Xf2]
structure WV (f:oX)(b:rv):Prop where
 w:WR b
 h :∀x∈b.gT,x.zW=Rc f b.th x.mu/\UV x.mu.gH [x.mu.fI]
def WV.of {f:oX}{b c:rv}(h:WV f b)(w:WR c)(F:c.th=b.th)(H :∀x∈c.gT,∃y∈b.gT,x.zW=y.zW/\x.mu=y.mu):WV f c:=
 ⟨w,λx q=>by
  obtain⟨y,J,K,M⟩:=H x q;rw[K,M,F]
  exact h.h y J⟩
def WT {b:rv}(F:(Em b).2=0):(Em b).1={ b with Up:=true }:=by
 unfold Em at F⊢;split at F
 ·rename_i h1;rw[Xa2 h1];split at F
  ·exact absurd F (by decide)
  rename_i H;rw[Xa1 H]
 exact absurd F (by decide)
def Z0 {b:rv}{now grace:Int}(F:(G8 b now grace).2=0):(G8 b now grace).1=Iq ⟨b.th,false,(cond (grace==0) [] b.gT).map L3,now+grace⟩:=by
 unfold G8 at F⊢;split at F
 ·rename_i h1;rw[Xa2 h1];split at F
  ·rename_i H;rw[Xa2 H]
  exact absurd F (by decide)
 exact absurd F (by decide)
def Qg {f:oX}{b:rv}{u:zl}(F:(Dv f b u).2=0):(Dv f b u).1=Iq (Eb f b u):=by
 unfold Dv at F⊢;split at F
 ·rename_i h1;rw[Xa2 h1];split at F
  ·rename_i H;rw[Xa2 H];split at F
   ·rename_i J;rw[Xa2 J]
   exact absurd F (by decide)
  exact absurd F (by decide)
 exact absurd F (by decide)
def WV.raise {f:oX}{b:rv}(h:WV f b)(F:(Em b).2=0):WV f (Em b).1:=by have w:=h.w.raise F;rw[WT F] at w⊢;exact h.of w rfl λx H=>⟨x,H,rfl,rfl⟩
def WV.down {f:oX}{b:rv}(h:WV f b){now grace:Int}(H:(G8 b now grace).2=0):WV f (G8 b now grace).1:=by
 have w:=h.w.down H;rw[Z0 H] at w⊢;refine h.of w rfl λx J=>?_;obtain⟨y,F,rfl⟩:=Xau.1 (show x∈(cond (grace==0) [] b.gT).map L3 from J);refine⟨y,?_,rfl,rfl⟩;cases hg:grace==0
 ·rw[hg] at F;exact F
 rw[hg] at F;exact absurd F (by simp)
def WV.Pk {f:oX}{b:rv}(h:WV f b)(w:Int):WV f (FI b w):=h.of (h.w.Pk w) rfl λx F=>⟨x,(Xb2.1 (show x∈b.gT.filter (IS w) from F)).1,rfl,rfl⟩
def UV.one {a:gH}{l:O fI}(h:UV a l){p:fI}(F:p∈l):UV a [p]:=by
 rcases h with ⟨rfl,_⟩|⟨_,_,b,s,h⟩
 ·exact absurd F (by simp)
 exact .inr ⟨by simp,by simp,b,s,by simpa using h p F⟩
def WV.apply {f:oX}{b:rv}{u:zl}(h:WV f b)(H:UV u.gH u.gF)(F:(Dv f b u).2=0):WV f (Dv f b u).1:=by
 have w:=h.w.apply F;rw[Qg F] at w⊢;refine⟨w,λx J=>?_⟩;show x.zW=Rc f b.th x.mu/\_;rcases YQ.1 (show x∈Ir f b u from J) with ⟨p,K,rfl⟩|⟨M,_⟩
 ·exact⟨rfl,H.one K⟩
 exact h.h x M
def xH {l:O gT}(M:Cz kH Az l){x y:gT}(J:y∈l)(K:kH y=kH x):n0 (IN l x)=n0 l/\n1 (IN l x)=n1 l/\(IN l x).length=l.length:=by
 rcases split Ax M (kH x) with ⟨P,z,Q,H,e,F⟩|⟨P,Q,H,F⟩
 ·have U:z.mu.fI=x.mu.fI:=e;rw[H,MY F e];unfold n0 n1;simp only[List.countP_append,List.countP_cons,X2,X3,U,and_self]
 rw[H] at J;rcases X20.1 J with h|h
 ·exact absurd K (Ax.ne (F.1 y h))
 exact absurd K (Ax.ne' (F.2 y h))
def bH {l:O gT}(h:Cz kH Az l){i j:Nat}{x y:gT}(K:l[j]?=some y)(M:l[i]?=some x)(e:kH y=kH x):j=i:=by
 obtain⟨F,rfl⟩:=X13.1 K;obtain⟨H,rfl⟩:=X13.1 M;have J:=List.pairwise_iff_getElem.1 h;rcases Nat.lt_trichotomy j i with q|q|q
 ·exact absurd e (Ax.ne (J j i F H q))
 ·exact q
 exact absurd e.symm (Ax.ne (J i j H F q))
def nq {f:oX}{r:rv}{x:gT}(F:x.mu.zQ=r.th.tb)(H:x.zW=Rc f r.th x.mu)(J:x.zw=false):Pr f r ⟨[],x.mu.gH,[x.mu.fI]⟩ x.mu.fI=x:=by obtain⟨⟨p,fr,a⟩,K,st⟩:=x;dsimp only at F H J⊢;subst J;unfold Pr;dsimp only;rw[<- F,<- H]
def oo {f:oX}{s:rv}{u:zl}(H:Si f=true)(J:WR s)(K:CN u=true)(F:s.Up=true) (M:Va (Eb f s u)=true) (P:VK (Eb f s u)=true) (Q:((Eb f s u).gT.length:Int)<=256):Dv f s u=(Iq (Eb f s u),0):=by unfold Dv;rw[H,J.v.to,K,Xa2 (by rfl),Xa2 F,M,P,Xa4 Q];rfl
structure Vc (s:rv)(bit:Nat->Bool)(i:Nat)(r:rv):Prop where
 w:WR r
 up:r.Up=true
 peer:r.th=s.th
 a :∀y∈r.gT,y.zw=false->∃j,j<i/\s.gT[j]?=some y/\bit j=true
 b :∀j x,j<i->s.gT[j]?=some x->bit j=true->x∈r.gT
 c :∀x∈s.gT,∃y∈r.gT,kH y=kH x
def Vc.step {f:oX}{s r:rv}{H:Nat->I}{i:Nat}(hf:Si f=true)(Y:WV f s)(Z :∀x∈s.gT,x.zw=false)(h:Vc s H i r){x:gT}(Q:s.gT[i]?=some x)(hb:H i=true) : Lv ⟨[],x.mu.gH,[x.mu.fI]⟩/\∃r',Dv f r ⟨[],x.mu.gH,[x.mu.fI]⟩=(r',0)/\Vc s H (i+1) r':=by
 have U:x∈s.gT:=Xbz Q;obtain⟨q1,q2⟩:=Y.h x U;obtain⟨g1,g2⟩:=UV.valid (u:=⟨[],x.mu.gH,[x.mu.fI]⟩) q2 (by simp) (by simp);refine⟨g1,?_⟩;have J:x.mu.zQ=s.th.tb:=by have:=(Y.w.v.ok x U).2;simp only[T1,X24,Xbd,bne_eq_false_iff_eq] at this;exact this.2.1
 have ho:=nq (f:=f) (r:=r) (x:=x) (by rw[h.peer];exact J) (by rw[h.peer];exact q1) (Z x U);generalize hu:(⟨[],x.mu.gH,[x.mu.fI]⟩:zl)=u at g1 g2 ho⊢;have K:Ir f r u=IN r.gT x:=by subst hu;show IN r.gT (Pr f r _ x.mu.fI)=_;rw[ho]
 obtain⟨y,hy,V⟩:=h.c x U;obtain⟨c1,c2,c3⟩:=xH h.w.v.Cz hy V;have M:=oo (f:=f) (u:=u) hf h.w g2 h.up
  (by show decide ((n0 (Ir f r u):Int)<=r.th.zi)=true;rw[K,c1];exact h.w.v.f4)
  (by show decide ((n1 (Ir f r u):Int)<=r.th.zh)=true;rw[K,c2];exact h.w.v.f6)
  (by show ((Ir f r u).length:Int)<=256;rw[K,c3];have:=h.w.v.len;omega)
 have hw:=h.w.apply (f:=f) (u:=u) (by rw[M]);rw[M] at hw;refine⟨_,M,hw,h.up,h.peer,?_,?_,?_⟩
 ·intro z F a6;have P:z∈Ir f r u:=F;rw[K] at P;rcases Jm.1 P with rfl|⟨h1,_⟩
  ·exact⟨i,Nat.lt_succ_self i,Q,hb⟩
  obtain⟨j,j1,j2⟩:=h.a z h1 a6;exact⟨j,by omega,j2⟩
 ·intro j z hj F a7;show z∈Ir f r u;rw[K];by_cases e:j=i
  ·subst e;rw[Q] at F;cases F;exact Jm.2 (.inl rfl)
  exact Jm.2 (.inr ⟨h.b j z (by omega) F a7,λek=>e (bH Y.w.v.Cz F Q ek)⟩)
 intro z F;by_cases e:kH z=kH x
 ·exact⟨x,by show x∈Ir f r u;rw[K];exact Jm.2 (.inl rfl),e.symm⟩
 obtain⟨y,hy,V⟩:=h.c z F;exact⟨y,by show y∈Ir f r u;rw[K];exact Jm.2 (.inr ⟨hy,by rw[V];exact e⟩),V⟩
end Go.AX.Q33
end
section
namespace Go.AX.Cw
universe u v
section
variable {α:Type v} {κ:Type u} [DecidableEq κ] {key:α->κ} {cmp:κ->κ->Int}
def JW (key:α->κ)(l:O α)(p:κ):C α:=l.find? λx=>decide (key x=p)
def MR {l:O α}{p:κ}(h :∀x∈l,key x≠p):JW key l p=none:=by unfold JW;rw[List.find?_eq_none];intro x F;simpa using h x F
def EL {l:O α}{x:α}{p:κ}(h:key x≠p):JW key (x::l) p=JW key l p:=by unfold JW;rw[List.find?_cons_of_neg (by simpa using h)]
def EN {l:O α}{x:α}{p:κ}(h:key x=p):JW key (x::l) p=some x:=by unfold JW;rw[List.find?_cons_of_pos (by simpa using h)]
def YE {l:O α}{p:κ}{x:α}(h:JW key l p=some x):x∈l/\key x=p:=by unfold JW at h;exact⟨List.mem_of_find?_eq_some h,by simpa using List.find?_some h⟩
def Mh (key:α->κ)(cmp:κ->κ->Int):O α->O α->O κ
 | [],b=>b.map key
 | x::a,[]=>key x::Mh key cmp a []
 | x::a,y::b=>if cmp (key x) (key y)<0 then key x::Mh key cmp a (y::b) else if 0<cmp (key x) (key y) then key y::Mh key cmp (x::a) b else key x::Mh key cmp a b termination_by a b=>a.length+b.length
def Gi (key:α->κ)(cmp:κ->κ->Int)(same:α->α->I):O α->O α->O (κ×C α)
 | [],[]=>[]
 | [],y::b=>(key y,some y)::Gi key cmp same [] b
 | x::a,[]=>(key x,none)::Gi key cmp same a []
 | x::a,y::b=>
  if cmp (key x) (key y)<0 then (key x,none)::Gi key cmp same a (y::b)
  else if 0<cmp (key x) (key y) then (key y,some y)::Gi key cmp same (x::a) b
  else if same x y=true then Gi key cmp same a b else (key y,some y)::Gi key cmp same a b termination_by a b=>a.length+b.length
def FV (key:α->κ)(same:α->α->I)(a b:O α)(p:κ):C (κ×C α):=
 match JW key a p,JW key b p with
 | none,none=>none
 | some _,none=>some (p,none)
 | none,some y=>some (p,some y)
 | some x,some y=>if same x y=true then none else some (p,some y)
def Hy {same:α->α->I}{a b F H:O α}{p:κ}(J:JW key a p=JW key F p)(K:JW key b p=JW key H p):FV key same a b p=FV key same F H p:=by unfold FV;rw[J,K]
def FM (h:LO cmp) :∀(a b:O α) (p:κ),p∈Mh key cmp a b↔p∈a.map key\/p∈b.map key
 | [],b,p=>by unfold Mh;simp
 | x::a,[],p=>by unfold Mh;rw[Xa7,FM h a [] p];simp
 | x::a,y::b,p=>by
  unfold Mh;split
  ·rw[Xa7,FM h a (y::b) p];simp[or_assoc]
  split
  ·rw[Xa7,FM h (x::a) b p];simp only[Xbk,Xa7];constructor
   ·rintro (h|(h|h)|h)
    ·exact .inr (.inl h)
    ·exact .inl (.inl h)
    ·exact .inl (.inr h)
    exact .inr (.inr h)
   rintro ((h|h)|(h|h))
   ·exact .inr (.inl (.inl h))
   ·exact .inr (.inl (.inr h))
   ·exact .inl h
   exact .inr (.inr h)
  have e:key x=key y:=h.eq.1 (by omega);rw[Xa7,FM h a b p];simp only[Xbk,Xa7];constructor
  ·rintro (h|h|h)
   ·exact .inl (.inl h)
   ·exact .inl (.inr h)
   exact .inr (.inr h)
  rintro ((h|h)|(h|h))
  ·exact .inl h
  ·exact .inr (.inl h)
  ·exact .inl (h.trans e.symm)
  exact .inr (.inr h) termination_by a b=>a.length+b.length
def lv {l:O α}(F:Cz key cmp l):Cz (λp:κ=>p) cmp (l.map key):=by unfold Cz at F⊢;rw[List.pairwise_map];exact F
def OQ (h:LO cmp) :∀(a b:O α),Cz key cmp a->Cz key cmp b->Cz (λp:κ=>p) cmp (Mh key cmp a b)
 | [],b,_,K=>by unfold Mh;exact lv K
 | x::a,[],P,K=>by
  unfold Mh;obtain⟨a1,Q⟩:=Xab.1 P;refine Xab.2 ⟨λp F=>?_,OQ h a [] Q K⟩;rcases (FM h a [] p).1 F with F|F
  ·obtain⟨z,H,rfl⟩:=Xau.1 F;exact a1 z H
  cases F
 | x::a,y::b,P,K=>by
  unfold Mh;obtain⟨a1,Q⟩:=Xab.1 P;obtain⟨b1,b2⟩:=Xab.1 K;split
  ·rename_i M;refine Xab.2 ⟨λp F=>?_,OQ h a (y::b) Q K⟩;rcases (FM h a (y::b) p).1 F with F|F
   ·obtain⟨z,H,rfl⟩:=Xau.1 F;exact a1 z H
   obtain⟨z,H,rfl⟩:=Xau.1 F;rcases Xa7.1 H with rfl|H
   ·exact M
   exact h.trans M (b1 z H)
  split
  ·rename_i U;have J:cmp (key y) (key x)<0:=h.Lz.2 U;refine Xab.2 ⟨λp F=>?_,OQ h (x::a) b P b2⟩;rcases (FM h (x::a) b p).1 F with F|F
   ·obtain⟨z,H,rfl⟩:=Xau.1 F;rcases Xa7.1 H with rfl|H
    ·exact J
    exact h.trans J (a1 z H)
   obtain⟨z,H,rfl⟩:=Xau.1 F;exact b1 z H
  have e:key x=key y:=h.eq.1 (by omega);refine Xab.2 ⟨λp F=>?_,OQ h a b Q b2⟩;rcases (FM h a b p).1 F with F|F
  ·obtain⟨z,H,rfl⟩:=Xau.1 F;exact a1 z H
  obtain⟨z,H,rfl⟩:=Xau.1 F;rw[e];exact b1 z H termination_by a b=>a.length+b.length
def LQ {F:Type v}{l:O κ}{f g:κ->C F}(h :∀p∈l,f p=g p):l.filterMap f=l.filterMap g:=by
 induction l with
 | nil=>rfl
 | cons p t H=>rw[Xcd,Xcd,h p (by simp),H λq J=>h q (X16 _ J)]
def MV (h:LO cmp)(same:α->α->I) :∀(a b:O α),Cz key cmp a->Cz key cmp b->(Mh key cmp a b).filterMap (FV key same a b)=Gi key cmp same a b
 | [],[],_,_=>by unfold Mh Gi;rfl
 | [],y::b,K,M=>by
  obtain⟨b1,b2⟩:=Xab.1 M;unfold Gi;rw[<- MV h same [] b K b2];have e :∀l:O α,Mh key cmp [] l=l.map key:=λl=>by unfold Mh;rfl
  rw[e,e,Xbk,Xcd];have e1:FV key same [] (y::b) (key y)=some (key y,some y):=by unfold FV;rw[MR (l:=[]) (by simp),EN rfl]
  rw[e1];dsimp only;congr 1;refine LQ λp H=>Hy rfl (EL ?_);obtain⟨z,F,rfl⟩:=Xau.1 H;exact h.ne (b1 z F)
 | x::a,[],K,M=>by
  obtain⟨a1,U⟩:=Xab.1 K;unfold Gi Mh;rw[<- MV h same a [] U M,Xcd];have e1:FV key same (x::a) [] (key x)=some (key x,none):=by unfold FV;rw[MR (l:=[]) (by simp),EN rfl]
  rw[e1];dsimp only;congr 1;refine LQ λp H=>Hy (EL ?_) rfl;rcases (FM h a [] p).1 H with H|H
  ·obtain⟨z,F,rfl⟩:=Xau.1 H;exact h.ne (a1 z F)
  cases H
 | x::a,y::b,K,M=>by
  obtain⟨a1,U⟩:=Xab.1 K;obtain⟨b1,b2⟩:=Xab.1 M;unfold Gi Mh;split
  ·rename_i P;rw[<- MV h same a (y::b) U M,Xcd];have Y :∀z∈y::b,cmp (key x) (key z)<0:=λz F=>by
    rcases Xa7.1 F with rfl|F
    ·exact P
    exact h.trans P (b1 z F)
   have e1:FV key same (x::a) (y::b) (key x)=some (key x,none):=by unfold FV;rw[MR (l:=y::b) (λz F=>(h.ne (Y z F)).symm),EN rfl]
   rw[e1];dsimp only;congr 1;refine LQ λp H=>Hy (EL ?_) rfl;rcases (FM h a (y::b) p).1 H with H|H
   ·obtain⟨z,F,rfl⟩:=Xau.1 H;exact h.ne (a1 z F)
   obtain⟨z,F,rfl⟩:=Xau.1 H;exact h.ne (Y z F)
  split
  ·rename_i V;have J:cmp (key y) (key x)<0:=h.Lz.2 V;rw[<- MV h same (x::a) b K b2,Xcd];have Z :∀z∈x::a,cmp (key y) (key z)<0:=λz F=>by
    rcases Xa7.1 F with rfl|F
    ·exact J
    exact h.trans J (a1 z F)
   have e1:FV key same (x::a) (y::b) (key y)=some (key y,some y):=by unfold FV;rw[MR (l:=x::a) (λz F=>(h.ne (Z z F)).symm),EN rfl]
   rw[e1];dsimp only;congr 1;refine LQ λp H=>Hy rfl (EL ?_);rcases (FM h (x::a) b p).1 H with H|H
   ·obtain⟨z,F,rfl⟩:=Xau.1 H;exact h.ne (Z z F)
   obtain⟨z,F,rfl⟩:=Xau.1 H;exact h.ne (b1 z F)
  have e:key x=key y:=h.eq.1 (by omega);rw[<- MV h same a b U b2,Xcd];have e1:FV key same (x::a) (y::b) (key x)=if same x y=true then none else some (key y,some y):=by unfold FV;rw[EN rfl,EN e.symm,e]
  have e2:(Mh key cmp a b).filterMap (FV key same (x::a) (y::b))=(Mh key cmp a b).filterMap (FV key same a b):=by
   refine LQ λp H=>?_;have Q:key x≠p:=by
    rcases (FM h a b p).1 H with H|H
    ·obtain⟨z,F,rfl⟩:=Xau.1 H;exact h.ne (a1 z F)
    obtain⟨z,F,rfl⟩:=Xau.1 H;rw[e];exact h.ne (b1 z F)
   exact Hy (EL Q) (EL (e▸Q))
  rw[e1,e2];cases hs:same x y
  ·rfl
  rfl termination_by a b=>a.length+b.length
def oQ (h:LO cmp)(same:α->α->I){a b:O α}(F:Cz key cmp a)(H:Cz key cmp b){w:O κ}(J:Cz (λp:κ=>p) cmp w)(K :∀p,p∈w↔p∈a.map key\/p∈b.map key):w.filterMap (FV key same a b)=Gi key cmp same a b:=by rw[<- MV h same a b F H];congr 1;exact fP h J (OQ h a b F H) λp=>(K p).trans (FM h a b p).symm
end
end Go.AX.Cw
end
section
namespace Go.AX.Cw
universe u v
section
variable {α:Type v} {κ:Type u} [DecidableEq κ] {key:α->κ} {cmp:κ->κ->Int}
def wS (key:α->κ)(p:κ)(l:O α):O α:=l.filter λx=>!decide (key x=p)
def uG (key:α->κ)(cmp:κ->κ->Int)(r:α)(l:O α):O α:=l.filter (λx=>decide (cmp (key x) (key r)<0))++r::l.filter λx=>decide (0<cmp (key x) (key r))
def K8 (key:α->κ)(cmp:κ->κ->Int)(l:O α)(c:κ×C α):O α:=match c.2 with
 | none=>wS key c.1 l
 | some r=>uG key cmp r (wS key c.1 l)
def Pu (key:α->κ)(c:κ×C α):Prop:=∀r,c.2=some r->key r=c.1
def rQ (h:LO cmp){l:O α}{r:α}(H:Cz key cmp l):Cz key cmp (uG key cmp r l):=by
 unfold uG;refine Xbj.2 ⟨I2 H,Xab.2 ⟨λy K=>?_,I2 H⟩,λa M b F=>?_⟩
 ·have:=(Xb2.1 K).2;exact h.Lz.2 (by simpa using this)
 have J:cmp (key a) (key r)<0:=by simpa using (Xb2.1 M).2
 rcases Xa7.1 F with rfl|F
 ·exact J
 have P:0<cmp (key b) (key r):=by simpa using (Xb2.1 F).2
 exact h.trans J (h.Lz.2 P)
end
end Go.AX.Cw
end
section
namespace Go.AX.Cw
universe u v
section
variable {α:Type v} {κ:Type u} [DecidableEq κ] {key:α->κ} {cmp:κ->κ->Int}
end
end Go.AX.Cw
end
section
namespace Go.AX.Q33
open Go Go.AX Go.AX.Cw
instance:DecidableEq fI:=λa b=>decidable_of_iff _ (fI.zb a b)
def idP (p:fI):fI:=p
def LY (l:O fI):Prop:=Cz idP Az l
def LL (l:O fI)(p:fI):O fI:=(l.filter λq=>decide (Az q p<0))++p::l.filter λq=>decide (0<Az q p)
def nF {l:O fI}{p x:fI}:x∈LL l p↔x∈l\/x=p:=by
 unfold LL;simp only[X20,Xa7,Xb2,Xy];constructor
 ·rintro (⟨h,_⟩|h|⟨h,_⟩)
  ·exact .inl h
  ·exact .inr h
  exact .inl h
 rintro (h|h)
 ·by_cases e:x=p
  ·exact .inr (.inl e)
  have H:Az x p≠0:=λq=>e (Ax.eq.1 q);by_cases F:Az x p<0
  ·exact .inl ⟨h,F⟩
  exact .inr (.inr ⟨h,by omega⟩)
 exact .inr (.inl h)
def SR {l:O fI}{p:fI}(h:LY l):LY (LL l p):=rQ (key:=idP) Ax (r:=p) h
def O9 {α:Type}{f:α->I}{l:O α}(h :∀x∈l,f x=true):l.filter f=l:=Xd0.2 h
def OG {α:Type}{f:α->I}{l:O α}(h :∀x∈l,f x=false):l.filter f=[]:=Xcw.2 λx F=>by rw[h x F];decide
def XT {l1 l2:O fI}{p:fI}(H:At idP Az p l1 l2):LL (l1++l2) p=l1++p::l2:=by unfold LL;have a1 :∀q∈l1,Az q p<0:=H.1;have J :∀q∈l2,0<Az q p:=H.2;rw[Xbb,Xbb,O9 λx F=>Xa4 (a1 x F),OG λx F=>Xa9 (by have:=J x F;omega), OG (l:=l1) λx F=>Xa9 (by have:=a1 x F;omega),O9 (l:=l2) λx F=>Xa4 (J x F)];simp
def Xp {l1 l2:O fI}{p:fI}(H:At idP Az p l1 l2):LL (l1++p::l2) p=l1++p::l2:=by unfold LL;have a1 :∀q∈l1,Az q p<0:=H.1;have J :∀q∈l2,0<Az q p:=H.2;have a0:Az p p=0:=Ax.eq.2 rfl;rw[Xbb,Xbb,Xdq (by simp[a0]),Xdq (by simp[a0]),O9 λx F=>Xa4 (a1 x F),OG λx F=>Xa9 (by have:=J x F;omega), OG (l:=l1) λx F=>Xa9 (by have:=a1 x F;omega),O9 (l:=l2) λx F=>Xa4 (J x F)];simp
def SE {ρ:Type}{l1 l2:O fI}{p:fI}(Y :∀q∈l1,Az q p<0)(Z :∀y t,l2=y::t->¬ Az y p<0)(hl:(l1++l2).length<=1000000)(K:Int->C ρ) : AC (τ:=Int) (λM=>Ad (σ:=Int) (λF H=>AC (τ:=I) (λJ=>if (decide (H<((l1++l2).length:Int))) then Xx (gN (l1++l2) H) λP=>Xx (B2 P p) λQ=>J (cond true (decide (Q<0)) false) else J false ) λU=>if U then F (AG (H+1)) else M H ) xv 0 ) K=K (l1.length:Int):=by
 rw[AB];have V:(l1++l2).length=l1.length+l2.length:=by simp
 refine Bq (λv:Int=>0<=v/\v<=l1.length) (λv=>(l1.length-v).toNat) (λ_=>K (l1.length:Int)) ?_ xv 0 ⟨by omega,by omega⟩ (BE (by omega));intro next v hv ih
 obtain⟨v,rfl⟩ :∃n:Nat,v=(n:Int):=⟨v.toNat,by omega⟩;rw[AB];by_cases h:v<l1.length
 ·rw[Xa2 (by simp;omega),Ae (by omega),AA,Ho,AA];have:(l1++l2)[v]'(by omega)=l1[v]:=Xaq h;rw[this,show decide (Az l1[v] p<0)=true from Xa4 (Y _ (Xad h))];show (if true=true then _ else _)=_;rw[Xa2 rfl,AK (by omega)];exact ih _ ⟨by omega,by omega⟩ (by omega)
 have e:v=l1.length:=by omega
 subst e;cases l2 with
 | nil=>rw[Xa1 (by simp)];show (if false=true then _ else _)=_;rw[Xa1 (by simp)]
 | cons y t=>rw[Xa2 (by simp;omega),F5,AA,Ho,AA];rw[show decide (Az y p<0)=false from Xa9 (Z y t rfl)];show (if false=true then _ else _)=_;rw[Xa1 (by simp)]
def pF {ρ:Type}{l1 l2:O fI}{p:fI}(U:(l1++l2).length<=1000000)(K:O fI->C ρ) : (Xx (Ch (0<=(l1.length:Int)/\(l1.length:Int)<=((l1++l2).length:Int)/\((l1++l2).length:Int)<=((l1++l2).length:Int))) λ_=>Xx (gO (α:=fI) 32 [] (Xb7 (Xa0 ((l1++l2).length:Int)-Xa0 (l1.length:Int)) (Xb8 (Xa0 (l1.length:Int)) (l1++l2)))) λ_=>Xx (part (l1++l2) 0 (l1.length:Int)) λH=>Xx (gO (α:=fI) 32 H ([p]:O fI)) λJ=>Xx (gO (α:=fI) 32 J (Xb7 (Xa0 ((l1++l2).length:Int)-Xa0 (l1.length:Int)) (Xb8 (Xa0 (l1.length:Int)) (l1++l2)))) λM=>K M)=K (l1++p::l2):=by
 have F:(l1++l2).length=l1.length+l2.length:=by simp
 have P:Xb7 (Xa0 ((l1++l2).length:Int)-Xa0 (l1.length:Int)) (Xb8 (Xa0 (l1.length:Int)) (l1++l2))=l2:=by rw[Xax,Xax,List.drop_left,F,Nat.add_sub_cancel_left,Xd3]
 have Q:part (l1++l2) 0 (l1.length:Int)=some l1:=by have:=Ds (l:=l1++l2) (a:=0) (b:=l1.length) (by omega) (by omega);simpa using this
 rw[iw ⟨by omega,by omega,by omega⟩,P,AD (by decide) (by simp;omega),AA,Q,AA,AD (by decide) (by simp;omega),AA,AD (by decide) (by simp;omega),AA];simp
def TW {l:O fI}{p:fI}(h:LY l):(LL l p).length<=l.length+1:=by
 rcases split Ax h p with ⟨H,x,J,rfl,e,F⟩|⟨H,J,rfl,F⟩
 ·have K:x=p:=e;subst K;rw[Xp F];omega
 rw[XT F];simp only[X2,X3];omega
def wz {ρ:Type}{l:O fI}{p:fI}(hs:LY l)(hl:l.length<=100000)(K:O fI->C ρ) : AC (τ:=(O fI)) (λP=>AC (τ:=Int) (λV=>Ad (σ:=Int) (λH J=>AC (τ:=I) (λQ=>if (decide (J<(l.length:Int))) then Xx (gN l J) λY=>Xx (B2 Y p) λZ=>Q (cond true (decide (Z<0)) false) else Q false ) λa6=>if a6 then H (AG (J+1)) else V J ) xv 0 ) λF=>AC (τ:=I) (λU=>if (decide (F<(l.length:Int))) then Xx (gN l F) λa7=>U (cond true (fI.zn a7 p) false) else U false ) λa8=>if a8 then P l else Xx (Ch (0<=F/\F<=(l.length:Int)/\(l.length:Int)<=(l.length:Int))) λ_=>Xx (gO (α:=fI) 32 [] (Xb7 (Xa0 (l.length:Int)-Xa0 F) (Xb8 (Xa0 F) l))) λ_=>Xx (part l 0 F) λaa=>Xx (gO (α:=fI) 32 aa ([p]:O fI)) λab=>Xx (gO (α:=fI) 32 ab (Xb7 (Xa0 (l.length:Int)-Xa0 F) (Xb8 (Xa0 F) l))) λae=>P ae ) K=K (LL l p):=by
 rw[AB];rcases split Ax hs p with ⟨l1,x,l2,rfl,e,M⟩|⟨l1,l2,rfl,M⟩
 ·have e':x=p:=e;subst e';have a1 :∀q∈l1,Az q x<0:=M.1;rw[SE (l2:=x::l2) a1 (λy t hy=>by cases hy;have:Az x x=0:=Ax.eq.2 rfl;omega) (by omega),AB,Xa2 (by simp;omega),F5,AA,(fI.zb x x).2 rfl];show (if true=true then _ else _)=_;rw[Xa2 rfl,Xp M]
 have a1 :∀q∈l1,Az q p<0:=M.1;have a2 :∀q∈l2,0<Az q p:=M.2;rw[SE a1 (λy t hy=>by have:=a2 y (by rw[hy];simp);omega) (by omega),AB,XT M];have hr:=pF (p:=p) (l1:=l1) (l2:=l2) (by omega) K;cases l2 with
 | nil=>rw[Xa1 (by simp)];show (if false=true then _ else _)=_;rw[Xa1 (by simp)];exact hr
 | cons y t=>
  rw[Xa2 (by simp;omega),F5,AA];have:fI.zn y p=false:=by
   cases hq:fI.zn y p with
   | false=>rfl
   | true=>have:=(fI.zb y p).1 hq;have h3:=a2 y (by simp);rw[this,Ax.eq.2 rfl] at h3;omega
  rw[this];show (if false=true then _ else _)=_;rw[Xa1 (by simp)];exact hr
def OW {α σ ρ:Type}{K:σ->C ρ}{body:(σ->C ρ)->α->Nat->σ->C ρ}(st:σ->α->σ)(I:Nat->σ->Prop) :∀(l:O α) (i:Nat) (s:σ), (∀x∈l,∀n s,I (n+1) s->I n (st s x))->(∀next x j s n,x∈l->I (n+1) s->body next x j s=next (st s x))->I l.length s->AL K body l i s=K (l.foldl st s)
 | [],_,_,_,_,_=>rfl
 | x::t,i,s,H,J,h=>by show body (λM=>AL K body t (i+1) M) x i s=_;rw[J _ x i s t.length (by simp) h];exact OW st I t (i+1) (st s x) (λy F=>H y (X16 _ F)) (λnext y j s n F=>J next y j s n (X16 _ F)) (H x (by simp) _ _ h)
def K0 (l:O fI)(b:rv):O fI:=b.gT.foldl (λl h=>LL l h.mu.fI) l
def UD (s:ur):O fI:=s.oT.foldl K0 []
def Ni {α:Type}(key:α->fI) :∀(t:O α) {l:O fI},LY l->LY (t.foldl (λl x=>LL l (key x)) l)/\(t.foldl (λl x=>LL l (key x)) l).length<=l.length+t.length/\∀p,p∈t.foldl (λl x=>LL l (key x)) l↔p∈l\/p∈t.map key
 | [],l,h=>⟨h,Xak _,λp=>by simp⟩
 | x::t,l,h=>by obtain⟨F,J,H⟩:=Ni key t (SR (p:=key x) h);have:=TW (p:=key x) h;refine⟨F,by simp only[Xaj,X3];omega,λp=>?_⟩;rw[Xaj,H,nF,Xbk,Xa7,or_assoc]
def LS {l:O fI}(b:rv)(h:LY l):LY (K0 l b)/\(K0 l b).length<=l.length+b.gT.length/\∀p,p∈K0 l b↔p∈l\/p∈iY b:=
 Ni (λh:gT=>h.mu.fI) b.gT h
def Qv :∀(t:O rv) {l:O fI},LY l->LY (t.foldl K0 l)/\∀p,p∈t.foldl K0 l↔p∈l \/∃b∈t,p∈iY b
 | [],l,h=>⟨h,λp=>by simp⟩
 | b::t,l,h=>by
  obtain⟨a1,M,H⟩:=LS b h;obtain⟨J,K⟩:=Qv t a1;refine⟨J,λp=>?_⟩;rw[Xaj,K,H];constructor
  ·rintro ((q|q)|⟨c,F,q⟩)
   ·exact .inl q
   ·exact .inr ⟨b,by simp,q⟩
   exact .inr ⟨c,X16 _ F,q⟩
  rintro (q|⟨c,F,q⟩)
  ·exact .inl (.inl q)
  rcases Xa7.1 F with rfl|F
  ·exact .inl (.inr q)
  exact .inr ⟨c,F,q⟩
def j4 (s:ur):LY (UD s):=(Qv s.oT Xdm).1
def stH (l:O fI)(h:gT):O fI:=LL l h.mu.fI
def iH (m:Nat)(l:O fI):Prop:=LY l/\l.length+m<=60000
def iB (n:Nat)(l:O fI):Prop:=LY l/\l.length+256*n<=20000
def wx {ρ:Type}{next:O fI->C ρ}{body:(O fI->C ρ)->gT->Nat->O fI->C ρ}{t:O gT}{l:O fI}(F:iH t.length l) (H :∀next x j l m,x∈t->iH (m+1) l->body next x j l=next (stH l x)):AL next body t 0 l=next (t.foldl stH l):=by refine OW stH iH t 0 l ?_ H F;intro x _ m l h;exact⟨SR h.1,by have:=TW (p:=x.mu.fI) h.1;have:=h.2;unfold stH;omega⟩
def vz {ρ:Type}{next:O fI->C ρ}{body:(O fI->C ρ)->rv->Nat->O fI->C ρ}{t:O rv}(J:t.length<=64)(H :∀b∈t,b.gT.length<=256) (F :∀next x j l m,x∈t->iB (m+1) l->body next x j l=next (K0 l x)):AL next body t 0 []=next (t.foldl K0 []):=by refine OW K0 iB t 0 [] ?_ F ⟨Xdm,by simp;omega⟩;intro b F n l h;obtain⟨a1,K,_⟩:=LS b h.1;have:=H b F;have:=h.2;exact⟨a1,by omega⟩
def dW {s:ur}(H:s.oT.length<=64)(F :∀b∈s.oT,b.gT.length<=256):FD s=some (UD s):=by
 unfold FD;rw[AB];refine (vz H F ?_).trans rfl;intro next b j l n J h
 have K:=F b J;have M:=h.2;rw[AB,AB];refine wx ⟨h.1,by omega⟩ ?_;intro next x j l m _ h
 have P:l.length<=100000:=by have:=h.2;omega
 exact wz (p:=x.mu.fI) h.1 P next
def kR (r:mu):fI:=r.fI
def stR (l:O fI)(r:mu):O fI:=LL l r.fI
def qu (a b:O mu):O fI:=(a++b).foldl stR []
def eN (a b:O mu):LY (qu a b)/\(qu a b).length<=a.length+b.length/\∀p,p∈qu a b↔p∈a.map kR\/p∈b.map kR:=by obtain⟨F,H,J⟩:=Ni kR (a++b) (l:=[]) Xdm;refine⟨F,Xay H (by simp),λp=>?_⟩;show p∈List.foldl (λl x=>LL l (kR x)) [] (a++b)↔_;rw[J,List.map_append,X20];simp only[Xc3,false_or]
def xC {ρ:Type}{l:O fI}{p:fI}(hs:LY l)(hl:l.length<=100000)(K:O fI->C ρ) : AC (τ:=(O fI)) (λk7=>AC (τ:=Int) (λk8=>Ad (σ:=Int) (λJ H=>AC (τ:=I) (λP=>if (decide (H<(l.length:Int))) then Xx (gN l H) λV=>Xx (B2 V p) λY=>P (cond true (decide (Y<0)) false) else P false ) λZ=>if Z then J (AG (H+1)) else k8 H ) xv 0 ) λF=>AC (τ:=I) (λQ=>if (F==(l.length:Int)) then Q true else Xx (gN l F) λa6=>Q (cond false true (!(fI.zn a6 p))) ) λa7=>AC (τ:=(O fI)) (λU=>if a7 then Xx (Ch (0<=F/\F<=(l.length:Int)/\(l.length:Int)<=(l.length:Int))) λ_=>Xx (gO (α:=fI) 32 [] (Xb7 (Xa0 (l.length:Int)-Xa0 F) (Xb8 (Xa0 F) l))) λ_=>Xx (part l 0 F) λa8=>Xx (gO (α:=fI) 32 a8 ([p]:O fI)) λaa=>Xx (gO (α:=fI) 32 aa (Xb7 (Xa0 (l.length:Int)-Xa0 F) (Xb8 (Xa0 F) l))) λab=>U ab else U l ) λae=>k7 ae ) K=K (LL l p):=by
 rw[AB];rcases split Ax hs p with ⟨l1,x,l2,rfl,e,M⟩|⟨l1,l2,rfl,M⟩
 ·have e':x=p:=e;subst e';have a1 :∀q∈l1,Az q x<0:=M.1;rw[SE (l2:=x::l2) a1 (λy t hy=>by cases hy;have:Az x x=0:=Ax.eq.2 rfl;omega) (by omega),AB,Xa1 (by simp;omega),F5,AA,(fI.zb x x).2 rfl];show AC _ _=_;rw[AB];show (if false=true then _ else _)=_;rw[Xa1 (by simp),Xp M]
 have a1 :∀q∈l1,Az q p<0:=M.1;have a2 :∀q∈l2,0<Az q p:=M.2;rw[SE a1 (λy t hy=>by have:=a2 y (by rw[hy];simp);omega) (by omega),AB,XT M];have hr:=pF (p:=p) (l1:=l1) (l2:=l2) (by omega) K;cases l2 with
 | nil=>rw[Xa2 (by simp)];show AC _ _=_;rw[AB,Xa2 rfl];exact hr
 | cons y t=>
  rw[Xa1 (by simp;omega),F5,AA];have:fI.zn y p=false:=by
   cases hq:fI.zn y p with
   | false=>rfl
   | true=>have:=(fI.zb y p).1 hq;have h3:=a2 y (by simp);rw[this,Ax.eq.2 rfl] at h3;omega
  rw[this];show AC _ _=_;rw[AB];show (if true=true then _ else _)=_;rw[Xa2 rfl];exact hr
def vo {ρ:Type}{next:O fI->C ρ}{body:(O fI->C ρ)->mu->Nat->O fI->C ρ}{t:O mu}{l:O fI}(F:iH t.length l) (H :∀next x j l m,x∈t->iH (m+1) l->body next x j l=next (stR l x)):AL next body t 0 l=next (t.foldl stR l):=by refine OW stR iH t 0 l ?_ H F;intro x _ m l h;exact⟨SR h.1,by have:=TW (p:=x.fI) h.1;have:=h.2;unfold stR;omega⟩
def oi {a b:O mu}(h:a.length+b.length<=60000):Gm a b=some (qu a b):=by
 unfold Gm;rw[AD (by decide) (by simp;omega),AA,AD (by decide) (by omega),AA,AB];refine (vo ⟨Xdm,by simp;omega⟩ ?_).trans rfl;intro next x j l m _ h
 exact xC (p:=x.fI) h.1 (by have:=h.2;omega) next
def fR (l:O mu)(p:fI):mu×I:=match JW kR l p with
 | some r=>(r,true)
 | none=>(PA,false)
def dQ (l:O mu)(p:fI):E0 l p=some (fR l p):=by
 unfold E0;rw[AB];have go :∀(t:O mu) (i:Nat),AL (σ:=Unit) (λ_=>some (PA,false)) (λF H M _=>if (fI.zn H.fI p)=true then some (H,true) else F ()) t i ()=some (fR t p):=by
  intro t;induction t with
  | nil=>intro i;rfl
  | cons x t J=>
   intro i;rw[A6];by_cases e:x.fI=p
   ·rw[(fI.zb _ _).2 e,Xa2 rfl];unfold fR;rw[EN (key:=kR) e]
   have:fI.zn x.fI p=false:=by
    cases K:fI.zn x.fI p with
    | false=>rfl
    | true=>exact absurd ((fI.zb _ _).1 K) e
   rw[this,Xa1 (by decide)];refine (J (i+1)).trans ?_;unfold fR;rw[EL (key:=kR) e]
 exact go l 0
def mkC (to:Int)(c:fI×C mu):DA:=match c.2 with
 | some r=>⟨to,c.1,true,r⟩
 | none=>⟨to,c.1,false,PA⟩
def TO (to:Int)(a b:O mu)(p:fI):O DA:=((FV kR JL a b p).map (mkC to)).toList
def Vb {r:mu}(h:Mo r.gH):DG [r]=some [r]:=by unfold DG;rw[AB,A6,Ry h,AA,AD (by decide) (by simp),AA];rfl
def vQ {ρ:Type}{to:Int}{a b:O mu}{p:fI}(hb :∀r∈b,Mo r.gH){v:O DA}(hv:v.length<=100000)(K:O DA->C ρ) : AC (τ:=(O DA)) (λk7=>Xx (E0 a p) λ(v8,v9)=>Xx (E0 b p) λ(v10,v11)=>AC (τ:=I) (λJ=>if (v9==v11) then Xx (A5 v8 v10) λP=>J (cond true P false) else J false ) λQ=>if Q then k7 v else AC (τ:=DA) (λM=>if v11 then Xx (DG ([v10]:O mu)) λU=>Xx (gN U 0) λV=>M (⟨to,p,v11,V⟩:DA) else M (⟨to,p,v11,(⟨(⟨(⟨false,(0:j),(0:j)⟩:Addr),0⟩:fI),0,(⟨0,[],(⟨false,(0:j),(0:j)⟩:Addr),0,0,0,[],[],[]⟩:gH)⟩:mu)⟩:DA) ) λY=>Xx (gO (α:=DA) 240 v ([Y]:O DA)) λZ=>k7 Z ) K=K (v++TO to a b p):=by
 rw[AB,dQ,AA];unfold TO FV;have F :∀c:DA,gO (α:=DA) 240 v [c]=some (v++[c]):=λc=>AD (by decide) (by simp;omega);have fn :∀l:O mu,JW kR l p=none->fR l p=(PA,false):=λl h=>by unfold fR;rw[h]
 have fs :∀(l:O mu) (x:mu),JW kR l p=some x->fR l p=(x,true):=λl x h=>by unfold fR;rw[h]
 cases hx:JW kR a p with
 | none=>
  rw[fn a hx];dsimp only;rw[dQ,AA];cases H:JW kR b p with
  | none=>rw[fn b H];dsimp only;rw[AB,Xa2 (by rfl),Vf,AA,(jc PA PA).2 rfl];show (if true=true then _ else _)=_;rw[Xa2 rfl];simp
  | some y=>have hs:=hb y (YE H).1;rw[fs b y H];dsimp only;rw[AB,Xa1 (by decide)];show (if false=true then _ else _)=_;rw[Xa1 (by decide),AB,Xa2 rfl,Vb hs,AA,Jh,AA];dsimp only;rw[F,AA];rfl
 | some x=>
  rw[fs a x hx];dsimp only;rw[dQ,AA];cases H:JW kR b p with
  | none=>rw[fn b H];dsimp only;rw[AB,Xa1 (by decide)];show (if false=true then _ else _)=_;rw[Xa1 (by decide),AB,Xa1 (by decide)];dsimp only;rw[F,AA];rfl
  | some y=>
   have hs:=hb y (YE H).1;rw[fs b y H];dsimp only;rw[AB,Xa2 (by rfl),Vf,AA];cases hq:JL x y
   ·show (if false=true then _ else _)=_;rw[Xa1 (by decide),AB,Xa2 rfl,Vb hs,AA,Jh,AA];dsimp only;rw[F,AA];rfl
   show (if true=true then _ else _)=_;rw[Xa2 rfl];simp
def stC (to:Int)(a b:O mu)(v:O DA)(p:fI):O DA:=v++TO to a b p
def iC (m:Nat)(v:O DA):Prop:=v.length+m<=90000
def jO (to:Int)(a b:O mu)(p:fI):(TO to a b p).length<=1:=by unfold TO;cases FV kR JL a b p<;>simp
def xQ {ρ:Type}{to:Int}{a b:O mu}{next:O DA->C ρ}{body:(O DA->C ρ)->fI->Nat->O DA->C ρ}{t:O fI}{l:O DA}(F:iC t.length l) (H :∀next x j l m,x∈t->iC (m+1) l->body next x j l=next (stC to a b l x)):AL next body t 0 l=next (t.foldl (stC to a b) l):=by refine OW (stC to a b) iC t 0 l ?_ H F;intro x _ m l h;have:=jO to a b x;have J:l.length+(m+1)<=90000:=h;show (l++TO to a b x).length+m<=90000;rw[X2];omega
def tY (to:Int)(a b:O mu) :∀(t:O fI) (v:O DA),t.foldl (stC to a b) v=v++(t.filterMap (FV kR JL a b)).map (mkC to)
 | [],v=>by simp
 | p::t,v=>by rw[Xaj,tY to a b t];unfold stC TO;rw[Xcd];cases FV kR JL a b p<;>simp
def ua {to:Int}{a b:O mu}(F:Cz kR Az a)(H:Cz kR Az b)(J:a.length+b.length<=60000)(K :∀r∈b,Mo r.gH):HZ to a b=some ((Gi kR Az JL a b).map (mkC to)):=by
 obtain⟨M,Q,P⟩:=eN a b;unfold HZ;rw[oi J,AA,AB];refine (xQ (to:=to) (a:=a) (b:=b) (by show [].length+_<=90000;simp;omega) ?_).trans ?_
 ·intro next x j v m _ h
  exact vQ (p:=x) K (by have U:v.length+(m+1)<=90000:=h;omega) next
 rw[tY,Xah,oQ Ax JL F H M P]
end Go.AX.Q33
end
