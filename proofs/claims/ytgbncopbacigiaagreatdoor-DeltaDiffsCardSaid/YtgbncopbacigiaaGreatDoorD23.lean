/-
  Texts of one proof, packed.
-/
import Derived.Test.YtgbncopbacigiaaGreatDoorD22
import Derived.KernelRfl
set_option linter.all false
set_option maxRecDepth 100000
set_option maxHeartbeats 4000000
open List renaming length_map→X10,length_append→X11,length_cons→X12,length_nil→X13,mem_singleton→X14,getElem?_eq_getElem→X15,getElem?_eq_some_iff→X16,length_drop→X17,length_take→X18,mem_cons_of_mem→X19,length_replicate→X20,length_set→X21,mem_append→X23
open Option.some renaming inj→X25
open Bool renaming and_eq_true→X27
open Option renaming bind→Xd
open Int renaming toNat→Xi
open List renaming take→Xaq,drop→Xat,replicate→Xb6
open Go renaming maxLen→Xbl
open ByteArray renaming empty→Xaj
open List.Pairwise renaming nil→Xbq
section
namespace Go.AX.Q29
open Go Go.AX Go.AX.sN
structure w9 (b:pk):Prop where
 h:b.gN.length<=1000000
 n:b.r6.rz.length<=1000000
 a :∀x∈b.gN,vb x.gD.gH
def vb.x3 {a:gH}(h:vb a):tC a:=⟨h.p,h.t,h.c,h.l,h.o,h.d⟩
def w9.xy {b:pk}(h:w9 b):xV b:=⟨h.h,h.n,λx F=>(h.a x F).x3⟩
def KD (p:r6):I:=(DU p).getD false
def zf (p:r6):Cj p=some (KD p):=by unfold KD;rw[LJ,NF];rfl
def vL (b:pk)(x:gN):I:=Eh x.gD.gH&&(!(x.gD.rT !=b.r6.r4)&&(!(decide (x.sc<0))&&(!(decide (x.sc>14))&&!(!b.Up&&!x.sb))))
def UF (b:pk)(i:Nat)(x:gN):I:=!B8 x.gD.fv || (decide ((i:Int)>0)&&decide (Ab (kH (b.gN.getD (i-1) x)) (kH x)≥0) || !vL b x)
def vT {ρ:Type}(H v F J M u s:I)(K:I->C ρ):(if (cond false true (cond true H false))=true then K true else if (cond false true (!v))=true then K true else if (cond false true F)=true then K true else if (cond false true J)=true then K true else if (cond false true M)=true then K true else if (!u)=true then K (cond false true (cond true (!s) false)) else K false)=K (!true || (true&&H || !(v&&(!F&&(!J&&(!M&&!(!u&&!s))))))):=by cases H<;>cases v<;>cases F<;>cases J<;>cases M<;>cases u<;>cases s<;>rfl
def vF {ρ:Type}(M v F H J u s:I)(K:I->C ρ):(if (cond false true (!v))=true then K true else if (cond false true F)=true then K true else if (cond false true H)=true then K true else if (cond false true J)=true then K true else if (!u)=true then K (cond false true (cond true (!s) false)) else K false)=K (!true || (false&&M || !(v&&(!F&&(!H&&(!J&&!(!u&&!s))))))):=by cases M<;>cases v<;>cases F<;>cases H<;>cases J<;>cases u<;>cases s<;>rfl
def jJ {ρ:Type}{b:pk}(U:w9 b){pv:fv->C I}{pc:fv->fv->C Int}{av:gH->C I}(Y :∀p,pv p=some (B8 p))(Z :∀p q,pc p q=some (Ab p q))(h3 :∀a,vb a->av a=some (Eh a)) {i:Nat} {x:gN} (V:b.gN[i]?=some x) (K:I->C ρ) : (Xd (pv x.gD.fv) λF=>if (!F)=true then K true else if (decide ((i:Int)>0))=true then Xd (iX b.gN (AQ ((i:Int)-1))) λH=>Xd (pc H.gD.fv x.gD.fv) λJ=>if (cond false true (cond true (decide (J≥0)) false))=true then K true else Xd (av x.gD.gH) λM=>if (cond false true (!M))=true then K true else if (cond false true (x.gD.rT !=b.r6.r4))=true then K true else if (cond false true (decide (x.sc<0)))=true then K true else if (cond false true (decide (x.sc>14)))=true then K true else if (!b.Up)=true then K (cond false true (cond true (!x.sb) false)) else K false else Xd (av x.gD.gH) λP=>if (cond false true (!P))=true then K true else if (cond false true (x.gD.rT !=b.r6.r4))=true then K true else if (cond false true (decide (x.sc<0)))=true then K true else if (cond false true (decide (x.sc>14)))=true then K true else if (!b.Up)=true then K (cond false true (cond true (!x.sb) false)) else K false)=K (UF b i x):=by
 have hm:=Xay V;have hi:=(X16.1 V).1;have hl:=U.h;unfold UF vL;rw[Y,AA,h3 _ (U.a x hm)];cases hg:B8 x.gD.fv
 ·rw[Xy (by rfl)];rfl
 rw[Xj (by simp)];by_cases hp:0<i
 ·obtain⟨j,rfl⟩ :∃j,i=j+1:=⟨i-1,by omega⟩;have Q:decide (((j+1:Nat):Int)>0)=true:=Wd (by omega);rw[Q,Xy rfl,AN (by omega),show (((j+1:Nat):Int)-1)=(j:Int) by omega,As (by omega),AA,Z,AA,AA,vT];have:b.gN.getD (j+1-1) x=b.gN[j]'(by omega):=by rw[Nat.add_sub_cancel,Wq,X15 (by omega)];rfl
  rw[this];rfl
 have Q:decide ((i:Int)>0)=false:=by simp;omega
 rw[Q,Xj (by simp),AA,vF]
def EC (b:pk):I:=
 KD b.r6&&(decide ((b.gN.length:Int)<=256)&&(decide (0<=b.ru)&&(decide (b.ru<=1073745919)&&(((b.ru !=0)==u9 b.gN)&&(!M7 (UF b) b.gN 0&&(Ru b&&Rj b))))))
def LU {a b:Int}:decide (a>b)=!decide (a<=b):=by
 by_cases h:a<=b
 ·rw[Wd h,Ws (by omega)];rfl
 rw[Ws h,Wd (by omega)];rfl
def UW {a b:Int}:decide (a<b)=!decide (b<=a):=by
 by_cases h:b<=a
 ·rw[Wd h,Ws (by omega)];rfl
 rw[Ws h,Wd (by omega)];rfl
def I4 {b:pk}(H:w9 b):CJ b=some (EC b):=by
 unfold CJ EC;simp only[LU (a:=(b.gN.length:Int)),LU (a:=b.ru),UW (a:=b.ru),zf,AA,AB]
 rw[fW (bad:=UF b) (st:=λs x=>s || x.sb) (r:=some false) (λnext i x s J=>by
  refine (jJ H CP EH (λa h=>KQ h) J λF=>if F=true then some false else (if s=true then next true else next (cond false true x.sb))).trans ?_
  cases UF b i x<;>cases s<;>rfl)]
 rw[WN H.h];have K :∀(l:O gN) (s:I),l.foldl (λs x=>s || x.sb) s=(s || u9 l):=by
  intro l;induction l with
  | nil=>intro s;simp[u9]
  | cons x t M=>intro s;rw[Xai,M];simp[u9,Bool.or_assoc]
 rw[K];simp only[AA,Bool.false_or];have P:(u9 b.gN==(b.ru !=0))=((b.ru !=0)==u9 b.gN):=by cases u9 b.gN<;>cases (b.ru !=0)<;>rfl
 rw[P];show _=some (KD b.r6&&(decide ((b.gN.length:Int)<=256)&&(decide (0<=b.ru)&&(decide (b.ru<=1073745919)&&(((b.ru !=0)==u9 b.gN)&&(!M7 (UF b) b.gN 0&&(decide ((n0 b.gN:Int)<=b.r6.rj)&&decide ((n1 b.gN:Int)<=b.r6.ri))))))));cases KD b.r6<;>cases decide ((b.gN.length:Int)<=256)<;>cases decide (0<=b.ru)<;>cases decide (b.ru<=1073745919)<;>cases ((b.ru !=0)==u9 b.gN)<;>cases M7 (UF b) b.gN 0<;>cases decide ((n0 b.gN:Int)<=b.r6.rj)<;>cases decide ((n1 b.gN:Int)<=b.r6.ri)<;>rfl
def gg {α H:Type}{key:α->H}{cmp:H->H->Int}(lo:LO cmp) :∀{l:O α},(∀j x y,l[j]?=some x->l[j+1]?=some y->cmp (key x) (key y)<0)->si key cmp l
 | [],_=>Xbq
 | a::t,h=>by
  have J:si key cmp t:=gg lo λj x y M P=>h (j+1) x y M P;refine Wu.2 ⟨λb F=>?_,J⟩;cases t with
  | nil=>cases F
  | cons c s=>
   have K:=h 0 a c rfl rfl;rcases Wp.1 F with e|F
   ·rw[e];exact K
   exact lo.trans K ((Wu.1 J).1 b F)
structure VR (b:pk):Prop where
 peer:KD b.r6=true
 len:b.gN.length<=256
 u0:0<=b.ru
 u1:b.ru<=1073745919
 st:(b.ru !=0)=u9 b.gN
 si:si kH Ab b.gN
 ok :∀x∈b.gN,B8 x.gD.fv=true/\vL b x=true
 f4:Ru b=true
 f6:Rj b=true
def VR.of {b:pk}(h:EC b=true):VR b:=by
 unfold EC at h;simp only[X27,Xe,Xbi,Xb7] at h;obtain⟨M,h2,P,Q,U,H,V,Y⟩:=h;rw[JA] at H;have J :∀j x,b.gN[j]?=some x->B8 x.gD.fv=true/\(0<j->Ab (kH (b.gN.getD (j-1) x)) (kH x)<0)/\vL b x=true:=by intro j x F;have:=H j x F;rw[Xan] at this;unfold UF at this;simp only[Bool.or_eq_false_iff,Bool.not_eq_false',Bool.and_eq_false_imp,Xe,Xb2] at this;refine⟨this.1,λK=>?_,this.2.2⟩;have:=this.2.1 (by omega);omega
 refine⟨M,by omega,P,Q,U,gg Ap λj x y F Z=>?_,λx F=>?_,V,Y⟩
 ·have:=(J (j+1) y Z).2.1 (by omega);rw[Nat.add_sub_cancel,Wq,F] at this;exact this
 obtain⟨j,K,e⟩:=List.mem_iff_getElem.1 F;have:=J j x (by rw[X15 K,e]);exact⟨this.1,this.2.2⟩
def VR.to {b:pk}(h:VR b):EC b=true:=by unfold EC;simp only[X27,Xe,Xbi,Xb7];refine⟨h.peer,by have:=h.len;omega,h.u0,h.u1,h.st,?_,h.f4,h.f6⟩;rw[JA];intro j x F;rw[Xan];have H:=Xay F;unfold UF;simp only[Bool.or_eq_false_iff,Bool.not_eq_false',Bool.and_eq_false_imp,Xe,Xb2];refine⟨(h.ok x H).1,λK=>?_,(h.ok x H).2⟩;have J:=(X16.1 F).1;rw[Wq,X15 (by omega)];have:=(List.pairwise_iff_getElem.1 h.si) (j-1) j (by omega) J (by omega);rw[(X16.1 F).2] at this;show ¬ Ab (kH b.gN[j-1]) (kH x)≥0;omega
def F5 (l:O gN)(p:fv):O gN:=l.filter λh=>!(fv.rO h.gD.fv p)
def G7 (l:O gN)(h:gN):O gN:=(l.filter λx=>decide (Ab (kH x) (kH h)<0))++h::l.filter λx=>decide (0<Ab (kH x) (kH h))
def Xk (p:fv)(y:gN):(!(fv.rO y.gD.fv p))=true↔kH y≠p:=by rw[Xb7,<- Bool.not_eq_true,fv.rb];rfl
def XQ {l1 l2:O gN}{x:gN}{p:fv}(h:At kH Ab p l1 l2)(e:kH x=p):F5 (l1++x::l2) p=l1++l2:=X7 Ap h e (Xk p)
def aA {l1 l2:O gN}{p:fv}(h:At kH Ab p l1 l2):F5 (l1++l2) p=l1++l2:=Zk Ap h (Xk p)
def Ls {l1 l2:O gN}{h:gN}(H:At kH Ab (kH h) l1 l2):G7 (l1++l2) h=l1++h::l2:=by
 unfold G7;rw[Xaa,Xaa];have J:l1.filter (λx=>decide (Ab (kH x) (kH h)<0))=l1:=Xc8.2 λ(y:gN) F=>Wd (H.1 y F);have K:l2.filter (λx=>decide (Ab (kH x) (kH h)<0))=[]:=List.filter_eq_nil_iff.2 λy F=>by have:=H.2 y F;simp;omega
 have M:l1.filter (λx=>decide (0<Ab (kH x) (kH h)))=[]:=List.filter_eq_nil_iff.2 λy F=>by have:=H.1 y F;simp;omega
 have P:l2.filter (λx=>decide (0<Ab (kH x) (kH h)))=l2:=Xc8.2 λ(y:gN) F=>Wd (H.2 y F);rw[J,K,M,P,Xag,Xax]
def KX {l1 l2:O gN}{x h:gN}(H:At kH Ab (kH h) l1 l2)(e:kH x=kH h):G7 (l1++x::l2) h=l1++h::l2:=by have F:Ab (kH x) (kH h)=0:=Ap.eq.2 e;unfold G7;rw[Xaa,Xaa,Xba (by rw[F];simp),Xba (by rw[F];simp),<- Xaa,<- Xaa];exact Ls H
def aK {l:O gN}{p:fv}(h:si kH Ab l):si kH Ab (F5 l p):=EP h
def Sm (l:O gN)(p:fv):(F5 l p).length<=l.length:=Xcb _ _
def Vi {l:O gN}{h:gN}(H:si kH Ab l):si kH Ab (G7 l h):=by
 rcases split Ap H (kH h) with ⟨J,x,K,rfl,e,F⟩|⟨J,K,rfl,F⟩
 ·rw[KX F e];exact F.uQ Ap rfl (fX H)
 rw[Ls F];exact F.uQ Ap rfl H
def R2 {l:O gN}{h:gN}(H:si kH Ab l):(G7 l h).length<=l.length+1:=by
 rcases split Ap H (kH h) with ⟨J,x,K,rfl,e,F⟩|⟨J,K,rfl,F⟩
 ·rw[KX F e];simp
 rw[Ls F];simp;omega
def dZ {l:O gN}{h x:gN}(F:x∈G7 l h):x=h\/x∈l:=by
 unfold G7 at F;rw[X23,Wp] at F;rcases F with F|F|F
 ·exact .inr (Xah.1 F).1
 ·exact .inl F
 exact .inr (Xah.1 F).1
def Zl {l:O gN}{p:fv}{x:gN}(F:x∈F5 l p):x∈l:=(Xah.1 F).1
def Qn {l:O gN}{p:fv}(Q:l.length<=1000000):DJ l p=some (F5 l p):=by
 unfold DJ;have go :∀(t:O gN) (i:Nat) (F:O gN),F.length+t.length<=1000000->AI (σ:=O gN) (λv2=>(λU=>some U) v2) (λH (J:gN) i5 v2=>AC (τ:=(O gN)) (λK=>if (!(fv.rO J.gD.fv p)) then Xd (gE (α:=gN) 208 v2 ([J]:O gN)) λV=>K V else K v2) λY=>H Y) t i F=some (F++F5 t p):=by
  intro t;induction t with
  | nil=>intro i F _;rw[Ve];simp[F5]
  | cons x t M=>
   intro i F h;simp only[X12] at h;rw[Be,AB];cases P:fv.rO x.gD.fv p
   ·rw[Xy (by rfl),AD (by decide) (by simp;omega),AA];refine (M _ _ (by simp;omega)).trans ?_;simp[F5,P]
   rw[Xj (by simp)];refine (M _ _ (by omega)).trans ?_;simp[F5,P]
 exact (go l 0 [] (by simpa using Q)).trans (by simp)
def TF {p:Prop}[Decidable p]{ρ:Type}(h:p){K:Unit->C ρ}:(Xd (sR p) λx=>K x)=K ():=by unfold sR;rw[Xy h,AA]
def W5 {ρ:Type}{l1 l2:O gN}{p:fv}(Y:At kH Ab p l1 l2)(hl:(l1++l2).length<=1000000)(K:Int->C ρ) : AC (τ:=Int) (λM=>Ai (σ:=Int) (λF H=>AC (τ:=I) (λJ=>if (decide (H<((l1++l2).length:Int))) then Xd (iX (l1++l2) H) λP=>Xd (BP P.gD.fv p) λQ=>J (cond true (decide (Q<0)) false) else J false) λU=>if U then F (AQ (H+1)) else M H) rp 0) K=K (l1.length:Int):=by
 rw[AB];have Z:(l1++l2).length=l1.length+l2.length:=by simp
 refine Cm (λv:Int=>0<=v/\v<=l1.length) (λv=>(l1.length-v).toNat) (λ_=>K (l1.length:Int)) ?_ rp 0 ⟨by omega,by omega⟩ (BK (by omega));intro next v hv ih
 obtain⟨v,rfl⟩ :∃n:Nat,v=(n:Int):=⟨v.toNat,by omega⟩;rw[AB];by_cases h:v<l1.length
 ·rw[Xy (by simp;omega),As (by omega),AA,EH,AA];have:(l1++l2)[v]'(by omega)=l1[v]:=Xa2 h;have V:=Y.1 _ (Wx h);rw[this,show decide (Ab l1[v].gD.fv p<0)=true from Wd V];show (if true=true then _ else _)=_;rw[Xy rfl,AN (by omega)];exact ih _ ⟨by omega,by omega⟩ (by omega)
 have e:v=l1.length:=by omega
 subst e;cases l2 with
 | nil=>rw[Xj (by simp)];show (if false=true then _ else _)=_;rw[Xj (by simp)]
 | cons y t=>rw[Xy (by simp;omega),F3,AA,EH,AA];have V:=Y.2 y (by simp);rw[show decide (Ab y.gD.fv p<0)=false from Ws (by have:0<Ab y.gD.fv p:=V;omega)];show (if false=true then _ else _)=_;rw[Xj (by simp)]
def lX {ρ:Type}{l:O gN}{h:gN}{p:fv}(hp:kH h=p)(hs:si kH Ab l)(hl:l.length<=100000)(K:O gN->C ρ) : (Xd (DJ l p) λF=>AC (τ:=Int) (λZ=>Ai (σ:=Int) (λP Q=>AC (τ:=I) (λV=>if (decide (Q<(F.length:Int))) then Xd (iX F Q) λa1=>Xd (BP a1.gD.fv p) λa6=>V (cond true (decide (a6<0)) false) else V false ) λa7=>if a7 then P (AQ (Q+1)) else Z Q ) rp 0 ) λH=>Xd (sR (0<=H/\H<=(F.length:Int)/\(F.length:Int)<=(F.length:Int))) λ_=>Xd (gE (α:=gN) 208 [] (Xaq (Xi (F.length:Int)-Xi H) (Xat (Xi H) F))) λ_=>Xd (sR (H<=H/\H<=(F.length:Int))) λ_=>Xd (part F 0 H) λa8=>Xd (gE (α:=gN) 208 a8 ([h]:O gN)) λaa=>Xd (gE (α:=gN) 208 aa (Xaq (Xi (F.length:Int)-Xi H) (Xat (Xi H) F))) λab=>K ab)=K (G7 l h):=by
 subst hp;rw[Qn (by omega),AA];obtain⟨J,M,hw,hi,U,ae⟩ :∃J M,F5 l (kH h)=J++M/\G7 l h=J++h::M/\At kH Ab (kH h) J M/\(J++M).length<=100000:=by
  rcases split Ap hs (kH h) with ⟨J,x,M,rfl,e,U⟩|⟨J,M,rfl,U⟩
  ·exact⟨J,M,XQ U e,KX U e,U,by simp at hl⊢;omega⟩
  exact⟨J,M,aA U,Ls U,U,hl⟩
 rw[hw,hi,W5 U (by omega)];have Y:(J++M).length=J.length+M.length:=by simp
 have ht:Xaq (Xi ((J++M).length:Int)-Xi (J.length:Int)) (Xat (Xi (J.length:Int)) (J++M))=M:=by rw[Xa7,Xa7,List.drop_left,Y,Nat.add_sub_cancel_left,Xcj]
 have hp:part (J++M) 0 (J.length:Int)=some J:=by have:=Hu (l:=J++M) (a:=0) (b:=J.length) (by omega) (by omega);simpa using this
 rw[TF ⟨by omega,by omega,by omega⟩,ht,AD (by decide) (by simp;omega),AA,TF ⟨by omega,by omega⟩,hp,AA,AD (by decide) (by simp;omega),AA,AD (by decide) (by simp;omega),AA];simp
def uS (f:mu)(b:pk)(u:rZ)(p:fv):gN:=⟨⟨p,b.r6.r4,u.gH⟩,vm f b.r6 ⟨p,b.r6.r4,u.gH⟩,false⟩
def wx (b:pk)(u:rZ):O gN:=u.qv.foldl F5 b.gN
def H3 (f:mu)(b:pk)(u:rZ):O gN:=u.gT.foldl (λl p=>G7 l (uS f b u p)) (wx b u)
def Jo (b:pk):pk:={ b with ru:=cond (u9 b.gN) b.ru 0 }
def zR:pk:=⟨⟨0,Xaj,0,0,[]⟩,false,[],0⟩
def D4 (f:mu)(b:pk)(u:rZ):pk:={ b with gN:=H3 f b u }
def EO (f:mu)(b:pk)(u:rZ):pk×Int:=
 if (TS f&&(EC b&&Dq u))=true then
  if b.Up=true then
   if (Ru (D4 f b u)&&(Rj (D4 f b u)&&decide (((D4 f b u).gN.length:Int)<=256)))=true then (Jo (D4 f b u),0) else (zR,34)
  else (zR,31)
 else (zR,1)
def Vm {b:pk}{u:rZ}(H:si kH Ab b.gN):si kH Ab (wx b u)/\(wx b u).length<=b.gN.length/\∀x∈wx b u,x∈b.gN:=by
 unfold wx;have go :∀(t:O fv) (l:O gN),si kH Ab l->si kH Ab (t.foldl F5 l)/\(t.foldl F5 l).length<=l.length/\∀x∈t.foldl F5 l,x∈l:=by
  intro t;induction t with
  | nil=>intro l h;exact⟨h,Xa8 _,λx F=>F⟩
  | cons p t J=>intro l h;obtain⟨K,M,P⟩:=J (F5 l p) (aK h);exact⟨K,Xa3 M (Sm l p),λx F=>Zl (P x F)⟩
 exact go _ _ H
def VH {l0:O gN}(g:fv->gN)(F:si kH Ab l0)(t:O fv):si kH Ab (t.foldl (λl p=>G7 l (g p)) l0)/\(t.foldl (λl p=>G7 l (g p)) l0).length<=l0.length+t.length/\∀x∈t.foldl (λl p=>G7 l (g p)) l0,x∈l0 \/∃p∈t,x=g p:=by
 induction t generalizing l0 with
 | nil=>exact⟨F,Xa8 _,λx H=>.inl H⟩
 | cons p t J=>
  obtain⟨K,Q,M⟩:=J (l0:=G7 l0 (g p)) (Vi F);have:=R2 (h:=g p) F;refine⟨K,by simp only[Xai,X12];omega,λx H=>?_⟩;rcases M x H with h|⟨q,P,e⟩
  ·rcases dZ h with e|h
   ·exact .inr ⟨p,by simp,e⟩
   exact .inl h
  exact .inr ⟨q,by simp[P],e⟩
end Go.AX.Q29
end
section
namespace Go.AX.Q29
open Go Go.AX Go.AX.sN
structure uv (u:rZ):Prop where
 a:vb u.gH
 w:u.qv.length<=1000
 n:u.gT.length<=1000
def XM {u:rZ}(h:Dq u=true):u.qv.length<=256/\u.gT.length<=256:=by unfold Dq at h;simp only[X27,Xe] at h;exact⟨h.1,h.2.1⟩
def xB {α σ ρ:Type}{l:O α}{st:σ->α->σ}{I:σ->Prop}{body:(σ->C ρ)->α->Nat->σ->C ρ}{K:σ->C ρ} (H :∀next i x s,x∈l->I s->body next x i s=next (st s x)) (J :∀s x,x∈l->I s->I (st s x)) :∀(i:Nat) (s:σ),I s->AI K body l i s=K (l.foldl st s):=by
 induction l with
 | nil=>intro i s _;rfl
 | cons x t P=>intro i s M;rw[Be,H _ _ _ _ (by simp) M];exact P (λnext i y s F=>H next i y s (X19 _ F)) (λs y F=>J s y (X19 _ F)) (i+1) _ (J s x (by simp) M)
def zh (l:O gN):n0 l+n1 l=l.length:=by
 induction l with
 | nil=>rfl
 | cons x t F=>
  cases h:x.gD.fv.Addr.V6
  ·rw[(PM h).1,(PM h).2,X12];omega
  rw[(UI h).1,(UI h).2,X12];omega
variable {f:mu} {b:pk} {u:rZ}
def VE (Y:xm f)(Z:w9 b)(hp:b.r6.Set.size<=Xbl)(M:uv u):FV f b u=some (EO f b u):=by
 unfold FV EO;rw[AB,Ju Y.s,AA];cases h1:TS f
 ·rw[Xy (by rfl)];rfl
 rw[Xj (by simp),I4 Z,AA];cases h2:EC b
 ·rw[Xy (by rfl)];rfl
 rw[Xj (by simp),U3 M.a M.w M.n eE,AA];cases h3:Dq u
 ·rfl
 show (if (false=true) then _ else _)=_;rw[Xj (by simp),Xc6,Xc6,Xy rfl];cases h4:b.Up
 ·rw[Xy (by rfl),Xj (by simp)];rfl
 rw[Xj (by simp),Xy rfl,Hk Z.xy,AA,AB];have V:=VR.of h2;have hl:=V.len;have a1:=XM h3;rw[xB (st:=F5) (I:=λl=>l.length<=256) (λnext i x s _ F=>by rw[Qn (by omega),AA]) (λs x _ F=>Xa3 (Sm s x) F) 0 b.gN hl];show AC _ _=_;rw[AB];obtain⟨P,a6,a7⟩:=Vm (u:=u) V.si;have hh:=VH (uS f b u) P u.gT;have sa:=M.a.x3;have H:=λ(K:O gN->C (pk×Int)) (body:(O gN->C (pk×Int))->fv->Nat->O gN->C (pk×Int)) (J :∀next x j s n,x∈u.gT->si kH Ab s/\s.length+(n+1)<=1000->body next x j s=next (G7 s (uS f b u x)))=>
  Vo (K:=K) (body:=body) (λl p=>G7 l (uS f b u p)) (λn l=>si kH Ab l/\l.length+n<=1000) (λn s x F=>⟨Vi F.1,by have:=R2 (h:=uS f b u x) F.1;omega⟩) u.gT 0 (wx b u) J ⟨P,by omega⟩
 refine (H _ _ λnext x j s n _ F=>?_).trans ?_;rotate_left
 ·show Xd (EN (D4 f b u)) _=_;have ho:(D4 f b u).gN.length<=512:=by show (H3 f b u).length<=512;unfold H3;omega
  have hn:=zh (D4 f b u).gN;rw[WN (by omega),AA];dsimp only;rw[AB,AN (by omega)];have e1:decide ((n0 (D4 f b u).gN:Int)>b.r6.rj)=!Ru (D4 f b u):=LU;have e2:decide ((n1 (D4 f b u).gN:Int)>b.r6.ri)=!Rj (D4 f b u):=LU;have e3:decide ((n0 (D4 f b u).gN:Int)+(n1 (D4 f b u).gN:Int)>256)=!decide (((D4 f b u).gN.length:Int)<=256):=by rw[LU,show (n0 (D4 f b u).gN:Int)+(n1 (D4 f b u).gN:Int)=((D4 f b u).gN.length:Int) by omega]
  rw[e1,e2,e3];have Q:(Xd (BX (D4 f b u)) λU=>some (U,(0:Int)))=some (Jo (D4 f b u),0):=by rw[KZ,AA];rfl
  cases h5:Ru (D4 f b u)<;>cases h6:Rj (D4 f b u)<;>cases h7:decide (((D4 f b u).gN.length:Int)<=256);all_goals first
   | rfl
   | exact Q
 rw[AB,Lx sa,AA,Vz Y hp M.a,AA];exact lX (h:=uS f b u x) rfl F.1 (by omega) next
end Go.AX.Q29
end
section
namespace Go.AX.Q29
open Go Go.AX Go.AX.sN
def HI {α ρ:Type}{l:O α}{body:(Unit->C ρ)->α->Nat->Unit->C ρ}{K:Unit->C ρ}(F :∀next i x,l[i]?=some x->body next x i ()=next ()):AI K body l 0 ()=K ():=by
 rw[fW (bad:=λ_ _=>false) (st:=λ_ _=>()) (r:=none) (λnext i x s H=>by cases s;exact F next i x H)];have :∀(l:O α) (i:Nat),M7 (λ_ _=>false) l i=false:=by
  intro l;induction l with
  | nil=>intro i;rfl
  | cons x t J=>intro i;unfold M7;rw[J];rfl
 rw[this,Xj (by simp)]
def Addr.u5 (a:Addr):Addr.rO a a=true:=(Addr.rb a a).2 rfl
def FI {α:Type}{l:O α}{i:Nat}{x:α}(h:l[i]?=some x):iX l (i:Int)=some x:=by obtain⟨F,H⟩:=X16.1 h;rw[As F,H]
def RB (a:gH):B6 a a=some true:=by
 unfold B6;simp only[Xca,Bool.false_eq_true,Xd0,Addr.u5,Bool.not_true,Xdg,AB]
 rw[HI (l:=a.Path) λnext i x F=>by
  rw[FI F,AA,AA,Ob]
  simp]
 rw[HI (l:=a.fT) λnext i x F=>by
  rw[FI F,AA,show r8.rO x x=true by unfold r8.rO;simp];rfl]
 rw[HI (l:=a.n8) λnext i x F=>by
  rw[FI F,AA,show n8.rO x x=true by unfold n8.rO;simp];rfl]
 rw[HI (l:=a.lf) λnext i x F=>by
  rw[FI F]
  simp]
def JY (r:gD):Aw r r=some true:=by unfold Aw;rw[(fv.rb _ _).2 rfl,RB];simp[AB]
def N6 (p:r6):KD p=(Bt p.r4&&((decide (0<=p.rj)&&decide (p.rj<=256))&&((decide (0<=p.ri)&&decide (p.ri<=256))&&(decide ((p.rz.length:Int)<=8)&&p.rz.all Addr.ok)))):=by unfold KD;rw[NF];rfl
def VR.yw {b:pk}(h:VR b):w9 b:=by have hp:=h.peer;rw[N6] at hp;simp only[X27,Xe] at hp;refine⟨by have:=h.len;omega,by omega,λx F=>?_⟩;have:=(h.ok x F).2;unfold vL at this;simp only[X27] at this;exact (tC.of this.1).yo
def Xr {d:oX}{n:Int}(F:Dk d)(h:101<=n/\n<=105):Ok (EL d n) λr=>(r.1.r4=n/\r.1.Set.size<=4/\KD r.1=true)/\Dk r.2:=by
 unfold EL;refine .bind (AK F (by omega)) ?_;rintro⟨a,d⟩ ⟨K,M,F⟩;dsimp only at K M F⊢;refine .bind (.iX (by simp;omega)) λnm H=>.bind (AK F (by omega)) ?_;rintro⟨b,d⟩ ⟨b1,b2,F⟩;dsimp only at b1 b2 F⊢;refine .bind (AK F (by omega)) ?_;rintro⟨c,d⟩ ⟨P,Q,F⟩;dsimp only at P Q F⊢;refine .bind (TP h false) λp hp=>.bind (TP h true) λq U=>.ret ⟨⟨rfl,show nm.size<=4 from ?_,?_⟩,F⟩
 ·have J:=H.1;simp only[Wp,Xbf,Xdm] at J;rcases J with rfl|rfl|rfl|rfl|rfl|rfl<;>decide
 rw[N6];dsimp only;rw[AN (by omega),AN (by omega)];unfold Bt;simp only[X27,Xe,Xd1,List.all_nil,hp,U,X12,X13];refine⟨by omega,by omega,by omega,by omega,trivial,trivial,trivial⟩
def GZ (b:pk):pk×Int:=if EC b=true then if b.Up=true then (zR,31) else ({ b with Up:=true },0) else (zR,1)
def VW {b:pk}(h:w9 b):FA b=some (GZ b):=by
 unfold FA GZ;rw[I4 h,AA];cases EC b
 ·rfl
 rw[Xj (by simp),Xy rfl];cases hu:b.Up
 ·rw[Xj (by simp),Xj (by simp),Hk h.xy,AA]
 rfl
def uK (h:gN):gN:={ h with sb:=true }
def PS {ρ:Type}{v:O gN}(hl:v.length<=1000000)(K:O gN->C ρ) : AC (τ:=(O gN)) (λV=>Ai (σ:=Int×(O gN)) (λF (v9,v10)=>if (decide (v9<(v.length:Int))) then Xd (iX v10 v9) λJ=>Xd (sx v10 v9 ({ J with sb:=true })) λM=>F ((AQ (v9+1)),M) else V v10) rp (0,v)) K=K (v.map uK):=by
 rw[AB];refine (Cm (λs:Int×O gN=>0<=s.1/\s.1<=(v.length:Int)/\s.2.length=v.length) (λs=>((v.length:Int)-s.1).toNat) (λs=>K (s.2.take s.1.toNat++(s.2.drop s.1.toNat).map uK)) ?_ rp (0,v) ⟨by simp,by simp,rfl⟩ (BK (by dsimp only;omega))).trans (by simp);rintro next ⟨i,l⟩ ⟨Y,Z,Q⟩ U
 dsimp only at Y Z Q U⊢;obtain⟨i,rfl⟩ :∃n:Nat,i=(n:Int):=⟨i.toNat,by omega⟩;by_cases h:i<v.length
 ·have P:i<l.length:=by omega
  have H:sx l (i:Int) ({ l[i] with sb:=true }:gN)=some (l.set i (uK l[i])):=by unfold sx;rw[Xy (by omega)];rfl
  rw[Xy (by simpa using h),As P,AA,H,AA,AN (by omega)];rw[U _ ⟨by dsimp only;omega,by dsimp only;omega,by simpa using Q⟩ (by dsimp only;omega)];dsimp only;rw[show ((i:Int)+1).toNat=i+1 by omega,Xa7,P0 P,List.drop_set_of_lt (by omega),Xau];congr 2;rw[Xbb P];rfl
 rw[Xj (by simpa using h),show i=l.length by omega];simp
def IQ (b:pk)(H F:Int):pk×Int:=
 if (EC b&&(decide (0<=H)&&(decide (H<=1073741824)&&(decide (0<=F)&&decide (F<=4095)))))=true then
  if b.Up=true then (Jo ⟨b.r6,false,(cond (F==0) [] b.gN).map uK,H+F⟩,0) else (zR,31)
 else (zR,1)
def Xn {b:pk}(h:w9 b){H F:Int}:GW b H F=some (IQ b H F):=by
 unfold GW IQ;simp only[LU (a:=H),LU (a:=F),UW (a:=H),UW (a:=F)];rw[AB,I4 h,AA];cases EC b
 ·rfl
 by_cases J:0<=H;case neg=>rw[Ws J];rfl
 by_cases a2:H<=1073741824;case neg=>rw[Wd J,Ws a2];rfl
 by_cases a3:0<=F;case neg=>rw[Wd J,Wd a2,Ws a3];rfl
 by_cases a4:F<=4095;case neg=>rw[Wd J,Wd a2,Wd a3,Ws a4];rfl
 rw[Wd J,Wd a2,Wd a3,Wd a4];show (if (!b.Up)=true then _ else _)=some (if b.Up=true then _ else _);cases hu:b.Up
 ·rfl
 rw[Xj (by simp),Xy rfl,Hk h.xy,AA,AB,AN (by omega)];have K:=h.h;cases hg:F==0
 ·rw[Xj (by simp)];refine (PS (v:=b.gN) K _).trans ?_;show Xd (BX _) _=_;rw[KZ,AA];rfl
 rw[Xy rfl];refine (PS (v:=[]) (by simp) _).trans ?_;show Xd (BX _) _=_;rw[KZ,AA];rfl
def LC (F:Int)(h:gN):I:=!h.sb || ((F==0&&h.gD.fv.Addr.V6) || (F==1&&!h.gD.fv.Addr.V6))
def OG (b:pk)(F:Int):pk:=Jo { b with gN:=b.gN.filter (LC F) }
def aR {ρ:Type}(w:Int)(x:gN)(K:I->C ρ):AC (τ:=I) (λF=>if (!x.sb) then F true else if (w==0) then if (cond false true (cond true x.gD.fv.Addr.V6 false)) then F true else if (w==1) then F (cond false true (cond true (!x.gD.fv.Addr.V6) false)) else F false else if (w==1) then F (cond false true (cond true (!x.gD.fv.Addr.V6) false)) else F false) K=K (LC w x):=by rw[AB];unfold LC;cases x.sb<;>cases (w==0)<;>cases (w==1)<;>cases x.gD.fv.Addr.V6<;>rfl
def WT {b:pk}(h:xV b)(w:Int):FD b w=some (OG b w):=by
 unfold FD OG;rw[Hk h,AA,AA,AB];have hl:=h.h;have go :∀(t:O gN) (i:Nat) (F:O gN),F.length+t.length<=1000000->AI (σ:=O gN) (λP=>(λQ=>Xd (BX ({ b with gN:=Q })) λU=>some U) P) (λH (K:gN) i7 P=>AC (τ:=I) (λJ=>if (!K.sb) then J true else if (w==0) then if (cond false true (cond true K.gD.fv.Addr.V6 false)) then J true else if (w==1) then J (cond false true (cond true (!K.gD.fv.Addr.V6) false)) else J false else if (w==1) then J (cond false true (cond true (!K.gD.fv.Addr.V6) false)) else J false ) λv9=>AC (τ:=(O gN)) (λM=>if v9 then Xd (gE (α:=gN) 208 P ([K]:O gN)) λV=>M V else M P) λY=>H Y) t i F=some (Jo { b with gN:=F++t.filter (LC w) }):=by
  intro t;induction t with
  | nil=>intro i F _;rw[Ve];dsimp only;rw[KZ,AA];simp[Jo]
  | cons x t Z=>
   intro i F h;simp only[X12] at h;rw[Be,aR,AB];cases hk:LC w x
   ·rw[Xj (by simp)];refine (Z _ _ (by omega)).trans ?_;rw[Xba (by simp[hk])]
   rw[Xy rfl,AD (by decide) (by simp;omega),AA];refine (Z _ _ (by simp;omega)).trans ?_;rw[List.filter_cons_of_pos hk];simp
 exact (go b.gN 0 [] (by simpa using hl)).trans (by simp)
def kb (p:fv):B8 p=JH p:=by have F:=Ot p;rw[Qm] at F;exact (X25 F).symm
def Uk {p:r6}(h:KD p=true):0<=p.rj/\0<=p.ri:=by rw[N6] at h;simp only[X27,Xe] at h;exact⟨h.2.1.1,h.2.2.1.1⟩
def dm {b:pk}(h:VR b):VR { b with Up:=true } where
 peer:=h.peer
 len:=h.len
 u0:=h.u0
 u1:=h.u1
 st:=h.st
 si:=h.si
 ok x hx:=by refine⟨(h.ok x hx).1,?_⟩;have:=(h.ok x hx).2;unfold vL at this⊢;simp only[X27] at this⊢;exact⟨this.1,this.2.1,this.2.2.1,this.2.2.2.1,rfl⟩
 f4:=h.f4
 f6:=h.f6
def ci {l m:O gN}(h:l.Sublist m):n0 l<=n0 m:=h.countP_le
def dk {l m:O gN}(h:l.Sublist m):n1 l<=n1 m:=h.countP_le
def jg {l m:O gN}(h :∀x∈l,x∈m)(F:u9 l=true):u9 m=true:=by unfold u9 at F⊢;rw[List.any_eq_true] at F⊢;obtain⟨x,H,J⟩:=F;exact⟨x,h x H,J⟩
def UU {b:pk}(h:u9 b.gN=true->b.ru≠0):((Jo b).ru !=0)=u9 b.gN:=by
 unfold Jo;dsimp only;cases F:u9 b.gN
 ·rfl
 have:=h F;simpa using this
def GI (b:pk):(Jo b).ru=b.ru\/(Jo b).ru=0:=by
 unfold Jo;dsimp only;cases u9 b.gN
 ·exact .inr rfl
 exact .inl rfl
def aG {b:pk}(h:VR b)(p:gN->I):VR (Jo { b with gN:=b.gN.filter p }) where
 peer:=h.peer
 len:=Xa3 (Xcb _ _) h.len
 u0:=by
  rcases GI { b with gN:=b.gN.filter p } with e|e
  ·rw[e];exact h.u0
  rw[e];exact Int.le_refl _
 u1:=by
  rcases GI { b with gN:=b.gN.filter p } with e|e
  ·rw[e];exact h.u1
  rw[e];decide
 st:=UU λJ=>by have:=h.st;have K:=jg (m:=b.gN) (λx H=>(Xah.1 H).1) J;rw[K] at this;simpa using this
 si:=EP h.si
 ok x H:=h.ok x (Xah.1 H).1
 f4:=by have F:=h.f4;unfold Ru at F⊢;simp only[Xe] at F⊢;have:=ci (List.filter_sublist (p:=p) (l:=b.gN));show ((n0 (b.gN.filter p):Nat):Int)<=_;exact Int.le_trans (Int.ofNat_le.2 this) F
 f6:=by have F:=h.f6;unfold Rj at F⊢;simp only[Xe] at F⊢;have:=dk (List.filter_sublist (p:=p) (l:=b.gN));show ((n1 (b.gN.filter p):Nat):Int)<=_;exact Int.le_trans (Int.ofNat_le.2 this) F
def lG (l:O gN):n0 (l.map uK)=n0 l/\n1 (l.map uK)=n1 l:=by unfold n0 n1;rw[List.countP_map,List.countP_map];exact⟨rfl,rfl⟩
def io {b:pk}(h:VR b){H F:Int}(K:0<=H)(V:H<=1073741824)(Y:0<=F)(Z:F<=4095):VR (Jo ⟨b.r6,false,(cond (F==0) [] b.gN).map uK,H+F⟩):=by
 have J:(cond (F==0) [] b.gN).Sublist b.gN:=by
  cases F==0
  ·exact List.Sublist.refl _
  exact List.nil_sublist _
 have hm:=Uk h.peer;refine⟨h.peer,?_,?_,?_,UU λP=>?_,?_,λx Q=>?_,?_,?_⟩
 ·show ((cond (F==0) [] b.gN).map uK).length<=256;rw[X10];exact Xa3 J.length_le h.len
 ·rcases GI ⟨b.r6,false,(cond (F==0) [] b.gN).map uK,H+F⟩ with e|e
  ·rw[e];show 0<=H+F;omega
  rw[e];omega
 ·rcases GI ⟨b.r6,false,(cond (F==0) [] b.gN).map uK,H+F⟩ with e|e
  ·rw[e];show H+F<=_;omega
  rw[e];omega
 ·show H+F≠0;cases hg:F==0
  ·have:F≠0:=by simpa using hg
   omega
  rw[hg] at P;cases P
 ·show List.Pairwise _ ((cond (F==0) [] b.gN).map uK);rw[List.pairwise_map];exact Xdb J h.si
 ·obtain⟨y,U,rfl⟩:=Xa0.1 Q;have:=h.ok y (J.subset U);refine⟨this.1,?_⟩;have M:=this.2;unfold vL at M⊢;simp only[X27] at M⊢;exact⟨M.1,M.2.1,M.2.2.1,M.2.2.2.1,rfl⟩
 ·have K:=h.f4;unfold Ru at K⊢;simp only[Xe] at K⊢;have:=ci J;show ((n0 ((cond (F==0) [] b.gN).map uK):Nat):Int)<=_;rw[(lG _).1];exact Int.le_trans (Int.ofNat_le.2 this) K
 have K:=h.f6;unfold Rj at K⊢;simp only[Xe] at K⊢;have:=dk J;show ((n1 ((cond (F==0) [] b.gN).map uK):Nat):Int)<=_;rw[(lG _).2];exact Int.le_trans (Int.ofNat_le.2 this) K
def jL (f:mu)(p:r6)(r:gD):0<=vm f p r/\vm f p r<=14:=by
 unfold vm;have h:=(ZK f p r).2;cases F:Ph f p r with
 | nil=>exact⟨Int.le_refl _,by decide⟩
 | cons x t=>have:=h x (by rw[F];simp);show 0<=x/\x<=14;omega
def eR {f:mu}{b:pk}{u:rZ}(h:VR b)(P:Dq u=true)(Q:b.Up=true)(Z:Ru (D4 f b u)=true)(h6:Rj (D4 f b u)=true)(hl:((D4 f b u).gN.length:Int)<=256):VR (Jo (D4 f b u)):=by
 obtain⟨w1,w2,w3⟩:=Vm (u:=u) h.si;have Y:=VH (uS f b u) w1 u.gT;unfold Dq at P;simp only[X27,Xe,Wo] at P;obtain⟨_,_,hg,_,K,_⟩:=P;have F :∀x∈(D4 f b u).gN,x∈b.gN \/∃p∈u.gT,x=uS f b u p:=λx M=>by
  rcases Y.2.2 x M with H|H
  ·exact .inl (w3 x H)
  exact .inr H
 refine⟨h.peer,by show (D4 f b u).gN.length<=256;omega,?_,?_,UU λU=>?_,Y.1,λx M=>?_,Z,h6⟩
 ·rcases GI (D4 f b u) with e|e<;>rw[e]
  ·exact h.u0
  exact Int.le_refl _
 ·rcases GI (D4 f b u) with e|e<;>rw[e]
  ·exact h.u1
  decide
 ·have h1:u9 b.gN=true:=by
   unfold u9 at U⊢;rw[List.any_eq_true] at U⊢;obtain⟨x,M,J⟩:=U;rcases F x M with H|⟨p,_,e⟩
   ·exact⟨x,H,J⟩
   rw[e] at J;cases J
  have:=h.st;rw[h1] at this;show b.ru≠0;simpa using this
 rcases F x M with H|⟨p,hp,e⟩
 ·exact h.ok x H
 rw[e];refine⟨by rw[kb];exact hg p (List.mem_append_right _ hp),?_⟩;have V:=K p hp;unfold Tz at V;simp only[X27] at V;have hc:=jL f b.r6 ⟨p,b.r6.r4,u.gH⟩;unfold vL uS;simp only[X27,Xb7,Xca,Xb2];refine⟨V.2.2.2,by show (b.r6.r4 !=b.r6.r4)=false;simp,by omega,by omega,?_⟩;show (!b.Up&&!false)=false;rw[Q];rfl
structure WR (b:pk):Prop where
 v:VR b
 n:101<=b.r6.r4/\b.r6.r4<=105
 s:b.r6.Set.size<=4
def WR.raise {b:pk}(h:WR b)(F:(GZ b).2=0):WR (GZ b).1:=by
 unfold GZ at F⊢;rw[h.v.to,Xy rfl] at F⊢;cases hu:b.Up
 ·rw[Xj (by simp)];exact⟨dm h.v,h.n,h.s⟩
 rw[hu,Xy rfl] at F;exact absurd F (by decide)
def WR.down {b:pk}(h:WR b){H F:Int}(K:(IQ b H F).2=0):WR (IQ b H F).1:=by
 unfold IQ at K⊢;cases J:(EC b&&(decide (0<=H)&&(decide (H<=1073741824)&&(decide (0<=F)&&decide (F<=4095)))))
 ·rw[J,Xj (by simp)] at K;exact absurd K (by decide)
 rw[J,Xy rfl] at K;rw[Xy rfl];cases hu:b.Up
 ·rw[hu,Xj (by simp)] at K;exact absurd K (by decide)
 rw[Xy rfl];simp only[X27,Xe] at J;exact⟨io h.v J.2.1 J.2.2.1 J.2.2.2.1 J.2.2.2.2,h.n,h.s⟩
def WR.vC {b:pk}(h:WR b)(w:Int):WR (OG b w):=⟨aG h.v _,h.n,h.s⟩
def WR.apply {f:mu}{b:pk}{u:rZ}(h:WR b)(F:(EO f b u).2=0):WR (EO f b u).1:=by
 unfold EO at F⊢;cases J:(TS f&&(EC b&&Dq u))
 ·rw[J,Xj (by simp)] at F;exact absurd F (by decide)
 rw[J,Xy rfl] at F;rw[Xy rfl];cases hu:b.Up
 ·rw[hu,Xj (by simp)] at F;exact absurd F (by decide)
 rw[hu,Xy rfl] at F;rw[Xy rfl];cases H:(Ru (D4 f b u)&&(Rj (D4 f b u)&&decide (((D4 f b u).gN.length:Int)<=256)))
 ·rw[H,Xj (by simp)] at F;exact absurd F (by decide)
 rw[Xy rfl];simp only[X27,Xe] at J H;exact⟨eR h.v J.2.2 hu H.1 H.2.1 H.2.2,h.n,h.s⟩
def WR.sz {b:pk}(h:WR b):b.r6.Set.size<=Xbl:=gj h.s
def ok_eq {ρ:Type}{m:C ρ}{r:ρ}(h:Ok m λx=>x=r):m=some r:=by obtain⟨x,F,H⟩:=h;rw[F,H]
def zH:gN:=⟨⟨⟨⟨false,0,0⟩,0⟩,0,⟨0,[],⟨false,0,0⟩,0,0,0,[],[],[]⟩⟩,0,false⟩
def uN:gD:=⟨⟨⟨false,0,0⟩,0⟩,0,⟨0,[],⟨false,0,0⟩,0,0,0,[],[],[]⟩⟩
def G5:O gN->fv->gN×I
 | [],_=>(zH,false)
 | x::t,p=>if fv.rO x.gD.fv p=true then (x,true) else G5 t p
def Z3 (b:pk)(p:fv):Ia b p=some (G5 b.gN p):=by
 unfold Ia;rw[AB];have go :∀(l:O gN) (i:Nat),AI (σ:=Unit) (λ_=>(λ_:Unit=>some (zH,false)) ()) (λF (H:gN) i4 _=>if (fv.rO H.gD.fv p) then some (H,true) else F ()) l i ()=some (G5 l p):=by
  intro l;induction l with
  | nil=>intro i;rfl
  | cons x t J=>
   intro i;rw[Be];unfold G5;cases K:fv.rO x.gD.fv p
   ·rw[Xj (by simp),Xj (by simp)];exact J (i+1)
   rw[Xy rfl,Xy rfl]
 exact go b.gN 0
def bC {l1 l2:O gN}{x:gN}{p:fv}(h:At kH Ab p l1 l2)(e:kH x=p):G5 (l1++x::l2) p=(x,true):=by
 have F:=h.1;clear h;induction l1 with
 | nil=>show G5 (x::l2) p=_;unfold G5;rw[Xy (show fv.rO x.gD.fv p=true from (fv.rb _ _).2 e)]
 | cons y t H=>show G5 (y::(t++x::l2)) p=_;unfold G5;rw[Xj (λJ:fv.rO y.gD.fv p=true=>Ap.ne (F y (by simp)) ((fv.rb _ _).1 J))];exact H λz K=>F z (X19 _ K)
def ZQ {l:O gN}{p:fv}(h :∀y∈l,kH y≠p):G5 l p=(zH,false):=by
 induction l with
 | nil=>rfl
 | cons y t F=>unfold G5;rw[Xj (λH:fv.rO y.gD.fv p=true=>h y (by simp) ((fv.rb _ _).1 H))];exact F λz J=>h z (X19 _ J)
def eT (g:gN×I):gD×I:=if (g.2&&(g.1.sc==0))=true then (g.1.gD,true) else (uN,false)
def aP (b:pk)(p:fv):Db b p=some (eT (G5 b.gN p)):=by
 unfold Db eT;rw[Z3,AA];cases h:G5 b.gN p with
 | mk x f=>
  dsimp only;rw[AB];cases f
  ·rfl
  cases F:x.sc==0<;>rfl
end Go.AX.Q29
end
section
namespace Go.AX.Q29
open Go Go.AX Go.AX.sN
section
variable {α σ:Type}
def mg (f:α->σ->C (I×σ))(J:O α)(c:σ):C (Int×σ):=
 AC (τ:=σ) (λK=>AI (σ:=σ) (λv2=>K v2) (λF (M:α) P v2=>Xd (f M v2) λ(v6,H)=>if v6 then some ((P:Int),H) else F H) J 0 c) λQ=>some ((-1),Q)
def oi (f:α->σ->C (I×σ))(z:α)(M:O α)(c:σ):C (O α×σ):=
 Xd (mg f M c) λ(v1,v2)=>
 if (v1==(-1)) then
  some (M,v2)
 else
  AC (τ:=Int×(O α)×σ) (λk3=>Ai (σ:=Int×Int×(O α)×σ) (λH (v5,v6,J,Z)=>if (decide (v6<(J.length:Int))) then Xd (iX J v6) λv9=>Xd (f v9 Z) λ(v10,v11)=>AC (τ:=Int×(O α)) (λK=>if (!v10) then Xd (iX J v5) λa1=>Xd (sx J v5 v9) λP=>K ((AQ (v5+1)),P) else K (v5,J) ) λ(Q,U)=>H (Q,(AQ (v6+1)),U,v11) else k3 (v5,J,Z) ) rp (v1,(AQ (v1+1)),M,v2)
  ) λ(v17,F,V)=>
  Xd (sR (0<=v17/\v17<=(F.length:Int)/\(F.length:Int)<=(F.length:Int))) λ_=>
  Xd (part (Xaq (Xi v17) F++Xb6 (Xi (F.length:Int)-Xi v17) z++Xat ((Xi v17)+(Xi (F.length:Int)-Xi v17)) F) 0 v17) λY=>
  some (Y,V)
def Ih {l:O α}{k:Nat}{y:α}(F:l[k]?=some y):l.take (k+1)=l.take k++[y]:=by rw[Xb8,F];rfl
def ja {f:α->σ->C (I×σ)}{q:α->I}{z:α}{c:σ}(hf :∀x,f x c=some (!q x,c)){l:O α}(hl:l.length<=1000000):oi f z l c=some (l.filter q,c):=by
 refine ok_eq ?_;unfold oi;have hi:Ok (mg f l c) λr=>r.2=c/\((r.1=-1/\∀x∈l,q x=true) \/∃k:Nat,r.1=(k:Int)/\k<l.length/\(∀x∈l.take k,q x=true)/\∀x,l[k]?=some x->q x=false):=by
  unfold mg;refine .join (λv=>v=c/\∀x∈l,q x=true) (λk hk=>?_) λv F=>.ret ⟨F.1,.inl ⟨rfl,F.2⟩⟩;refine .tn (λi v=>v=c/\∀x∈l.take i,q x=true) ⟨rfl,by simp⟩ (λv F=>hk v ⟨F.1,by simpa using F.2⟩) λnext x i v hx F hn=>?_;obtain⟨rfl,F⟩:=F;rw[hf,AA];dsimp only;refine .ite (λh=>.ret ⟨rfl,.inr ⟨i,rfl,(X16.1 hx).1,F,λy H=>?_⟩⟩) λh=>hn _ ⟨rfl,λy H=>?_⟩
  ·rw[hx] at H;cases H;simpa using h
  rw[Ih hx,X23] at H;rcases H with H|H
  ·exact F y H
  rw[X14] at H;rw[H];simpa using h
 refine .bind hi ?_;rintro⟨v1,v2⟩ ⟨h0,h⟩;dsimp only at h0 h⊢;subst h0;rcases h with ⟨rfl,h⟩|⟨k,rfl,hk,h1,h2⟩
 ·rw[Xy (by simp)];exact .ret (by rw[Xc8.2 h])
 rw[Xj (by simp)];have gk:l[k]?=some l[k]:=X15 hk;have qk:q l[k]=false:=h2 _ gk;refine .join (λp:Int×O α×σ=>0<=p.1/\p.1<=l.length/\p.2.1.length=l.length/\p.2.1.take p.1.toNat=l.filter q/\p.2.2=v2) (λk3 a1=>?_) ?_
 ·refine .sP (λp:Int×Int×O α×σ=>0<=p.1/\p.1<=p.2.1/\p.2.1<=l.length/\p.2.2.1.length=l.length/\p.2.2.2=v2/\(∀j:Nat,p.2.1<=j->p.2.2.1[j]?=l[j]?)/\p.2.2.1.take p.1.toNat=(l.take p.2.1.toNat).filter q)
   (λp=>(l.length-p.2.1).toNat) ⟨Xcc k,by dsimp only;rw[AN (by omega)];omega,by dsimp only;rw[AN (by omega)];omega,rfl,rfl,λ_ _=>rfl,?_⟩ (BK (by dsimp only;rw[AN (by omega)];omega)) ?_
  ·dsimp only;rw[AN (by omega),show ((k:Int)+1).toNat=k+1 by omega,Ih gk,Xa7,Xaa,Xc8.2 h1,Xba (by simp[qk])];simp
  rintro next ⟨i,j,a,s'⟩ ⟨q1,q2,q3,q4,q5,q6,q7⟩ a6
  dsimp only at q1 q2 q3 q4 q5 q6 q7⊢;subst q5;refine .ite (λJ=>?_) λJ=>?_;rotate_left
  ·simp only[Xe] at J;refine a1 (i,a,s') ⟨q1,by dsimp only;omega,q4,?_,rfl⟩;dsimp only;rw[q7,show j.toNat=l.length by omega,Xcj]
  simp only[Xe] at J;obtain⟨m,rfl⟩ :∃m:Nat,j=(m:Int):=⟨j.toNat,by omega⟩;have gm:l[m]?=some l[m]:=X15 (by omega);have ga:iX a (m:Int)=some l[m]:=FI (by rw[q6 m (by omega)];exact gm);rw[ga,AA,hf,AA];dsimp only;refine .join (λp:Int×O α=>0<=p.1/\p.1<=(m:Int)+1/\p.2.length=l.length/\(∀j:Nat,(m:Int)+1<=j->p.2[j]?=l[j]?)/\p.2.take p.1.toNat=(l.take (m+1)).filter q) (λaa K=>?_) ?_
  ·refine .ite (λhd=>?_) λhd=>K (i,a) ⟨q1,by dsimp only;omega,q4,λj J=>q6 j (by omega),?_⟩
   ·have a7:i.toNat<a.length:=by omega
    refine .bind (Ok.iX (by omega)) λ_ _=>.bind (Ok.sx (by omega)) λa' M=>K _ ?_;rw[AN (by omega)];refine⟨by dsimp only;omega,by dsimp only;omega,M.2.trans q4,λj J=>?_,?_⟩
    ·dsimp only;rw[M.1,Xcf (by omega)];exact q6 j (by omega)
    dsimp only;have:q l[m]=true:=by simpa using hd
    rw[show (i+1).toNat=i.toNat+1 by omega,M.1,P0 a7,Ih gm,Xaa,q7,Xa7,List.filter_cons_of_pos this];rfl
   dsimp only;have:q l[m]=false:=by simpa using hd
   rw[Ih gm,Xaa,q7,Xa7,Xba (by simp[this])];simp
  rintro⟨i',a'⟩ ⟨V,Y,Z,P,Q⟩;dsimp only at V Y Z P Q⊢;refine a6 _ ⟨V,?_,?_,Z,rfl,?_,?_⟩ ?_
  ·dsimp only;rw[AN (by omega)];exact Y
  ·dsimp only;rw[AN (by omega)];omega
  ·intro j J;dsimp only at J⊢;rw[AN (by omega)] at J;exact P j J
  ·dsimp only;rw[AN (by omega),show ((m:Int)+1).toNat=m+1 by omega];exact Q
  dsimp only;rw[AN (by omega)];omega
 rintro⟨i,a,s'⟩ ⟨V,Y,Z,P,Q⟩;dsimp only at V Y Z P Q⊢;subst Q;obtain⟨n,rfl⟩ :∃n:Nat,i=(n:Int):=⟨i.toNat,by omega⟩;rw[TF ⟨by omega,by omega,by omega⟩];rw[Xa7] at P⊢;have U:n<=(Xaq n a++Xb6 (Xi (a.length:Int)-n) z++Xat (n+(Xi (a.length:Int)-n)) a).length:=by simp;omega
 have hp:=Hu (l:=Xaq n a++Xb6 (Xi (a.length:Int)-n) z++Xat (n+(Xi (a.length:Int)-n)) a) (a:=0) (b:=n) (by omega) U;have a8:part (Xaq n a++Xb6 (Xi (a.length:Int)-n) z++Xat (n+(Xi (a.length:Int)-n)) a) 0 (n:Int)=some (Xaq n a):=by refine hp.trans ?_;rw[List.drop_zero,Nat.sub_zero,Xau,List.take_append_of_le_length (by simp;omega),List.take_take,Nat.min_self]
 rw[a8,AA,P];exact .ret rfl
end
end Go.AX.Q29
end
section
namespace Go.AX.Q29
open Go Go.AX Go.AX.sN
def UA (l:O fv):Prop:=l.Pairwise λa b=>Ab a b<0
def ZG (b:pk):O fv:=b.gN.map kH
def VR.keys {b:pk}(h:VR b):UA (ZG b):=by unfold UA ZG;rw[List.pairwise_map];exact h.si
structure MG (la lb:List fv)(i j:Nat)(out:List fv):Prop where
 si:UA out
 mem :∀x,x∈out↔x∈la.take i\/x∈lb.take j
 yz :∀x∈out,∀y∈la.drop i,Ab x y<0
 yf :∀x∈out,∀y∈lb.drop j,Ab x y<0
def drop_cons {l:O fv}{i:Nat}{p:fv}(h:l[i]?=some p):l.drop i=p::l.drop (i+1):=by obtain⟨F,H⟩:=X16.1 h;rw[Xbb F,H]
def O7 {l:O fv}(H:UA l){i:Nat}{p:fv}(h:l[i]?=some p) :∀y∈l.drop (i+1),Ab p y<0:=by have F:UA (l.drop i):=Xdb (List.drop_sublist i l) H;rw[drop_cons h] at F;exact (Wu.1 F).1
def MG.push {la H:O fv}{i j K M:Nat}{out:O fv}{p:fv}(h:MG la H i j out)(hp:p∈la.drop i\/p∈H.drop j)(P :∀x,(x∈la.take K\/x∈H.take M)↔(x∈la.take i\/x∈H.take j)\/x=p) (Q :∀y∈la.drop K,y∈la.drop i) (U :∀y∈H.drop M,y∈H.drop j) (V :∀y∈la.drop K,Ab p y<0) (Y :∀y∈H.drop M,Ab p y<0):MG la H K M (out++[p]) where
 si:=by
  refine Xb0.2 ⟨h.si,by simp,λx F y J=>?_⟩;rw[X14.1 J];rcases hp with hp|hp
  ·exact h.yz x F p hp
  exact h.yf x F p hp
 mem x:=by rw[X23,X14,h.mem,P]
 yz x F y J:=by
  rcases X23.1 F with F|F
  ·exact h.yz x F y (Q y J)
  rw[X14.1 F];exact V y J
 yf x F y J:=by
  rcases X23.1 F with F|F
  ·exact h.yf x F y (U y J)
  rw[X14.1 F];exact Y y J
def HA {l:O fv}{i:Nat}{p:fv}(h:l[i]?=some p)(x:fv):x∈l.take (i+1)↔x∈l.take i\/x=p:=by rw[Ih h,X23,X14]
def px {A B C:Prop}:(A\/C)\/B↔(A\/B)\/C:=or_right_comm
def qd {A B C:Prop}:A\/(B\/C)↔(A\/B)\/C:=or_assoc.symm
def qz {A B C:Prop}:(A\/C)\/(B\/C)↔(A\/B)\/C:=by
 constructor
 ·rintro ((h|h)|(h|h))
  ·exact .inl (.inl h)
  ·exact .inr h
  ·exact .inl (.inr h)
  exact .inr h
 rintro ((h|h)|h)
 ·exact .inl (.inl h)
 ·exact .inr (.inl h)
 exact .inl (.inr h)
def P7 {l:O fv}{i:Nat}{p:fv}(h:l[i]?=some p):p∈l.drop i:=by rw[drop_cons h];exact Xc1
def Ko {l:O fv}{i:Nat}{p:fv}(h:l[i]?=some p)(y:fv)(F:y∈l.drop (i+1)):y∈l.drop i:=by rw[drop_cons h];exact X19 _ F
def MG.a {la H:O fv}{i j:Nat}{out:O fv}{p:fv}(J:UA la)(h:MG la H i j out)(F:la[i]?=some p)(K :∀y∈H.drop j,Ab p y<0):MG la H (i+1) j (out++[p]):=
 h.push (.inl (P7 F)) (λx=>by rw[HA F];exact px) (Ko F) (λy M=>M) (O7 J F) K
def MG.b {la F:O fv}{i j:Nat}{out:O fv}{p:fv}(J:UA F)(h:MG la F i j out)(H:F[j]?=some p)(K :∀y∈la.drop i,Ab p y<0):MG la F i (j+1) (out++[p]):=
 h.push (.inr (P7 H)) (λx=>by rw[HA H];exact qd) (λy M=>M) (Ko H) K (O7 J H)
def MG.c {la F:O fv}{i j:Nat}{out:O fv}{p:fv}(K:UA la)(M:UA F)(h:MG la F i j out)(H:la[i]?=some p)(J:F[j]?=some p):MG la F (i+1) (j+1) (out++[p]):=
 h.push (.inl (P7 H)) (λx=>by rw[HA H,HA J];exact qz) (Ko H) (Ko J) (O7 K H) (O7 M J)
end Go.AX.Q29
end
