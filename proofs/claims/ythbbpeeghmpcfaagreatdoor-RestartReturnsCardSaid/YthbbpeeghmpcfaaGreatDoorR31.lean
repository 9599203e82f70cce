/-
  Texts of one proof, packed.
-/
import Derived.Test.YthbbpeeghmpcfaaGreatDoorR18
import Derived.Test.YthbbpeeghmpcfaaGreatDoorR29
import Derived.Test.YthbbpeeghmpcfaaGreatDoorR30
import Derived.KernelRfl
set_option linter.all false
set_option maxRecDepth 100000
set_option maxHeartbeats 4000000
open List renaming length_map→X1,length_append→X2,length_cons→X3,length_nil→X10,mem_singleton→X11,getElem?_eq_getElem→X12,getElem?_eq_some_iff→X13,length_drop→X14,length_take→X15,length_replicate→X17,length_set→X18
open Bool renaming and_eq_true→X24
open Nat renaming le_of_ble_eq_true→X26
open Option renaming bind→Xx
open Int renaming toNat→Xa0
open List renaming map→Xa5,replicate→Xaa,range→Xbu
open Go renaming maxLen→Xc7,reachBytes→Xb5
open List.Pairwise renaming nil→Xdm
section
namespace Go.AX.Q33
open Go Go.AX Go.AX.Cw
structure WS (s:ur):Prop where
 f:MF s.oX
 n:2<=s.gD.length/\s.gD.length<=5
 r:s.oT.length=s.gD.length
 p :∀(i:Nat) (p:tF),s.gD[i]?=some p->MP (101+i) p
 b :∀(i:Nat) (b:rv),s.oT[i]?=some b->WV s.oX b/\b.th.tb=101+i
def ue {p:th}{n:Int}{u:I}(K:p.tb=n)(J:p.Set.size<=4)(F:Ly p=true)(M:101<=n/\n<=105):WR ⟨p,u,[],0⟩:=by have H:=YB F;exact⟨⟨F,by simp,Int.le_refl _,by show (0:Int)<=1073745919;decide,rfl,Xdm,by simp,Xa4 H.1,Xa4 H.2⟩,by dsimp only;omega,J⟩
def sQ {d:tx}(F:Dk d):Ok (Ea d) λr=>WS r.1/\Dk r.2:=by
 unfold Ea;refine .bind (Ui F) ?_;rintro⟨f,d⟩ ⟨hf,F⟩;dsimp only at hf F⊢;let S:O tF->O rv->Prop:=λM bs=>bs.length=M.length/\(∀(i:Nat) (p:tF),M[i]?=some p->MP (101+i) p)/\(∀(i:Nat) (b:rv),bs[i]?=some b->WV f b/\b.th.tb=101+i);refine .join (λx:tx×O tF×O rv=>Dk x.1/\(2<=x.2.1.length/\x.2.1.length<=5)/\S x.2.1 x.2.2) (λk hk=>?_) ?_
 ·refine .Dr (λs:Int×tx×O tF×O rv=>0<=s.1/\s.1<=5/\s.2.2.1.length=s.1.toNat/\Dk s.2.1/\S s.2.2.1 s.2.2.2) (λs=>(5-s.1).toNat)
   ⟨by simp,by simp,rfl,F,rfl,by simp,by simp⟩ (BE (by simp only;omega)) ?_
  rintro next ⟨i,d,M,bs⟩ ⟨i1,i2,P,F,H,J,K⟩ Q
  dsimp only at i1 i2 P F H J K⊢;refine .bind (AN F (by omega)) ?_;rintro⟨a,d⟩ ⟨a1,a2,F⟩;dsimp only at a1 a2 F⊢;rw[AK (x:=2+a) (by omega),AK (x:=101+i) (by omega)];refine .ite (λU=>?_) λU=>hk _ ⟨F,by dsimp only;simp only[Xy] at U;omega,H,J,K⟩;simp only[Xy] at U;refine .bind (LE F) ?_;rintro⟨p,d⟩ ⟨hp,F⟩;dsimp only at hp F⊢;refine .bind (.gO (by decide) (by simp;omega)) λa6 V=>.bind (dP F (by omega)) ?_;rintro⟨pe,d⟩ ⟨⟨Y,p2,p3⟩,F⟩;dsimp only at Y p2 p3 F⊢;refine .bind (AN F (by omega)) ?_;rintro⟨u,d⟩ ⟨_,_,F⟩;dsimp only at F⊢;refine .bind (.gO (by decide) (by simp;omega)) λa7 Z=>?_;rw[AK (by omega)];subst V Z;refine Q _ ⟨by dsimp only;omega,by dsimp only;omega,by simp;omega,F,by simp[H],?_,?_⟩ (by dsimp only;omega)
  ·intro j q hq;rcases ZR hq with h|⟨rfl,rfl⟩
   ·exact J j q h
   rw[P,Int.toNat_of_nonneg i1];exact hp
  intro j q hq;rcases ZR hq with h|⟨rfl,rfl⟩
  ·exact K j q h
  have hj:(bs.length:Int)=i:=by rw[H,P];omega
  exact⟨⟨ue Y p2 p3 (by omega),by simp⟩,by dsimp only;rw[Y];omega⟩
 rintro⟨d,M,bs⟩ ⟨F,hn,H,J,K⟩;exact .ret ⟨⟨hf,hn,H,J,K⟩,F⟩
def WS.vr {s:ur}(h:WS s) :∀b∈s.oT,VR b:=λb F=>by obtain⟨i,H⟩:=Xd1.1 F;exact (h.b i b H).1.w.v
def WS.mp {s:ur}(h:WS s) :∀q∈s.gD,∃n,MP n q:=λq F=>by obtain⟨i,H⟩:=Xd1.1 F;exact⟨_,h.p i q H⟩
def WS.vs {s:ur}(h:WS s):VS s:=⟨h.vr,λq F=>by
 obtain⟨n,H⟩:=h.mp q F
 exact H.sm⟩
def WS.sv {s:ur}(h:WS s):M0 s:=by refine⟨h.r,by have:=h.n;have:=h.r;omega,λb F=>by have:=(h.vr b F).len;omega,h.vs.ok,λq H=>?_⟩;obtain⟨n,J⟩:=h.mp q H;exact J.val
def WS.sz {s:ur}(h:WS s):SzS s:=by
 have f:=h.f;have M:=f.free.1;have P:=f.bog.1;have f3:=f.gM.1;have f4:=f.Te.1;refine⟨⟨by rw[f.Tr];simp,by omega,by rw[f.priv];simp,by omega,by omega,by omega,by rw[f.sets];simp,?_⟩,λq H=>?_,λb J=>(h.vr b J).smr.smb,by have:=h.n;have:=h.r;omega⟩
 ·rw[f.sets];intro x F;simp only[Xa7,Xc3,Xez] at F;rcases F with rfl|rfl<;>exact⟨by simp,by simp⟩
 obtain⟨n,K⟩:=h.mp q H;have:=K.sm;exact⟨by have:=this.d;omega,by have:=this.f;omega⟩
structure RV (r:zO):Prop where
 s:Lv r.zl
 u:CN r.zl=true->UV r.zl.gH r.zl.gF
 p:NM r.tF=0->∃n,MP n r.tF
 z:SzP r.tF
 c:BA r.tF=some (NM r.tF)
def WS.HP {s:ur}(h:WS s){i:Nat}{b c:rv}(H:s.oT[i]?=some b)(J:WV s.oX c)(K:c.th=b.th):WS ⟨s.oX,s.gD,s.oT.set i c⟩:=by
 refine⟨h.f,h.n,by simp[h.r],h.p,λj x F=>?_⟩;dsimp only at F⊢;have M:=(X13.1 H).1;by_cases e:i=j
 ·subst e;rw[Xe0 M] at F;cases F;exact⟨J,by rw[K];exact (h.b i b H).2⟩
 rw[Xds e] at F;exact h.b j x F
def WS.setP {s:ur}(h:WS s){i:Nat}{q:tF}(H:MP (101+i) q):WS ⟨s.oX,s.gD.set i q,s.oT⟩:=by
 refine⟨h.f,by simpa using h.n,by simp[h.r],λj x F=>?_,h.b⟩;dsimp only at F⊢;by_cases e:i=j
 ·subst e;have J:i<s.gD.length:=by have:=(X13.1 F).1;simpa using this
  rw[Xe0 J] at F;cases F;exact H
 rw[Xds e] at F;exact h.p j x F
def sG {s:ur}(h:WS s):E9 s=some true:=by
 have hn:=h.n;have hr:=h.r;have F:=h.f.fil;have:Ok (E9 s) λb=>b=true:=by
  unfold E9;refine .join (λb=>b=false) (λk V=>?_) λc H=>?_
  ·rw[Lj h.f.fok.s,F,AA,Xa1 (by decide),Xa1 (by simp;omega)];refine V _ ?_;rw[hr];show ((s.gD.length:Int) !=s.gD.length)=false;exact Xca _
  rw[H,Xa1 (by decide)];refine .join (λ_=>True) (λk V=>.Gd (λ_ _=>True) trivial (λ_ _=>V _ trivial) λnext x i _ hx _ Y=>?_) λ_ _=>.ret rfl;have hi:=(X13.1 hx).1;have hp:=h.p i x hx;cases U:s.oT[i]? with
  | none=>rw[List.getElem?_eq_none_iff] at U;omega
  | some b=>
   obtain⟨hB,Z⟩:=h.b i b U;have hV:=hB.w.v;have J:=hp.Sy;have K:=h.f.own;refine .join (λ_=>True) (λk8 a6=>?_) λ_ _=>Y _ trivial;refine .join (λb=>b=false) (λk9 a7=>?_) λc H=>?_
   ·rw[fS hp (by omega),AA,Xa1 (by decide)];have e:(x.tb==s.oX.DH)=false:=by rw[J,K];exact Xf4.2 (by omega)
    have e2:(b.th.tb !=x.tb)=false:=by rw[J,Z];exact Xca _
    rw[e,Xa1 (by decide)];have fin:Ok ((some b).bind λa8=>(C4 a8).bind λaa=>if (cond false true (!aa))=true then k9 true else (some b).bind λab=>k9 (cond false true (ab.th.tb !=x.tb))) λb=>b=true:=by rw[AA,KL hV.smr,hV.to,AA,Xa1 (by decide),AA,e2];exact a7 _ rfl
    rw[PS U];refine .ite (λh0=>?_) λ_=>fin;have ag:0<i:=by simpa using h0
    have e:AG ((i:Int)-1)=((i-1:Nat):Int):=by rw[AK (by omega)];omega
    rw[e];cases M:s.gD[i-1]? with
    | none=>rw[List.getElem?_eq_none_iff] at M;omega
    | some y=>have ah:=(h.p (i-1) y M).Sy;rw[PS M,AA,Xa1 (by simp;omega)];exact fin
   rw[H,Xa1 (by decide),PS U,AA];refine .join (λ_=>True) (λk2 ae=>.for_ (λ_=>ae _ trivial) λaf y j s2 _ M P=>?_) λ_ _=>a6 _ trivial;refine .join (λb=>b=false) (λk3 Q=>.ite (λ_=>?_) λ_=>Q _ rfl) λc H=>?_
   ·have hu:=(hB.h y M).2;have hq:y.mu.gH.Path.length<=2/\∀s∈y.mu.gH.Path,s.qv.length<=10:=by
     rcases hu with ⟨e,_⟩|⟨_,_,b,sv,_⟩
     ·cases e
     exact sv.p
    have ht:=XA hq.2;have ai:DP y.mu.gH.Path<=20:=by have:=hq.1;omega
    rw[F3 (by omega),AA];refine Q _ ?_;show decide (((JG y.mu.gH.Path).length:Int)>60)=false;rw[aG];exact Xa9 (by omega)
   rw[H,Xa1 (by decide)];exact P _
 obtain⟨r,h1,rfl⟩:=this;exact h1
def RV.recOK {s:ur}{r:zO}(h:WS s)(F:RV r):Sq s r:=
 ⟨h.f.fok,λb H=>by
  obtain⟨i,J⟩:=Xd1.1 H;have:=(h.b i b J).1.w
  exact⟨this.v.smr,this.sz⟩,F.s,F.z,F.c⟩
def uD {s:ur}{n:Int}{i:Nat}(h:Km s n=some i) :∃q,s.gD[i]?=some q/\q.tb=n:=by unfold Km at h;obtain⟨F,H,_⟩:=Xcx.1 h;exact⟨_,X12 F,by simpa using H⟩
def dV {s:ur}{r:zO}(h:WS s)(U:RV r){i:Nat}(V:Km s r.Co=some i)(H:(HU s i (s.oT.getD i Mn) r).1=0):WS (dN s (HU s i (s.oT.getD i Mn) r)):=by
 have a6:=Y2 V;have K:i<s.oT.length:=by have:=h.r;omega
 have hg:s.oT.getD i Mn=s.oT[i]:=by simp[K]
 have J:s.oT[i]?=some s.oT[i]:=X12 K;obtain⟨M,ha⟩:=h.b i _ J;rw[hg] at H⊢;generalize s.oT[i]=b at J M ha H⊢;unfold HU at H⊢;by_cases Y:r.Kind=1
 ·rw[Xa2 Y] at H⊢;have F:(Dv s.oX b r.zl).2=0:=H;have hv:CN r.zl=true:=by
   unfold Dv at F;split at F
   ·rename_i P;simp only[X24] at P;exact P.2.2
   exact absurd F (by decide)
  exact h.HP J (M.apply (U.u hv) F) (by rw[Qg F];rfl)
 rw[Xa1 Y] at H⊢;by_cases Z:r.Kind=2
 ·rw[Xa2 Z] at H⊢;have F:(Em b).2=0:=H;exact h.HP J (M.raise F) (by rw[WT F])
 rw[Xa1 Z] at H⊢;by_cases k3:r.Kind=3
 ·rw[Xa2 k3] at H⊢;have F:(G8 b r.KK r.zT).2=0:=H;exact h.HP J (M.down F) (by rw[Z0 F];rfl)
 rw[Xa1 k3] at H⊢;by_cases k4:r.Kind=4
 ·rw[Xa2 k4] at H⊢;have P:NM r.tF=0/\r.tF.tb=r.Co:=by
   dsimp only at H;by_cases q:NM r.tF=0/\r.tF.tb≠r.Co
   ·rw[Xa2 q] at H;cases H
   rw[Xa1 q] at H;exact⟨H,Classical.byContradiction λq2=>q ⟨H,q2⟩⟩
  obtain⟨n,hm⟩:=U.p P.1;obtain⟨q,hq,Q⟩:=uD V;have:=(h.p i q hq).Sy;have hn:n=101+(i:Int):=by rw[<- hm.Sy,P.2,<- Q,this]
  exact h.setP (hn▸hm)
 rw[Xa1 k4] at H⊢;by_cases k5:r.Kind=5
 ·rw[Xa2 k5];exact h.HP J (M.Pk _) rfl
 rw[Xa1 k5] at H;cases H
def WS.Sy {s:ur}(h:WS s):s.gD.map (·.tb)=(Xbu s.gD.length).map λ(i:Nat)=>(101+i:Int):=by refine List.ext_getElem (by simp) λi F H=>?_;simp only[X1] at F;have:=(h.p i _ (X12 F)).Sy;simpa using this
def oq {s:ur}(h:WS s)(n:Int) :∀r∈IL s n,Mo r.gH:=by
 intro r K;unfold IL at K;obtain⟨p,_,J⟩:=List.mem_filterMap.1 K;split at J
 ·rename_i M;cases J;have F:=gV M;generalize (O7 s n p).1=r at F⊢;unfold I3 at F;split at F
  ·cases F
  rename_i i P;have H:=Y2 P;have Q:s.gD.getD i ⟨0,false,false,false,0,[],[]⟩=s.gD[i]:=by simp[H]
  rw[Q] at F;split at F
  ·obtain⟨b,U,F⟩:=Xc9.1 F;unfold LH at F;split at F
   ·rename_i V;split at F
    ·rw[X11.1 F];exact ((h.vs.exp _ (Xad H) b U p V).2.1.mono (by omega)).sms
    cases F
   cases F
  cases F
 cases J
def vL {s:ur}{r:zO}(h:WS s)(H:RV r) :∀i,Km s r.Co=some i->(HU s i (s.oT.getD i Mn) r).1=0->ns s (dN s (HU s i (s.oT.getD i Mn) r)):=by
 intro i J K;have F:=dV h H J K;refine⟨F.sv,F.vs.pre,?_,oq F⟩;rw[F.Sy,h.Sy];congr 2;show (HU s i (s.oT.getD i Mn) r).2.1.length=_;unfold HU;split
 ·rfl
 split
 ·rfl
 split
 ·rfl
 split
 ·simp
 split<;>rfl
def Yl {s:ur}{r:zO}(h:WS s)(F:RV r):EG (EU s) r=some (Nz s r):=sV h.sv h.sz h.vs.pre (F.recOK h) (vL h F)
def Z2 {s:ur}(h:WS s):EH s=some (EU s,0):=qV h.sv h.sz (sG h)
def uV {s:ur}{r:zO}(h:WS s)(K:RV r)(F:(Nz s r).2.2=0) :∃J,(Nz s r).1=EU J/\WS J:=by
 unfold Nz at F⊢;split at F
 ·cases F
 rename_i i M;split at F
 ·rename_i H;rw[Xa2 H];exact⟨_,rfl,dV h K M H⟩
 rename_i H;exact absurd F H
def Mv:zl:=⟨[],(⟨0,[],(⟨false,(0:j),(0:j)⟩:Addr),0,0,0,[],[],[]⟩:gH),[]⟩
def R8:tF:=⟨0,false,false,false,0,[],[]⟩
def rX:CN Mv=false:=by
 have:RK Mv.gH=false:=by decide
 unfold CN;rw[this];simp[Mv]
def u7:Lv Mv:=⟨⟨by simp[Mv],by simp[Mv,DP],by simp[Mv],by simp[Mv],by simp[Mv],by simp[Mv]⟩,by simp[Mv],by simp[Mv]⟩
def ik:BA R8=some 33:=by unfold BA Dj R8;simp only[AB,AA];rfl
def iO {k m t g:Int}{u:zl}{p:tF}(J:u=Mv\/(Lv u/\UV u.gH u.gF))(H:p=R8 \/∃n,MP n p/\1<=n/\n<=1000):RV ⟨k,m,t,g,u,p⟩:=by
 refine⟨?_,?_,?_,?_,?_⟩<;>dsimp only
 ·rcases J with rfl|h
  ·exact u7
  exact h.1
 ·intro h;rcases J with rfl|F
  ·rw[rX] at h;cases h
  exact F.2
 ·intro h;rcases H with rfl|⟨n,F,_⟩
  ·unfold NM at h;rw[ik] at h;cases h
  exact⟨n,F⟩
 ·rcases H with rfl|⟨n,F,_⟩
  ·exact⟨by simp[R8],by simp[R8]⟩
  have:=F.sm;exact⟨by have:=this.d;omega,by have:=this.f;omega⟩
 unfold NM;rcases H with rfl|⟨n,F,K,M⟩
 ·rw[ik];rfl
 rw[fS F ⟨K,M⟩];rfl
def oY {d:tx}{s:ur}(F:Dk d)(Y:WS s):Ok (EA d s) λr=>RV r.1/\Dk r.2:=by
 have hn:=Y.n;let U:tF->Prop:=λp=>p=R8 \/∃n,MP n p/\1<=n/\n<=1000;unfold EA;refine .bind (AN F (by split<;>omega)) ?_;rintro⟨a,d⟩ ⟨a1,V,F⟩;dsimp only at a1 V F⊢;have a3:a < 5:=by split at V<;>omega
 rw[AK (x:=101+a) (by omega)];refine .bind (AN F (by omega)) ?_;rintro⟨b,d⟩ ⟨b1,b2,F⟩;dsimp only at b1 b2 F⊢;refine .bind (.gN (by simp;omega)) λk _=>?_;refine .join (λx:tx×zO=>Dk x.1/\RV x.2) (λk6 K=>.ite (λ_=>.bind (oH F (by omega)) λ⟨u,d⟩ ⟨⟨hu,_,P⟩,F⟩=>K _ ⟨F,iO (.inr ⟨hu,P⟩) (.inl rfl)⟩) λ_=>?_) λ⟨d,r⟩ ⟨F,Z⟩=>.ret ⟨Z,F⟩;refine .join (λx:tx×Int×Int×Int×I×I×I×Int×(O Int)×(O B4)=>Dk x.1/\U ⟨x.2.2.2.1,x.2.2.2.2.1,x.2.2.2.2.2.1,x.2.2.2.2.2.2.1,x.2.2.2.2.2.2.2.1,x.2.2.2.2.2.2.2.2.1,x.2.2.2.2.2.2.2.2.2⟩) (λk9 M=>.ite (λ_=>.bind (AN F (by omega)) ?_) λ_=>?_) ?_
 ·rintro⟨c,d⟩ ⟨_,_,F⟩;dsimp only at F⊢;refine .bind (AN F (by omega)) ?_;rintro⟨c,d⟩ ⟨_,_,F⟩;dsimp only at F⊢;exact .bind (.gN (by simp;omega)) λ_ _=>M _ ⟨F,.inl rfl⟩
 ·refine .join (λx:tx×Int×Int×I×I×I×Int×(O Int)×(O B4)=>Dk x.1/\U ⟨x.2.2.1,x.2.2.2.1,x.2.2.2.2.1,x.2.2.2.2.2.1,x.2.2.2.2.2.2.1,x.2.2.2.2.2.2.2.1,x.2.2.2.2.2.2.2.2⟩) (λa6 H=>.ite (λ_=>.bind (LE F) λ⟨p,d⟩ ⟨Q,F⟩=>H _ ⟨F,.inr ⟨_,Q,by omega⟩⟩) λ_=>?_) λ⟨d,g,q⟩ ⟨F,hq⟩=>M _ ⟨F,hq⟩;exact .join (λx:tx×Int=>Dk x.1) (λa7 J=>.ite (λ_=>.bind (AN F (by omega)) λ⟨_,d⟩ ⟨_,_,F⟩=>J _ F) λ_=>J _ F) λ⟨d,x⟩ F=>H _ ⟨F,.inl rfl⟩
 rintro⟨d,t,g,pa,p4,p6,ph,pp,pd,pf⟩ ⟨F,Q⟩;exact K _ ⟨F,iO (.inl rfl) Q⟩
inductive KS:ur->List zO->ur->Prop
 | nil (s:ur):KS s [] s
 | snoc {s t u:ur} {l:List zO} {r:zO}:KS s l t->WS t->RV r->(Nz t r).2.2=0->(Nz t r).1=EU u->WS u->KS s (l++[r]) u
def q9 {d:tx}(F:Dk d):Ok (Ed d) λr=>∃s,r.1=EU s/\WS s/\WS r.2.2.1/\KS r.2.2.1 r.2.1 s/\r.2.1.length<=30/\Dk r.2.2.2:=by
 unfold Ed;refine .bind (sQ F) ?_;rintro⟨s,d⟩ ⟨P,F⟩;dsimp only at P F⊢;rw[Z2 P,AA];refine .bind (AN F (by omega)) ?_;rintro⟨m,d⟩ ⟨m1,m2,F⟩;dsimp only at m1 m2 F⊢;rw[AK (by omega)];refine .join (λx:tx×Ct×O zO=>Dk x.1/\∃t,x.2.1=EU t/\WS t/\KS s x.2.2 t/\x.2.2.length<=30) (λk hk=>?_) λ⟨d,c,l⟩ ⟨F,t,h1,h2,h3,h4⟩=>.ret ⟨t,h1,h2,P,h3,h4,F⟩;refine .Dr (λx:Int×tx×Ct×O zO=>0<=x.1/\x.1<=30/\Dk x.2.1/\(∃t,x.2.2.1=EU t/\WS t/\KS s x.2.2.2 t)/\x.2.2.2.length+x.1.toNat<=30) (λs=>s.1.toNat) ⟨by dsimp only;omega,by dsimp only;omega,F,⟨s,rfl,P,.nil s⟩,by simp;omega⟩ (BE (by dsimp only;omega)) ?_;rintro next ⟨i,d,c,l⟩ ⟨i1,i2,F,⟨t,V,K,J⟩,hl⟩ U
 dsimp only at i1 i2 F V J hl⊢;subst V;refine .join (λx:I×tx=>Dk x.2/\(x.1=true->0<i)) (λk2 H=>.ite (λh=>?_) λ_=>H _ ⟨F,by simp⟩) ?_
 ·unfold G4;rw[AA];exact H _ ⟨F,λ_=>by simpa using h⟩
 rintro⟨b,d⟩ ⟨F,Y⟩;dsimp only at F Y⊢;refine .ite (λh=>.bind (oY F K) ?_) λ_=>hk _ ⟨F,t,rfl,K,J,by dsimp only;omega⟩;have hi:=Y h;rintro⟨r,d⟩ ⟨Q,F⟩;dsimp only at Q F⊢;rw[Yl K Q,AA];refine .join (λx:Ct×O zO=>(∃u,x.1=EU u/\WS u/\KS s x.2 u)/\x.2.length<=l.length+1) (λk2 H=>.ite (λh0=>.bind (.gO (by decide) (by simp;omega)) λw Z=>?_) λ_=>H _ ⟨⟨t,rfl,K,J⟩,by dsimp only;omega⟩) ?_
 ·have M:(Nz t r).2.2=0:=by simpa using h0
  obtain⟨u,e1,e2⟩:=uV K Q M;exact H _ ⟨⟨u,e1,e2,by rw[Z];exact .snoc J K Q M e1 e2⟩,by rw[Z];simp⟩
 rintro⟨c3,l3⟩ ⟨z1,z2⟩;dsimp only at z1 z2⊢;rw[AK (by omega)];exact U _ ⟨by dsimp only;omega,by dsimp only;omega,F,z1,by dsimp only;omega⟩ (by dsimp only;omega)
def IB (s:ur)(k:Nat)(r:rv):ur:=⟨s.oX,s.gD,s.oT.set k r⟩
def Pj (s:ur)(k:Nat)(a b:rv):IB (IB s k a) k b=IB s k b:=by unfold IB;rw[List.set_set]
def jY {s:ur}{k:Nat}{b:rv}(h:s.oT[k]?=some b):IB s k b=s:=by obtain⟨H,F⟩:=X13.1 h;unfold IB;rw[<- F,List.set_getElem_self]
def RP {b:rv}(h :∀x∈b.gT,x.zw=false)(w:Int):FI b w={ b with xS:=0 }:=by
 have e:b.gT.filter (IS w)=b.gT:=Xd0.2 λx F=>by unfold IS;rw[h x F];rfl
 have st:Kd b.gT=false:=by unfold Kd;rw[List.any_eq_false];intro x F;rw[h x F];decide
 unfold FI Iq;rw[e];show (⟨b.th,b.Up,b.gT,cond (Kd b.gT) b.xS 0⟩:rv)=_;rw[st];rfl
def sY {s:ur}{r:zO}{i:Nat}{c:rv}(F:Km s r.Co=some i)(H:HU s i (s.oT.getD i Mn) r=(0,s.gD,s.oT.set i c)) : (Nz s r).1=EU (IB s i c)/\(Nz s r).2.2=0:=by unfold Nz;rw[F];dsimp only;rw[H,Xa2 rfl];exact⟨rfl,rfl⟩
structure Mx (s:rv)(i:Nat)(r:rv):Prop where
 t:Vc s (λ_=>true) i r
 d :∀y∈r.gT,∃x∈s.gT,kH y=kH x
def Mx.step {f:oX}{s r:rv}{i:Nat}(P:Si f=true)(Q:WV f s)(H :∀x∈s.gT,x.zw=false)(h:Mx s i r){x:gT}(K:s.gT[i]?=some x) : ∃F,Dv f r ⟨[],x.mu.gH,[x.mu.fI]⟩=(F,0)/\Mx s (i+1) F:=by
 obtain⟨_,F,J,U⟩:=h.t.step P Q H K rfl;refine⟨F,J,U,λy M=>?_⟩;have e:=Qg (f:=f) (b:=r) (u:=⟨[],x.mu.gH,[x.mu.fI]⟩) (by rw[J]);rw[J] at e;dsimp only at e;rw[e] at M;rcases YQ.1 (show y∈Ir f r _ from M) with ⟨p,V,rfl⟩|⟨Y,_⟩
 ·rw[X11.1 V];exact⟨x,Xbz K,rfl⟩
 exact h.d y Y
def Mx.fin {s r:rv}(Q:Cz kH Az s.gT)(h:Mx s s.gT.length r):r.gT=s.gT:=by
 refine fP Ax h.t.w.v.Cz Q λy=>⟨λH=>?_,λH=>?_⟩
 ·obtain⟨x,M,U⟩:=h.d y H;obtain⟨j,F⟩:=Xd1.1 M;have V:=(X13.1 F).1;have J:=h.t.b j x V F rfl;obtain⟨a,K⟩:=Xd1.1 H;obtain⟨b,P⟩:=Xd1.1 J;have e:=bH h.t.w.v.Cz K P U;rw[e,P] at K;cases K;exact M
 obtain⟨j,F⟩:=Xd1.1 H;exact h.t.b j y (X13.1 F).1 F rfl
def UJ {s:rv}(w:WR s)(F:s.Up=true):G8 s 9 50=(Iq ⟨s.th,false,s.gT.map L3,59⟩,0):=by unfold G8;rw[w.v.to,F];rfl
def uC {f:oX}{s:rv}(h:WV f s)(H:s.Up=true) :∃r,Em (Iq ⟨s.th,false,s.gT.map L3,59⟩)=(r,0)/\Mx s 0 r:=by
 have J:=h.w.down (now:=9) (grace:=50) (by rw[UJ h.w H]);rw[UJ h.w H] at J;dsimp only at J;have F:Em (Iq ⟨s.th,false,s.gT.map L3,59⟩)=({ Iq ⟨s.th,false,s.gT.map L3,59⟩ with Up:=true },0):=by unfold Em;rw[J.v.to];rfl
 have K:=J.raise (by rw[F]);rw[F] at K;dsimp only at K;refine⟨_,F,⟨K,rfl,rfl,λy M P=>?_,λj x Q=>absurd Q (Nat.not_lt_zero j),λx U=>⟨L3 x,Xau.2 ⟨x,U,rfl⟩,rfl⟩⟩,λy M=>?_⟩
 ·obtain⟨z,_,rfl⟩:=Xau.1 (show y∈s.gT.map L3 from M);exact Bool.noConfusion P
 obtain⟨z,V,rfl⟩:=Xau.1 (show y∈s.gT.map L3 from M);exact⟨z,V,rfl⟩
inductive FE:ur->List zO->ur->Prop
 | nil (s:ur):FE s [] s
 | cons {s t u:ur} {l:List zO} {r:zO}:WS s->RV r->(Nz s r).1=EU t->(Nz s r).2.2=0->FE t l u->FE s (r::l) u
def FE.append {s t u:ur}{l m:O zO}(h:FE s l t)(k:FE t m u):FE s (l++m) u:=by
 induction h with
 | nil _=>exact k
 | cons a b c d _ F=>exact .cons a b c d (F k)
def Ox {s:ur}{r:zO}{i:Nat}{c:rv}(H:WS s)(J:RV r)(K:Km s r.Co=some i)(F:HU s i (s.oT.getD i Mn) r=(0,s.gD,s.oT.set i c)):FE s [r] (IB s i c)/\WS (IB s i c):=by obtain⟨M,P⟩:=sY K F;refine⟨.cons H J M P (.nil _),?_⟩;have:=dV H J K (by rw[F]);rw[F] at this;exact this
def xA {s:ur}(h:WS s){k:Nat}(F:k<s.gD.length):Km s (101+k)=some k:=by
 unfold Km;refine Xcx.2 ⟨F,?_,λj H=>?_⟩
 ·have:=(h.p k _ (X12 F)).Sy;simpa using this
 have:=(h.p j _ (X12 (Nat.lt_trans H F))).Sy;simp[this];omega
def NS (m:Int):zO:=⟨3,m,9,50,Mv,R8⟩
def Wr (m:Int):zO:=⟨2,m,0,0,Mv,R8⟩
def T9 (m:Int)(h:gT):zO:=⟨1,m,0,0,⟨[],h.mu.gH,[h.mu.fI]⟩,R8⟩
def No (m g:Int):zO:=⟨5,m,0,g,Mv,R8⟩
def u5 {s:ur}{i:Nat}{b:rv}{r:zO}(h:r.Kind=1):HU s i b r=((Dv s.oX b r.zl).2,s.gD,s.oT.set i (Dv s.oX b r.zl).1):=by unfold HU;rw[Xa2 h]
def uN {s:ur}{i:Nat}{b:rv}{r:zO}(h:r.Kind=2):HU s i b r=((Em b).2,s.gD,s.oT.set i (Em b).1):=by unfold HU;rw[Xa1 (by omega),Xa2 h]
def uf {s:ur}{i:Nat}{b:rv}{r:zO}(h:r.Kind=3):HU s i b r=((G8 b r.KK r.zT).2,s.gD,s.oT.set i (G8 b r.KK r.zT).1):=by unfold HU;rw[Xa1 (by omega),Xa1 (by omega),Xa2 h]
def ud {s:ur}{i:Nat}{b:rv}{r:zO}(h:r.Kind=5):HU s i b r=(0,s.gD,s.oT.set i (FI b r.zT)):=by unfold HU;rw[Xa1 (by omega),Xa1 (by omega),Xa1 (by omega),Xa1 (by omega),Xa2 h]
def Xn {s:ur}{k:Nat}{r:rv}(F:k<s.oT.length):(IB s k r).oT.getD k Mn=r:=by unfold IB;simp[F]
def Vv {m:Int}{s:ur}{k:Nat}{b:rv}(V:Si s.oX=true)(K:WV s.oX b)(F :∀x∈b.gT,x.zw=false)(Y:k<s.oT.length)(Z:Km s m=some k) :∀(n i:Nat) (r:rv),i+n=b.gT.length->Mx b i r->WS (IB s k r)-> ∃H,FE (IB s k r) ((b.gT.drop i).map (T9 m)) (IB s k H)/\Mx b b.gT.length H/\WS (IB s k H)
 | 0,i,r,hi,h,M=>⟨r,by rw[List.drop_eq_nil_of_le (by omega)];exact .nil _,by rw[show b.gT.length=i by omega];exact h,M⟩
 | n+1,i,r,hi,h,M=>by
  have P:i<b.gT.length:=by omega
  have hx:b.gT[i]?=some b.gT[i]:=X12 P;obtain⟨Q,h1,h2⟩:=h.step V K F hx;have J:=(K.h _ (Xad P)).2;have U:RV (T9 m b.gT[i]):=iO (.inr ⟨(UV.valid (u:=⟨[],b.gT[i].mu.gH,[b.gT[i].mu.fI]⟩) J (by simp) (by simp)).1,J⟩) (.inl rfl);have he:HU (IB s k r) k ((IB s k r).oT.getD k Mn) (T9 m b.gT[i])=(0,(IB s k r).gD,(IB s k r).oT.set k Q):=by rw[Xn Y,u5 rfl,show Dv (IB s k r).oX r (T9 m b.gT[i]).zl=(Q,0) from h1]
  obtain⟨c1,c2⟩:=Ox M U (show Km (IB s k r) m=some k from Z) he;rw[Pj] at c1 c2;obtain⟨H,d1,d2,d3⟩:=Vv V K F Y Z n (i+1) Q (by omega) h2 c2;refine⟨H,?_,d2,d3⟩;rw[Xbt P,Xbk];exact c1.append d1
def U8 {s:ur}(M:WS s){k:Nat}{b:rv}(hb:s.oT[k]?=some b)(H:b.Up=true)(J :∀x∈b.gT,x.zw=false)(K:b.xS=0) : FE s ([NS b.th.tb,Wr b.th.tb]++b.gT.map (T9 b.th.tb)++[No b.th.tb 0,No b.th.tb 1]) s:=by
 obtain⟨V,a6⟩:=X13.1 hb;obtain⟨Y,P⟩:=M.b k b hb;have Q:Km s b.th.tb=some k:=by rw[P];exact xA M (by have:=M.r;omega)
 have hg:s.oT.getD k Mn=b:=by simp[V,a6]
 have F:IB s k b=s:=jY hb;generalize b.th.tb=m at Q⊢;have zr :∀(kd t g:Int),RV ⟨kd,m,t,g,Mv,R8⟩:=λ_ _ _=>iO (.inl rfl) (.inl rfl)
 obtain⟨c1,w1⟩:=Ox (r:=NS m) (i:=k) (c:=Iq ⟨b.th,false,b.gT.map L3,59⟩) M (zr ..) Q (by
  rw[hg,uf rfl,show G8 b (NS m).KK (NS m).zT=_ from UJ Y.w H])
 obtain⟨r0,u1,u2⟩:=uC Y H
 obtain⟨c2,w2⟩:=Ox (r:=Wr m) (i:=k) (c:=r0) w1 (zr ..) (show Km (IB s k _) m=some k from Q) (by
  rw[Xn V,uN rfl,u1])
 rw[Pj] at c2 w2;obtain⟨Z,c3,u3,w3⟩:=Vv (m:=m) M.f.fil Y J V Q b.gT.length 0 r0 (by omega) u2 w2;rw[Xer] at c3;have hh:=u3.fin Y.w.v.Cz;have U :∀x∈Z.gT,x.zw=false:=by rw[hh];exact J
 have a7:({ Z with xS:=0 }:rv)=b:=by have p1:=u3.t.peer;have p2:=u3.t.up;obtain⟨pe,up,he,un⟩:=Z;obtain⟨a8,aa,ab,ae⟩:=b;dsimp only at *;subst p1 hh K;rw[p2,H]
 have sw :∀(g:Int) {r:rv},FI r g=b->WS (IB s k r)->FE (IB s k r) [No m g] s:=λg r hr af=>by
  obtain⟨c,_⟩:=Ox (r:=No m g) (i:=k) (c:=b) af (zr ..) (show Km (IB s k _) m=some k from Q) (by
   rw[Xn V,ud rfl,show FI r (No m g).zT=b from hr])
  rw[Pj,F] at c;exact c
 have c4:=sw 0 (r:=Z) (by rw[RP U,a7]) w3
 have c5:=sw 1 (r:=b) (by
  rw[RP J];obtain⟨a8,aa,ab,ae⟩:=b;dsimp only at K;subst K
  rfl) (by rw[F];exact M)
 rw[F] at c5;have:=((c1.append c2).append c3).append (c4.append c5);simpa using this
abbrev R5:JN:=⟨3,(⟨0,0,0,0,50,false⟩:Open),0,(⟨0,0,0,0,70,false⟩:Open),0,0⟩
abbrev sNo (s:Int):JN:=⟨s,(⟨0,0,0,0,0,false⟩:Open),0,(⟨0,0,0,0,0,false⟩:Open),0,0⟩
def mE (m:Int):As R5 (sNo 0) ⟨0,[]⟩ m 9=some [NS m]:=by kernel_rfl
def vO (m:Int):As (sNo 2) R5 ⟨4,[]⟩ m 12=some [Wr m]:=by kernel_rfl
def t6 (b:O S)(m t:Int):As R5 R5 ⟨2,b⟩ m t=Xx (EV b m t) λv=>some v:=by unfold As;rw[Xa1 (by decide),Xa1 (by decide),AB,Xa2 (by decide)];exact Xa2 rfl
def nR (m:Int):As R5 R5 ⟨2,Xaa (Xa0 4) (0:S)⟩ m 14=some [No m 0]:=by kernel_rfl
def pQ (m:Int):As R5 R5 ⟨2,[(0:S),(0:S),(0:S),(6:S),(128:S),(15:S),(3:S),(0:S),(2:S),(1:S)]⟩ m 14=some [No m 1]:=by kernel_rfl
def si {a:gH}{p:fI}(hv:CN ⟨[],a,[p]⟩=true)(m:Int) : (encS ⟨[],a,[p]⟩).2=0/\As R5 R5 ⟨2,(encS ⟨[],a,[p]⟩).1⟩ m 13=some [⟨1,m,0,0,⟨[],a,[p]⟩,R8⟩]:=by
 obtain⟨J,H,_⟩:=WB hv XF;have he:encS ⟨[],a,[p]⟩=Dt ⟨[],a,[p]⟩:=by unfold encS;rw[Xa2 hv]
 have V:(Dz (By ⟨[],a,[p]⟩)).2=0:=by
  unfold VV Dt at H;by_cases h:(Dz (By ⟨[],a,[p]⟩)).2=0
  ·exact h
  rw[Xa2 h] at H;simp only[X24,Xbh] at H;exact absurd H.1 h
 have Q:encS ⟨[],a,[p]⟩=(Kv ⟨[],a,[p]⟩ (Dz (By ⟨[],a,[p]⟩)).1,0):=by rw[he];unfold Dt;rw[Xa1 (by rw[V];decide)]
 have K:(Kv ⟨[],a,[p]⟩ (Dz (By ⟨[],a,[p]⟩)).1).length<=4077:=by unfold VV at H;rw[<- he,Q] at H;simpa using H
 have hd:=rA J V;have Y:(HX (By ⟨[],a,[p]⟩)).2=0:=by rw[pT J];split<;>rfl
 obtain⟨n,M,_⟩:=Vu J V Y;have F:CC (By ⟨[],a,[p]⟩) 1=true:=by
  obtain⟨v,_,_⟩:=J.g.a (by simp);obtain⟨o1,o2⟩:=J.o (by simp);have h1:CC (Kc a) 1=true:=by rw[SH v (by decide)];have:G a 1=if a.o3≠-1 then some [Ak a.o3] else none:=rfl;rw[this,Xa2 o1];rfl
  obtain⟨y,Z,e⟩:=Fp.1 h1;refine Fp.2 ⟨y,(QM J).m y ?_,e⟩;unfold zZ;rw[Xa2 (by simp)];exact Z
 generalize Kv ⟨[],a,[p]⟩ (Dz (By ⟨[],a,[p]⟩)).1=b at Q K hd M;have P:s9 b=(false,false):=by
  unfold s9;by_cases h0:b=[0,0,0,0]
  ·exfalso;rw[h0] at M;have hz:JB [0,0,0,0]=some ⟨[],Mm,[],[],[],[]⟩:=by kernel_rfl
   rw[hz] at M;have:=Xap (λq:C Pt=>(q.map λx=>x.l.length).getD 0) M;simp only[Xcb,Xaz,X10] at this;have hn:By ⟨[],a,[p]⟩=[]:=Xag this.symm;rw[hn] at F;cases F
  rw[Xa1 h0,M,Vi,Xa1];intro U;unfold qW at U;simp only[X24,Xy] at U;obtain⟨z,hz,ht⟩:=m3 U.1 U.2.1;rw[hz] at F;obtain⟨y,Z,e⟩:=Fp.1 F;rw[X11.1 Z] at e;omega
 refine⟨by rw[Q],?_⟩;rw[Q,t6];unfold EV;dsimp only;rw[ke (by omega),P,AA];dsimp only;rw[Xa1 (by decide),Yi (by omega),hd,AA];dsimp only;rw[Xa1 (by decide),AA,Xa1 (by simp)];rfl
def Y7 (l:O mu):D3 l l=some true:=by
 unfold D3
 rw[Xa1 (by simp),AB,D9 (l:=l) λnext i x F=>by
  rw[C9 F,AA,LD,AA,Xa1 (by decide)]]
def aH (p:tF):I5 p p=some true:=by
 unfold I5;simp only[Xca,Xcl,Xd4,Xcg,Xe4,Xc2,AB,JO,AA,Xf3]
 rw[D9 (l:=p.B4) λnext i x F=>by
  rw[C9 F,AA,show B4.zn x x=true by unfold B4.zn;simp];rfl]
def Yc (s:ur):Ip s s=some true:=by
 unfold Ip;simp only[Xca,Xcl,Xd4,Xe4,Xc2,AB,JO,AA,Xf3]
 rw[D9 (l:=s.gD) λnext i x F=>by
  rw[C9 F,AA,aH,AA];rfl]
 rw[D9 (l:=s.oT) λnext i x F=>by
  rw[C9 F,AA,bK,AA];rfl]
def X6 (c:Ct):Il c c=some true:=by
 unfold Il;rw[AB,Yc,AA,Xa1 (by decide)];simp only[Xca,Xcl,Xd4,Xc2,AB]
 rw[D9 (l:=c.Cl) λnext i x F=>by
  rw[C9 F,AA,Y7,AA];rfl]
def TC:H3=some true:=by kernel_rfl
def jd {ρ:Type}{m:Int}{K:O zO->C ρ}{t:O gT}(h :∀x∈t,Lv ⟨[],x.mu.gH,[x.mu.fI]⟩/\CN ⟨[],x.mu.gH,[x.mu.fI]⟩=true)(E:C ρ) :∀(i:Nat) (l:O zO),l.length+t.length<=100000-> AL (σ:=(O zO)) (λH=>K H) (λF (J:gT) i21 H=>Xx (FP (⟨[],J.mu.gH,([J.mu.fI]:O fI)⟩:zl)) λ(v22,v23)=>if (v23 !=0) then E else Xx (As R5 R5 (⟨2,v22⟩:N0) m 13) λM=>Xx (gO (α:=zO) 304 H M) λP=>F P ) t i l=K (l++t.map (T9 m)):=by
 induction t with
 | nil=>intro i l _;rw[List.map_nil,Xb1];rfl
 | cons x t U=>intro i l V;obtain⟨Q,Y⟩:=h x (by simp);obtain⟨e1,e2⟩:=si Y m;rw[A6,Xc Q.a Q.w Q.n XF,AA];generalize encS ⟨[],x.mu.gH,[x.mu.fI]⟩=q at e1 e2;obtain⟨b,e⟩:=q;dsimp only at e1 e2⊢;subst e1;simp only[X3] at V;rw[Xa1 (by decide),e2,AA,AD (by decide) (by simp;omega),AA,U (λy Z=>h y (by simp[Z])) (i+1) _ (by simp;omega)];simp[T9]
def RD {ρ:Type}{K:Ct->C ρ}{E:C ρ}{body:(Ct->C ρ)->zO->Nat->Ct->C ρ}(F :∀next r j c,body next r j c=Xx (EG c r) λ(x,_,f)=>if (f !=0)=true then E else next x) :∀{s t:ur} {l:O zO} (i:Nat),FE s l t->AL K body l i (EU s)=K (EU t)
 | _,_,_,_,.nil _=>rfl
 | _,_,_,i,.cons (s:=s) (r:=r) a b c d e=>by rw[A6,F,Yl a b,AA];generalize Nz s r=q at c d;obtain⟨x,y,z⟩:=q;dsimp only at c d⊢;subst c d;rw[Xa1 (by decide)];exact RD F (i+1) e
def Oy (b:rv) :∀x∈(FI b 2).gT,x.zw=false:=λx F=>by
 have h:=(Xb2.1 (show x∈b.gT.filter (IS 2) from F)).2;unfold IS at h;cases H:x.zw
 ·rfl
 rw[H] at h;simp at h
def XI (b:rv):(FI b 2).xS=0:=by
 have st:Kd (b.gT.filter (IS 2))=false:=by unfold Kd;rw[List.any_eq_false];intro x F;rw[Oy b x F];decide
 show cond (Kd (b.gT.filter (IS 2))) _ 0=0;rw[st];rfl
def bU (a0:O Int)(a1:Int)(h0:a0.length<=Xc7/\a0.length*8<=Xb5/\∀a∈a0,CA a)(_:CA a1):Dn a0 a1=some true:=by
 refine ok_eq ?_;unfold Dn OK;rw[AA];refine .bind (q9 (uo h0.1)) ?_;rintro⟨c,l1,s1,d⟩ ⟨s,hc,Y,_,_,_,hd⟩;dsimp only at hc hd⊢;subst hc;have hn:=Y.n;have hr:=Y.r;refine .bind (RU (n:=(s.oT.length:Int)) (by omega)) λk ⟨k1,k2⟩=>?_;obtain⟨k,rfl⟩ :∃n:Nat,k=(n:Int):=⟨k.toNat,by omega⟩;have hk:k<s.oT.length:=by omega
 obtain⟨b0,H⟩ :∃b,s.oT[k]?=some b:=⟨_,X12 hk⟩;obtain⟨K,aa⟩:=Y.b k b0 H;have g0:gN (EU s).ur.oT (k:Int)=some b0:=C9 H;rw[g0,AA,RX K.w.v.smr.smb,AA];have Z:=K.Pk 2;have M :∀x∈(FI b0 2).gT,x.zw=false:=Oy b0;have P:(FI b0 2).xS=0:=XI b0;have Q:(FI b0 2).th=b0.th:=rfl;generalize FI b0 2=b at Z M P Q⊢;cases a6:b.Up
 ·rw[Xa2 (show (!false)=true from rfl),TC,AA];exact .ret rfl
 rw[Xa1 (by decide),AD (by decide) (by show _+_<=_;simp[EU];omega),AA,AA];have U:Bu (EU s).ur.oT (k:Int) b=some (s.oT.set k b):=eR hk _;rw[U,AA];have J:WS ⟨s.oX,s.gD,s.oT.set k b⟩:=Y.HP H Z Q;have hb:(⟨s.oX,s.gD,s.oT.set k b⟩:ur).oT[k]?=some b:=by simp[hk]
 have F:=U8 J hb a6 M P;have a8:=Z.w.v.len;have a7 :∀x∈b.gT,Lv ⟨[],x.mu.gH,[x.mu.fI]⟩/\CN ⟨[],x.mu.gH,[x.mu.fI]⟩=true:=λx hx=>
  UV.valid (u:=⟨[],x.mu.gH,[x.mu.fI]⟩) (Z.h x hx).2 (by simp) (by simp)
 show Ok (Xx (EH ⟨s.oX,s.gD,s.oT.set k b⟩) _) _;generalize (⟨s.oX,s.gD,s.oT.set k b⟩:ur)=t at J F;rw[Z2 J,AA];dsimp only;rw[Xa1 (by decide)];generalize b.th.tb=m at F⊢;rw[mE m,AA,vO m,AA,AD (by decide) (by simp),AA,AB];rw[jd (m:=m) a7 (some false) 0 ([NS m]++[Wr m]) (by simp;omega)];rw[iw (by omega),AB,A6,nR m,AA,AD (by decide) (by simp;omega),AA];show Ok (AL _ _ [[(0:S),(0:S),(0:S),(6:S),(128:S),(15:S),(3:S),(0:S),(2:S),(1:S)]] 1 _) _;rw[A6,pQ m,AA,AD (by decide) (by simp;omega),AA];show Ok (AL _ _ [] 2 _) _;rw[Le];have hl:([NS m]++[Wr m]++b.gT.map (T9 m)++[No m 0]++[No m 1])=[NS m,Wr m]++b.gT.map (T9 m)++[No m 0,No m 1]:=by simp
 rw[hl];have V:(([NS m,Wr m]++b.gT.map (T9 m)++[No m 0,No m 1]).length:Int)=(b.gT.length:Int)+4:=by simp;omega
 generalize [NS m,Wr m]++b.gT.map (T9 m)++[No m 0,No m 1]=log at F V⊢;show Ok (AC _ _) _;rw[AB,RD (E:=some false) (λ_ _ _ _=>rfl) 0 F];show Ok (AC _ _) _;rw[AB,AK (by omega),Xa2 (by rw[V];simp),X6,AA,Xa2 (show cond true true false=true from rfl),TC,AA];exact .ret rfl
end Go.AX.Q33
end
section
namespace Go.AX.Q33
open Go Go.AX Go.Proofs
variable {wl:Prop}
instance Yv {a0:O Int}:CK (OK a0) 4 [ed a0] [] (λr=>.ref 0 0) (λr=>[.box (tx.av r)]):=Wf 0 Tryz.f4 λh=>by unfold OK at h;exact Wg .z h
instance {a0:Int}:CK (Dj a0) 62 [ed a0] [] ed oN:=Wf 0 Tryz.f62 λh=>by unfold Dj at h;exact Wg (.y 9 9 (.k (λv1=>⟨[(2,yb v1)],[]⟩))) h
instance Sj {a0:tF}:CK (BA a0) 32 [ed a0] [] ed oN:=Wf 0 Tryz.f32 λh=>by unfold BA at h;exact Wg (.y 104 104 (.d (λv1=>⟨[(1,yr 1 0),(3,yb v1)],[(1,yB (tF.av a0))]⟩) λv1=>.c (.f 34 1 D.i (λK M=>⟨[(3,yb M),(34,AV.d (D.l 1 D.i a0.El)),(35,yi (a0.El.length:Int)),(36,yi (K:Int))],[]⟩) (λM K V=>.g (.k (λP=>⟨[(3,yb P)],[]⟩)))) (λv2=>⟨[(3,yb v2)],[]⟩) λv2=>.a (.f 62 2 B4.cW (λF H=>⟨[(3,yb H),(62,AV.d (D.l 2 B4.cW a0.B4)),(63,yi (a0.B4.length:Int)),(64,yi (F:Int))],[]⟩) (λH F Q=>.g (.k (λJ=>⟨[(3,yb J)],[]⟩)))) (λU=>⟨[(1,X),(3,yb U)],[(1,N)]⟩))) h
instance LV {a0:Addr}:CK (Bw a0) 96 [ed a0] [] ed oN:=Wf 0 Tryz.f96 λh=>by unfold Bw at h;exact Wg (.y 15 15 (.k (λv1=>⟨[(2,yb v1)],[]⟩))) h
instance LA {a0:Addr}:CK (BJ a0) 56 [ed a0] [] (λr=>AV.own 0 (Xa5 D.u8 r).length) (λr=>[.row 5 1 (Xa5 D.u8 r) .no]):=Wf 0 Tryz.f56 λh=>by
 refine⟨rfl,?_⟩;unfold BJ at h;(conv=>whnf);refine Bv h (λ_=>LV.ok) λ_ h=>?_;refine Al ?_;refine CY h ?_ ?_<;>intro h
 ·(conv=>whnf);refine .inr ⟨X26 rfl,5,?_⟩;exact fin h
 refine Ag h (λv1=>⟨X::yr 1 0::X::yi v1::dd 31 ([]),N::yB (Addr.av a0)::nn 33 ([])⟩) ?_ ?_
 ·intro _ h;exact Wg .z h
 rintro v1 h;refine⟨_,rfl,?_⟩;refine Ag h (λv2=>⟨dd 4 (yO 4 D.u8 v2::dd 30 ([])),nn 4 (yR 5 1 D.u8 v2::nn 30 ([]))⟩) ?_ ?_
 ·intro _ h;revert h;refine BO (λ(H,F)=>⟨X::yr 1 0::X::X::yO 4 D.u8 F::yi H::dd 29 ([]),N::yB (Addr.av a0)::N::N::yR 5 1 D.u8 F::nn 30 ([])⟩) ?_ ?_
  ·exact wk
  rintro _ ⟨H,F⟩ _ h K;refine Al ?_;refine HY h λh=>?_;refine Al ?_;refine Ag h (λJ=>⟨X::yr 1 0::X::X::yO 4 D.u8 F::yi H::yu J::dd 28 ([]),N::yB (Addr.av a0)::N::N::yR 5 1 D.u8 F::nn 30 ([])⟩) ?_ ?_
  ·intro _ h;exact Wg .z h
  rintro J h;refine⟨by decide,_,rfl,?_⟩;refine⟨_,Ol _,?_⟩;refine⟨_,Ol _,?_⟩;refine⟨Xdf _,_,fN J _,?_⟩;exact Wg .z h
 rintro v2 h;exact Wg (.l (.r .z)) h
instance {a0:Addr}:CK (CP a0) 127 [ed a0] [] ed oN:=Wf 0 Tryz.f127 λh=>by unfold CP at h;exact Wg .z h
instance {a0:O S}:CK (BL a0) 128 [ed a0] [] e2 oN:=Wf 0 Tryz.f128 λh=>by unfold BL at h;exact Wg (.y 43 43 (.d (λv1=>⟨[(0,y0 a0),(2,yr 2 0),(14,yb v1)],[(2,yB Addr.zv)]⟩) λv1=>.b .z (.a (.f0 20 1 D.u8 (λF H=>⟨[(0,X),(4,yr 4 0),(14,X),(20,y0 a0),(21,yi (a0.length:Int)),(22,yi (F:Int))],[(4,yB (Addr.av H))]⟩)) (λv2=>⟨[(0,X),(4,yr 4 0),(14,X)],[(4,yB (Addr.av v2))]⟩)))) h
instance {a0:Addr} {a1:Int}:CK (DW a0 a1) 89 [ed a0,ed a1] [] e2 oN:=Wf 0 Tryz.f89 λh=>by
 refine⟨rfl,?_⟩;unfold DW at h;(conv=>whnf);refine .go ?_;refine Bv h (λ_=>LV.ok) λ_ h=>?_;refine Al ?_;refine CY h ?_ ?_<;>intro h
 ·exact fin h
 refine Ag h (λv1=>⟨X::yi a1::yr 2 0::X::yr 4 0::dd 10 (yb v1::dd 38 ([])),N::N::yB (Addr.av a0)::N::yB fI.zv::nn 49 ([])⟩) ?_ ?_
 ·intro _ h;exact Wg .z h
 rintro v1 h;refine Al ?_;refine CY h ?_ ?_<;>intro h
 ·exact fin h
 refine RJ [26] h (λ_=>LA.ok) λ_ h=>?_;refine Ag h (λv2=>⟨X::yi a1::X::X::yr 4 0::X::yO 26 D.u8 v2::dd 47 ([]),nn 4 (yB fI.zv::nn 21 (yR 5 1 D.u8 v2::nn 27 ([])))⟩) ?_ ?_
 ·intro _ h;revert h;refine BO (λ(H,F)=>⟨X::yi a1::X::X::yr 4 0::X::yO 26 D.u8 F::yi H::dd 46 ([]),nn 4 (yB fI.zv::nn 21 (yR 5 1 D.u8 F::nn 27 ([])))⟩) ?_ ?_
  ·exact wk
  rintro _ ⟨H,F⟩ _ h M;refine⟨F.length,EW,?_⟩;refine⟨_,rfl,?_⟩;refine Al ?_;refine HY h λh=>?_;refine Al ?_;refine⟨by decide,_,rfl,?_⟩;obtain⟨K,J,h⟩:=AM h;refine⟨rfl,Dw (f:=D.u8) J,?_⟩;refine⟨rfl,D.u8 K,(FY (f:=D.u8) J),?_⟩;refine⟨by decide,_,rfl,?_⟩;refine⟨_,Ol _,?_⟩;refine⟨Xdf _,_,mP (128:S) _,?_⟩;exact Wg .z h
 rintro v2 h;exact Wg (.m .z) h
instance {a0:fI}:CK (Am a0) 49 [ed a0] [] ed oN:=Wf 0 Tryz.f49 λh=>by unfold Am at h;exact Wg (.y 20 20 (.k (λv1=>⟨[(2,yb v1)],[]⟩))) h
instance {a0:Int}:CK (Ia a0) 74 [ed a0] [] ed oN:=Wf 0 Tryz.f74 λh=>by unfold Ia at h;exact Wg (.y 9 9 (.k (λv1=>⟨[(2,yb v1)],[]⟩))) h
instance {a0:O fI} {a1:Int}:CK (IW a0 a1) 75 [ed a0,ed a1] [] ed oN:=Wf 0 Tryz.f75 λh=>by unfold IW at h;exact Wg (.y 21 21 (.a (.f0 7 4 fI.cW (λF _=>⟨[(0,y1 a0),(1,yi a1),(7,y1 a0),(8,yi (a0.length:Int)),(9,yi (F:Int))],[]⟩)) (λ_=>⟨[(0,y1 a0),(1,yi a1)],[]⟩))) h
instance {a0:I}:CK (Dq a0) 76 [ed a0] [] ed oN:=Wf 0 Tryz.f76 λh=>by unfold Dq at h;exact Wg .z h
instance {a0:T}:CK (GL a0) 106 [ed a0] [] ed oN:=Wf 0 Tryz.f106 λh=>by
 refine⟨rfl,?_⟩;unfold GL at h;(conv=>whnf);refine Ag h (λ_=>⟨ys a0::dd 52 ([]),nn 53 ([])⟩) ?_ ?_
 ·intro _ h;revert h;refine BO (λv1=>⟨ys a0::dd 5 (yi (a0.size:Int)::yi v1::dd 45 ([])),nn 53 ([])⟩) ?_ ?_
  ·exact wk
  rintro _ v1 _ h M;refine Al ?_;refine HY h λh=>?_;refine Al ?_;obtain⟨H,F,h⟩:=AM h;refine⟨um F,H,rf F,?_⟩;exact Wg (.y 53 53 (.k (λJ=>⟨[(0,ys a0),(6,yi (a0.size:Int)),(7,yi v1),(43,yb J)],[]⟩))) h
 rintro _ h;exact Wg (.y 53 53 (.k (λK=>⟨[(2,yb K)],[]⟩))) h
instance {a0:ss}:CK (Bi a0) 107 [ed a0] [] ed oN:=Wf 0 Tryz.f107 λh=>by unfold Bi at h;exact Wg (.y 35 35 (.d (λv1=>⟨[(1,yr 1 0),(3,yi v1)],[(1,yB (ss.av a0))]⟩) λv1=>.k (λv2=>⟨[(1,X),(2,yb v2),(3,X)],[(1,N)]⟩))) h
instance Us {a0:zu}:CK (Ez a0) 77 [ed a0] [] ed oN:=Wf 0 Tryz.f77 λh=>by unfold Ez at h;exact Wg (.y 92 92 (.c (.f 14 3 Set.cW (λP v2=>⟨[(1,yr 1 0),(3,AV.mp 12),(14,AV.d (D.l 3 Set.cW a0.tE)),(15,yi (a0.tE.length:Int)),(16,yi (P:Int))],[(1,yB (zu.av a0)),(12,some (OB.map 9 4 (BK D.s D.b v2)))]⟩) (λv2 P F=>.a (.d (λQ=>⟨[(5,yr 5 0),(41,yb Q)],[(5,yB (Set.av F))]⟩) λQ=>.b .z (.c (.f 46 1 D.i (λU _=>⟨[(41,X),(46,AV.d (D.l 1 D.i F.qv)),(47,yi (F.qv.length:Int)),(48,yi (U:Int))],[(12,some (OB.map 9 4 (BK D.s D.b (A3 v2 F.Name true))))]⟩) (λ_ U V=>.g (.k (λH=>⟨[(57,yb H)],[]⟩)))) (λ_=>⟨[(41,X)],[(12,some (OB.map 9 4 (BK D.s D.b (A3 v2 F.Name true))))]⟩) λ_=>.a (.f0 60 1 D.s (λJ _=>⟨[(5,X),(60,AV.d (D.l 1 D.s F.tE)),(61,yi (F.tE.length:Int)),(62,yi (J:Int))],[(5,N)]⟩)) (λ_=>⟨[(5,X)],[(5,N)]⟩))) (λ_=>⟨[],[(12,some (OB.map 9 4 (BK D.s D.b (A3 v2 F.Name true))))]⟩))) (λ_=>⟨[(1,yr 1 0)],[(1,yB (zu.av a0))]⟩) λ_=>.c (.f0 72 6 ss.cW (λK _=>⟨[(72,AV.d (D.l 6 ss.cW a0.r9)),(73,yi (a0.r9.length:Int)),(74,yi (K:Int))],[]⟩)) (λ_=>⟨[],[]⟩) λ_=>.k (λM=>⟨[(1,X),(2,yb M)],[(1,N)]⟩))) h
instance Ul {a0:oX}:CK (GO a0) 42 [ed a0] [] ed oN:=Wf 0 Tryz.f42 λh=>by unfold GO at h;exact Wg (.y 186 186 (.d (λv1=>⟨[(1,yr 1 0),(43,yb v1)],[(1,yB (oX.av a0))]⟩) λv1=>.b .z (.c (.f 45 2 Ck.cW (λM _=>⟨[(43,X),(45,AV.d (D.l 2 Ck.cW a0.tv)),(46,yi (a0.tv.length:Int)),(47,yi (M:Int))],[]⟩) (λ_ M V=>.g (.k (λP=>⟨[(65,yb P)],[]⟩)))) (λ_=>⟨[(43,X)],[]⟩) λ_=>.c (.f0 68 1 D.i (λQ _=>⟨[(68,AV.d (D.l 1 D.i a0.zq)),(69,yi (a0.zq.length:Int)),(70,yi (Q:Int))],[]⟩)) (λ_=>⟨[],[]⟩) λ_=>.c (.f 79 6 ss.cW (λF _=>⟨[(79,AV.d (D.l 6 ss.cW a0.sI)),(80,yi (a0.sI.length:Int)),(81,yi (F:Int))],[]⟩) (λ_ F U=>.g (.k (λJ=>⟨[(116,yb J)],[]⟩)))) (λ_=>⟨[],[]⟩) λ_=>.d (λH=>⟨[(9,yb H)],[]⟩) λH=>.k (λK=>⟨[(1,X),(2,yb K),(9,X)],[(1,N)]⟩)))) h
instance {a0:Int}:CK (BH a0) 100 [ed a0] [] ed oN:=Wf 0 Tryz.f100 λh=>by unfold BH at h;exact Wg (.g (.y 15 15 (.c (.b .z (.a (.b .z (.k (λF=>⟨[(3,yi a0),(4,yb F)],[]⟩))) (λv2=>⟨[(3,yi a0),(4,yb v2)],[]⟩))) (λv1=>⟨[(3,yi a0),(4,yb v1)],[]⟩) λv1=>.b .z (.b .z (.a (.b .z (.k (λH=>⟨[(3,X),(4,X),(11,yb H)],[]⟩))) (λJ=>⟨[(3,X),(4,X),(11,yb J)],[]⟩)))))) h
instance {a0:Int}:CK (C6 a0) 94 [ed a0] [] ed oN:=Wf 0 Tryz.f94 λh=>by unfold C6 at h;exact Wg (.y 14 14 (.k (λv1=>⟨[(2,yb v1)],[]⟩))) h
instance {a0:O r8}:CK (CM a0) 95 [ed a0] [] ed oN:=Wf 0 Tryz.f95 λh=>by unfold CM at h;exact Wg (.y 78 78 (.a (.f 8 2 r8.cW (λK H=>⟨[(0,y2 a0),(3,yi H),(8,y2 a0),(9,yi (a0.length:Int)),(10,yi (K:Int))],[]⟩) (λH K F=>.a (.d (λM=>⟨[(5,yr 5 0),(36,yb M)],[(5,yB (r8.av F))]⟩) λM=>.b .z (.a (.f 38 1 D.i (λP _=>⟨[(36,X),(38,AV.d (D.l 1 D.i F.qv)),(39,yi (F.qv.length:Int)),(40,yi (P:Int))],[]⟩) (λ_ P Q=>.g (.k (λJ=>⟨[(68,yb J)],[]⟩)))) (λ_=>⟨[(36,X)],[]⟩))) (λ_=>⟨[(3,yi (AG (H+(F.qv.length:Int))))],[]⟩))) (λv1=>⟨[(3,yi v1)],[]⟩))) h
instance {a0:oF}:CK (Et a0) 129 [ed a0] [] ed oN:=Wf 0 Tryz.f129 λh=>by unfold Et at h;exact Wg (.y 21 21 (.k (λv1=>⟨[(2,yb v1)],[]⟩))) h
instance {a0:oF} {a1:oF}:CK (GG a0 a1) 130 [ed a0,ed a1] [] ed oN:=Wf 0 Tryz.f130 λh=>by unfold GG at h;exact Wg (.y 24 24 (.k (λv1=>⟨[(4,yb v1)],[]⟩))) h
instance {a0:O oF}:CK (EI a0) 97 [ed a0] [] ed oN:=Wf 0 Tryz.f97 λh=>by unfold EI at h;exact Wg (.y 33 33 (.a (.f 5 2 oF.cW (λF _=>⟨[(0,y3 a0),(5,y3 a0),(6,yi (a0.length:Int)),(7,yi (F:Int))],[]⟩) (λ_ F J=>.g (.k (λH=>⟨[(28,yb H)],[]⟩)))) (λ_=>⟨[(0,y3 a0)],[]⟩))) h
instance {a0:iX}:CK (B5 a0) 131 [ed a0] [] ed oN:=Wf 0 Tryz.f131 λh=>by unfold B5 at h;exact Wg (.y 31 31 (.k (λv1=>⟨[(2,yb v1)],[]⟩))) h
instance {a0:iX} {a1:iX}:CK (CX a0 a1) 132 [ed a0,ed a1] [] ed oN:=Wf 0 Tryz.f132 λh=>by unfold CX at h;exact Wg (.y 38 38 (.k (λv1=>⟨[(4,yb v1)],[]⟩))) h
instance {a0:O iX}:CK (Be a0) 98 [ed a0] [] ed oN:=Wf 0 Tryz.f98 λh=>by unfold Be at h;exact Wg (.y 33 33 (.a (.f 5 3 iX.cW (λF _=>⟨[(0,y4 a0),(5,y4 a0),(6,yi (a0.length:Int)),(7,yi (F:Int))],[]⟩) (λ_ F J=>.g (.k (λH=>⟨[(28,yb H)],[]⟩)))) (λ_=>⟨[(0,y4 a0)],[]⟩))) h
instance UG {a0:gH}:CK (Br a0) 52 [ed a0] [] ed oN:=Wf 0 Tryz.f52 λh=>by unfold Br at h;exact Wg (.y 124 124 (.c (.f 6 3 gL.cW (λF _=>⟨[(1,yr 1 0),(6,AV.d (D.l 3 gL.cW a0.oE)),(7,yi (a0.oE.length:Int)),(8,yi (F:Int))],[(1,yB (gH.av a0))]⟩) (λ_ F K=>.g (.k (λH=>⟨[(53,yb H)],[]⟩)))) (λ_=>⟨[(1,yr 1 0)],[(1,yB (gH.av a0))]⟩) λ_=>.k (λJ=>⟨[(1,X),(2,yb J)],[(1,N)]⟩))) h
instance {a0:Addr} {a1:Addr}:CK (Jt a0 a1) 102 [ed a0,ed a1] [] ed oN:=Wf 0 Tryz.f102 λh=>by unfold Jt at h;exact Wg (.b .z (.b .z (.y 37 37 (.k (λv1=>⟨[(17,yb v1)],[]⟩))))) h
instance {a0:fI} {a1:fI}:CK (B2 a0 a1) 60 [ed a0,ed a1] [] ed oN:=Wf 0 Tryz.f60 λh=>by unfold B2 at h;exact Wg .z h
instance {a0:rv}:CK (E6 a0) 61 [ed a0] [] e2 oN:=Wf 0 Tryz.f61 λh=>by unfold E6 at h;exact Wg (.y 27 27 (.a (.f 9 18 gT.cW (λH=>u2 λJ K=>⟨[(4,yi J),(5,yi K),(9,AV.d (D.l 18 gT.cW a0.gT)),(10,yi (a0.gT.length:Int)),(11,yi (H:Int))],[]⟩) (u2 λJ K H P=>.g (.k (u2 λM F=>⟨[(4,yi M),(5,yi F)],[]⟩)))) (u2 λv1 v2=>⟨[(4,yi v1),(5,yi v2)],[]⟩))) h
end Go.AX.Q33
end
