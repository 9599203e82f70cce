/-
  Texts of one proof, packed.
-/
import Derived.Test.YthbbpeeghmpcfaaGreatDoorR27
import Derived.KernelRfl
set_option linter.all false
set_option maxRecDepth 100000
set_option maxHeartbeats 4000000
open List renaming length_map→X1,length_append→X2,length_cons→X3,length_nil→X10,mem_singleton→X11,getElem?_eq_getElem→X12,getElem?_eq_some_iff→X13,length_drop→X14,length_take→X15,mem_cons_of_mem→X16,length_replicate→X17,length_set→X18,mem_append→X20
open Bool renaming and_eq_true→X24,eq_iff_iff→X25
open Option renaming bind→Xx
open List renaming take→Xb7
open Go renaming maxLen→Xc7
section
namespace Go.AX.Q33
open Go Go.AX Go.AX.Cw
structure Lv (u:zl):Prop where
 a:Ps u.gH
 w:u.oB.length<=1000
 n:u.gF.length<=1000
def bT {u:zl}(h:CN u=true):u.oB.length<=256/\u.gF.length<=256:=by unfold CN at h;simp only[X24,Xy] at h;exact⟨h.1,h.2.1⟩
def stepJ {α σ ρ:Type}{l:O α}{st:σ->α->σ}{I:σ->Prop}{body:(σ->C ρ)->α->Nat->σ->C ρ}{K:σ->C ρ} (H :∀next i x s,x∈l->I s->body next x i s=next (st s x)) (J :∀s x,x∈l->I s->I (st s x)) :∀(i:Nat) (s:σ),I s->AL K body l i s=K (l.foldl st s):=by
 induction l with
 | nil=>intro i s _;rfl
 | cons x t P=>intro i s M;rw[A6,H _ _ _ _ (by simp) M];exact P (λnext i y s F=>H next i y s (X16 _ F)) (λs y F=>J s y (X16 _ F)) (i+1) _ (J s x (by simp) M)
def n01 (l:O gT):n0 l+n1 l=l.length:=by
 induction l with
 | nil=>rfl
 | cons x t F=>
  cases h:x.mu.fI.Addr.V6
  ·rw[(SJ h).1,(SJ h).2,X3];omega
  rw[(XZ h).1,(XZ h).2,X3];omega
variable {f:oX} {b:rv} {u:zl}
def Yb (Y:FOk f)(Z:Uq b)(hp:b.th.Set.size<=Xc7)(M:Lv u):Gg f b u=some (Dv f b u):=by
 unfold Gg Dv;rw[AB,Lj Y.s,AA];cases h1:Si f
 ·rw[Xa2 (by rfl)];rfl
 rw[Xa1 (by simp),KL Z,AA];cases h2:Eo b
 ·rw[Xa2 (by rfl)];rfl
 rw[Xa1 (by simp),Qs M.a M.w M.n XF,AA];cases h3:CN u
 ·rfl
 show (if (false=true) then _ else _)=_;rw[Xa1 (by simp),Xco,Xco,Xa2 rfl];cases h4:b.Up
 ·rw[Xa2 (by rfl),Xa1 (by simp)];rfl
 rw[Xa1 (by simp),Xa2 rfl,Iy Z.smb,AA,AB];have V:=VR.of h2;have hl:=V.len;have a6:=bT h3;rw[stepJ (st:=Gy) (I:=λl=>l.length<=256) (λnext i x s _ F=>by rw[UX (by omega),AA]) (λs x _ F=>Xay (V8 s x) F) 0 b.gT hl];show AC _ _=_;rw[AB];obtain⟨P,a7,a8⟩:=ZH (u:=u) V.Cz;have hh:=Yf (Pr f b u) P u.gF;have sa:=M.a.sms;have H:=λ(K:O gT->C (rv×Int)) (body:(O gT->C (rv×Int))->fI->Nat->O gT->C (rv×Int)) (J :∀next x j s n,x∈u.gF->Cz kH Az s/\s.length+(n+1)<=1000->body next x j s=next (IN s (Pr f b u x)))=>
  ZI (K:=K) (body:=body) (λl p=>IN l (Pr f b u p)) (λn l=>Cz kH Az l/\l.length+n<=1000) (λn s x F=>⟨ZD F.1,by have:=Vg (h:=Pr f b u x) F.1;omega⟩) u.gF 0 (wdE b u) J ⟨P,by omega⟩
 refine (H _ _ λnext x j s n _ F=>?_).trans ?_;rotate_left
 ·show Xx (E6 (Eb f b u)) _=_;have ho:(Eb f b u).gT.length<=512:=by show (Ir f b u).length<=512;unfold Ir;omega
  have hn:=n01 (Eb f b u).gT;rw[Zu (by omega),AA];dsimp only;rw[AB,AK (by omega)];have e1:decide ((n0 (Eb f b u).gT:Int)>b.th.zi)=!Va (Eb f b u):=Nj;have e2:decide ((n1 (Eb f b u).gT:Int)>b.th.zh)=!VK (Eb f b u):=Nj;have e3:decide ((n0 (Eb f b u).gT:Int)+(n1 (Eb f b u).gT:Int)>256)=!decide (((Eb f b u).gT.length:Int)<=256):=by rw[Nj,show (n0 (Eb f b u).gT:Int)+(n1 (Eb f b u).gT:Int)=((Eb f b u).gT.length:Int) by omega]
  rw[e1,e2,e3];have Q:(Xx (Bg (Eb f b u)) λU=>some (U,(0:Int)))=some (Iq (Eb f b u),0):=by rw[Md,AA];rfl
  cases h5:Va (Eb f b u)<;>cases h6:VK (Eb f b u)<;>cases h7:decide (((Eb f b u).gT.length:Int)<=256);all_goals first
   | rfl
   | exact Q
 rw[AB,Ry sa,AA,ZT Y hp M.a,AA];exact tw (h:=Pr f b u x) rfl F.1 (by omega) next
end Go.AX.Q33
end
section
namespace Go.AX.Q33
open Go Go.AX Go.AX.Cw
def D9 {α ρ:Type}{l:O α}{body:(Unit->C ρ)->α->Nat->Unit->C ρ}{K:Unit->C ρ}(F :∀next i x,l[i]?=some x->body next x i ()=next ()):AL K body l 0 ()=K ():=by
 rw[oS (bad:=λ_ _=>false) (st:=λ_ _=>()) (r:=none) (λnext i x s H=>by cases s;exact F next i x H)];have :∀(l:O α) (i:Nat),O8 (λ_ _=>false) l i=false:=by
  intro l;induction l with
  | nil=>intro i;rfl
  | cons x t J=>intro i;unfold O8;rw[J];rfl
 rw[this,Xa1 (by simp)]
def Addr.L5 (a:Addr):Addr.zn a a=true:=(Addr.zb a a).2 rfl
def C9 {α:Type}{l:O α}{i:Nat}{x:α}(h:l[i]?=some x):gN l (i:Int)=some x:=by obtain⟨F,H⟩:=X13.1 h;rw[Ae F,H]
def Ur (a:gH):CZ a a=some true:=by
 unfold CZ;simp only[Xca,Xcl,Xd4,Addr.L5,Xe4,Xc2,AB]
 rw[D9 (l:=a.Path) λnext i x F=>by
  rw[C9 F,AA,AA,JO]
  simp]
 rw[D9 (l:=a.fT) λnext i x F=>by
  rw[C9 F,AA,show oF.zn x x=true by unfold oF.zn;simp];rfl]
 rw[D9 (l:=a.iX) λnext i x F=>by
  rw[C9 F,AA,show iX.zn x x=true by unfold iX.zn;simp];rfl]
 rw[D9 (l:=a.oE) λnext i x F=>by
  rw[C9 F]
  simp]
def LD (r:mu):A5 r r=some true:=by unfold A5;rw[(fI.zb _ _).2 rfl,Ur];simp[AB]
def VO (p:th):FH p p=some true:=by
 unfold FH;simp only[Xca,Xcl,Xd4,Xcg,Xe4,Xc2,AB]
 rw[D9 (l:=p.zd) λnext i x F=>by
  rw[C9 F,AA,Addr.L5];rfl]
def bK (b:rv):I7 b b=some true:=by
 unfold I7;simp only[Xca,Xcl,Xd4,Xcg,Xe4,Xc2,AB,VO,AA]
 rw[D9 (l:=b.gT) λnext i x F=>by
  rw[C9 F]
  simp[LD]]
def QV (p:th):Ly p=(CS p.tb&&((decide (0<=p.zi)&&decide (p.zi<=256))&&((decide (0<=p.zh)&&decide (p.zh<=256))&&(decide ((p.zd.length:Int)<=8)&&p.zd.all Addr.ok)))):=by unfold Ly;rw[If];rfl
def VR.smr {b:rv}(h:VR b):Uq b:=by have F:=h.peer;rw[QV] at F;simp only[X24,Xy] at F;refine⟨by have:=h.len;omega,by omega,λx H=>?_⟩;have:=(h.ok x H).2;unfold T1 at this;simp only[X24] at this;exact (Mo.of this.1).smt
def dP {d:tx}{n:Int}(F:Dk d)(h:101<=n/\n<=105):Ok (E1 d n) λr=>(r.1.tb=n/\r.1.Set.size<=4/\Ly r.1=true)/\Dk r.2:=by
 unfold E1;refine .bind (AN F (by omega)) ?_;rintro⟨a,d⟩ ⟨a1,K,F⟩;dsimp only at a1 K F⊢;refine .bind (.gN (by simp;omega)) λM H=>.bind (AN F (by omega)) ?_;rintro⟨b,d⟩ ⟨b1,b2,F⟩;dsimp only at b1 b2 F⊢;refine .bind (AN F (by omega)) ?_;rintro⟨c,d⟩ ⟨P,Q,F⟩;dsimp only at P Q F⊢;refine .bind (fB h false) λp U=>.bind (fB h true) λq V=>.ret ⟨⟨rfl,show M.size<=4 from ?_,?_⟩,F⟩
 ·have J:=H.1;simp only[Xa7,Xc3,Xez] at J;rcases J with rfl|rfl|rfl|rfl|rfl|rfl<;>decide
 rw[QV];dsimp only;rw[AK (by omega),AK (by omega)];unfold CS;simp only[X24,Xy,Xd5,List.all_nil,U,V,X3,X10];refine⟨by omega,by omega,by omega,by omega,trivial,trivial,trivial⟩
def Em (b:rv):rv×Int:=if Eo b=true then if b.Up=true then (zR,31) else ({ b with Up:=true },0) else (zR,1)
def Y0 {b:rv}(h:Uq b):GR b=some (Em b):=by
 unfold GR Em;rw[KL h,AA];cases Eo b
 ·rfl
 rw[Xa1 (by simp),Xa2 rfl];cases hu:b.Up
 ·rw[Xa1 (by simp),Xa1 (by simp),Iy h.smb,AA]
 rfl
def L3 (h:gT):gT:={ h with zw:=true }
def SS {ρ:Type}{v:O gT}(hl:v.length<=1000000)(K:O gT->C ρ) : AC (τ:=(O gT)) (λV=>Ad (σ:=Int×(O gT)) (λF (v9,v10)=>if (decide (v9<(v.length:Int))) then Xx (gN v10 v9) λJ=>Xx (Bu v10 v9 ({ J with zw:=true })) λM=>F ((AG (v9+1)),M) else V v10) xv (0,v)) K=K (v.map L3):=by
 rw[AB];refine (Bq (λs:Int×O gT=>0<=s.1/\s.1<=(v.length:Int)/\s.2.length=v.length) (λs=>((v.length:Int)-s.1).toNat) (λs=>K (s.2.take s.1.toNat++(s.2.drop s.1.toNat).map L3)) ?_ xv (0,v) ⟨by simp,by simp,rfl⟩ (BE (by dsimp only;omega))).trans (by simp);rintro next ⟨i,l⟩ ⟨Y,Z,Q⟩ U
 dsimp only at Y Z Q U⊢;obtain⟨i,rfl⟩ :∃n:Nat,i=(n:Int):=⟨i.toNat,by omega⟩;by_cases h:i<v.length
 ·have P:i<l.length:=by omega
  have H:Bu l (i:Int) ({ l[i] with zw:=true }:gT)=some (l.set i (L3 l[i])):=by unfold Bu;rw[Xa2 (by omega)];rfl
  rw[Xa2 (by simpa using h),Ae P,AA,H,AA,AK (by omega)];rw[U _ ⟨by dsimp only;omega,by dsimp only;omega,by simpa using Q⟩ (by dsimp only;omega)];dsimp only;rw[show ((i:Int)+1).toNat=i+1 by omega,Xax,OS P,List.drop_set_of_lt (by omega),Xb9];congr 2;rw[Xbt P];rfl
 rw[Xa1 (by simpa using h),show i=l.length by omega];simp
def G8 (b:rv)(now grace:Int):rv×Int:=
 if (Eo b&&(decide (0<=now)&&(decide (now<=1073741824)&&(decide (0<=grace)&&decide (grace<=4095)))))=true then
  if b.Up=true then (Iq ⟨b.th,false,(cond (grace==0) [] b.gT).map L3,now+grace⟩,0) else (zR,31)
 else (zR,1)
def dI {b:rv}(h:Uq b){now grace:Int}:HO b now grace=some (G8 b now grace):=by
 unfold HO G8;simp only[Nj (a:=now),Nj (a:=grace),Xu (a:=now),Xu (a:=grace)];rw[AB,KL h,AA];cases Eo b
 ·rfl
 by_cases a1:0<=now;case neg=>rw[Xa9 a1];rfl
 by_cases a2:now<=1073741824;case neg=>rw[Xa4 a1,Xa9 a2];rfl
 by_cases a3:0<=grace;case neg=>rw[Xa4 a1,Xa4 a2,Xa9 a3];rfl
 by_cases a4:grace<=4095;case neg=>rw[Xa4 a1,Xa4 a2,Xa4 a3,Xa9 a4];rfl
 rw[Xa4 a1,Xa4 a2,Xa4 a3,Xa4 a4];show (if (!b.Up)=true then _ else _)=some (if b.Up=true then _ else _);cases hu:b.Up
 ·rfl
 rw[Xa1 (by simp),Xa2 rfl,Iy h.smb,AA,AB,AK (by omega)];have F:=h.h;cases hg:grace==0
 ·rw[Xa1 (by simp)];refine (SS (v:=b.gT) F _).trans ?_;show Xx (Bg _) _=_;rw[Md,AA];rfl
 rw[Xa2 rfl];refine (SS (v:=[]) (by simp) _).trans ?_;show Xx (Bg _) _=_;rw[Md,AA];rfl
def IS (F:Int)(h:gT):I:=!h.zw || ((F==0&&h.mu.fI.Addr.V6) || (F==1&&!h.mu.fI.Addr.V6))
def FI (b:rv)(F:Int):rv:=Iq { b with gT:=b.gT.filter (IS F) }
def kL {ρ:Type}(w:Int)(x:gT)(K:I->C ρ):AC (τ:=I) (λF=>if (!x.zw) then F true else if (w==0) then if (cond false true (cond true x.mu.fI.Addr.V6 false)) then F true else if (w==1) then F (cond false true (cond true (!x.mu.fI.Addr.V6) false)) else F false else if (w==1) then F (cond false true (cond true (!x.mu.fI.Addr.V6) false)) else F false) K=K (IS w x):=by rw[AB];unfold IS;cases x.zw<;>cases (w==0)<;>cases (w==1)<;>cases x.mu.fI.Addr.V6<;>rfl
def RX {b:rv}(h:SmB b)(w:Int):Ew b w=some (FI b w):=by
 unfold Ew FI;rw[Iy h,AA,AA,AB];have hl:=h.h;have go :∀(t:O gT) (i:Nat) (F:O gT),F.length+t.length<=1000000->AL (σ:=O gT) (λP=>(λQ=>Xx (Bg ({ b with gT:=Q })) λU=>some U) P) (λH (K:gT) i7 P=>AC (τ:=I) (λJ=>if (!K.zw) then J true else if (w==0) then if (cond false true (cond true K.mu.fI.Addr.V6 false)) then J true else if (w==1) then J (cond false true (cond true (!K.mu.fI.Addr.V6) false)) else J false else if (w==1) then J (cond false true (cond true (!K.mu.fI.Addr.V6) false)) else J false ) λv9=>AC (τ:=(O gT)) (λM=>if v9 then Xx (gO (α:=gT) 208 P ([K]:O gT)) λV=>M V else M P) λY=>H Y) t i F=some (Iq { b with gT:=F++t.filter (IS w) }):=by
  intro t;induction t with
  | nil=>intro i F _;rw[Le];dsimp only;rw[Md,AA];simp[Iq]
  | cons x t Z=>
   intro i F h;simp only[X3] at h;rw[A6,kL,AB];cases hk:IS w x
   ·rw[Xa1 (by simp)];refine (Z _ _ (by omega)).trans ?_;rw[Xdq (by simp[hk])]
   rw[Xa2 rfl,AD (by decide) (by simp;omega),AA];refine (Z _ _ (by simp;omega)).trans ?_;rw[List.filter_cons_of_pos hk];simp
 exact (go b.gT 0 [] (by simpa using hl)).trans (by simp)
def sh (p:fI):Da p=OH p:=by rw[X25,HN,(JA p).2]
def YB {p:th}(h:Ly p=true):0<=p.zi/\0<=p.zh:=by rw[QV] at h;simp only[X24,Xy] at h;exact⟨h.2.1.1,h.2.2.1.1⟩
def mL {b:rv}(h:VR b):VR { b with Up:=true } where
 peer:=h.peer
 len:=h.len
 u0:=h.u0
 u1:=h.u1
 st:=h.st
 Cz:=h.Cz
 ok x hx:=by refine⟨(h.ok x hx).1,?_⟩;have:=(h.ok x hx).2;unfold T1 at this⊢;simp only[X24] at this⊢;exact⟨this.1,this.2.1,this.2.2.1,this.2.2.2.1,rfl⟩
 f4:=h.f4
 f6:=h.f6
def lU {l m:O gT}(h:l.Sublist m):n0 l<=n0 m:=h.countP_le
def mJ {l m:O gT}(h:l.Sublist m):n1 l<=n1 m:=h.countP_le
def rU {l m:O gT}(h :∀x∈l,x∈m)(F:Kd l=true):Kd m=true:=by unfold Kd at F⊢;rw[Xeg] at F⊢;obtain⟨x,H,J⟩:=F;exact⟨x,h x H,J⟩
def Xs {b:rv}(h:Kd b.gT=true->b.xS≠0):((Iq b).xS !=0)=Kd b.gT:=by
 unfold Iq;dsimp only;cases F:Kd b.gT
 ·rfl
 have:=h F;simpa using this
def HB (b:rv):(Iq b).xS=b.xS\/(Iq b).xS=0:=by
 unfold Iq;dsimp only;cases Kd b.gT
 ·exact .inr rfl
 exact .inl rfl
def j7 {b:rv}(h:VR b)(p:gT->I):VR (Iq { b with gT:=b.gT.filter p }) where
 peer:=h.peer
 len:=Xay (Xeb _ _) h.len
 u0:=by
  rcases HB { b with gT:=b.gT.filter p } with e|e
  ·rw[e];exact h.u0
  rw[e];exact Int.le_refl _
 u1:=by
  rcases HB { b with gT:=b.gT.filter p } with e|e
  ·rw[e];exact h.u1
  rw[e];decide
 st:=Xs λJ=>by have:=h.st;have K:=rU (m:=b.gT) (λx H=>(Xb2.1 H).1) J;rw[K] at this;simpa using this
 Cz:=I2 h.Cz
 ok x H:=h.ok x (Xb2.1 H).1
 f4:=by have F:=h.f4;unfold Va at F⊢;simp only[Xy] at F⊢;have:=lU (List.filter_sublist (p:=p) (l:=b.gT));show ((n0 (b.gT.filter p):Nat):Int)<=_;exact Int.le_trans (Int.ofNat_le.2 this) F
 f6:=by have F:=h.f6;unfold VK at F⊢;simp only[Xy] at F⊢;have:=mJ (List.filter_sublist (p:=p) (l:=b.gT));show ((n1 (b.gT.filter p):Nat):Int)<=_;exact Int.le_trans (Int.ofNat_le.2 this) F
def tO (l:O gT):n0 (l.map L3)=n0 l/\n1 (l.map L3)=n1 l:=by unfold n0 n1;rw[List.countP_map,List.countP_map];exact⟨rfl,rfl⟩
def qY {b:rv}(h:VR b){now grace:Int}(H:0<=now)(Q:now<=1073741824)(U:0<=grace)(V:grace<=4095):VR (Iq ⟨b.th,false,(cond (grace==0) [] b.gT).map L3,now+grace⟩):=by
 have F:(cond (grace==0) [] b.gT).Sublist b.gT:=by
  cases grace==0
  ·exact List.Sublist.refl _
  exact List.nil_sublist _
 have Y:=YB h.peer;refine⟨h.peer,?_,?_,?_,Xs λK=>?_,?_,λx M=>?_,?_,?_⟩
 ·show ((cond (grace==0) [] b.gT).map L3).length<=256;rw[X1];exact Xay F.length_le h.len
 ·rcases HB ⟨b.th,false,(cond (grace==0) [] b.gT).map L3,now+grace⟩ with e|e
  ·rw[e];show 0<=now+grace;omega
  rw[e];omega
 ·rcases HB ⟨b.th,false,(cond (grace==0) [] b.gT).map L3,now+grace⟩ with e|e
  ·rw[e];show now+grace<=_;omega
  rw[e];omega
 ·show now+grace≠0;cases hg:grace==0
  ·have:grace≠0:=by simpa using hg
   omega
  rw[hg] at K;cases K
 ·show List.Pairwise _ ((cond (grace==0) [] b.gT).map L3);rw[List.pairwise_map];exact Xeq F h.Cz
 ·obtain⟨y,P,rfl⟩:=Xau.1 M;have:=h.ok y (F.subset P);refine⟨this.1,?_⟩;have J:=this.2;unfold T1 at J⊢;simp only[X24] at J⊢;exact⟨J.1,J.2.1,J.2.2.1,J.2.2.2.1,rfl⟩
 ·have H:=h.f4;unfold Va at H⊢;simp only[Xy] at H⊢;have:=lU F;show ((n0 ((cond (grace==0) [] b.gT).map L3):Nat):Int)<=_;rw[(tO _).1];exact Int.le_trans (Int.ofNat_le.2 this) H
 have H:=h.f6;unfold VK at H⊢;simp only[Xy] at H⊢;have:=mJ F;show ((n1 ((cond (grace==0) [] b.gT).map L3):Nat):Int)<=_;rw[(tO _).2];exact Int.le_trans (Int.ofNat_le.2 this) H
def qy (f:oX)(p:th)(r:mu):0<=Rc f p r/\Rc f p r<=14:=by
 unfold Rc;have h:=(ip f p r).2;cases F:S4 f p r with
 | nil=>exact⟨Int.le_refl _,by decide⟩
 | cons x t=>have:=h x (by rw[F];simp);show 0<=x/\x<=14;omega
def nA {f:oX}{b:rv}{u:zl}(h:VR b)(P:CN u=true)(Q:b.Up=true)(h4:Va (Eb f b u)=true)(h6:VK (Eb f b u)=true)(hl:((Eb f b u).gT.length:Int)<=256):VR (Iq (Eb f b u)):=by
 obtain⟨w1,w2,w3⟩:=ZH (u:=u) h.Cz;have Y:=Yf (Pr f b u) w1 u.gF;unfold CN at P;simp only[X24,Xy,Xa6] at P;obtain⟨_,_,hg,_,K,_⟩:=P;have F :∀x∈(Eb f b u).gT,x∈b.gT \/∃p∈u.gF,x=Pr f b u p:=λx M=>by
  rcases Y.2.2 x M with H|H
  ·exact .inl (w3 x H)
  exact .inr H
 refine⟨h.peer,by show (Eb f b u).gT.length<=256;omega,?_,?_,Xs λU=>?_,Y.1,λx M=>?_,h4,h6⟩
 ·rcases HB (Eb f b u) with e|e<;>rw[e]
  ·exact h.u0
  exact Int.le_refl _
 ·rcases HB (Eb f b u) with e|e<;>rw[e]
  ·exact h.u1
  decide
 ·have h1:Kd b.gT=true:=by
   unfold Kd at U⊢;rw[Xeg] at U⊢;obtain⟨x,M,J⟩:=U;rcases F x M with H|⟨p,_,e⟩
   ·exact⟨x,H,J⟩
   rw[e] at J;cases J
  have:=h.st;rw[h1] at this;show b.xS≠0;simpa using this
 rcases F x M with H|⟨p,Z,e⟩
 ·exact h.ok x H
 rw[e];refine⟨by rw[sh];exact hg p (Xdk _ Z),?_⟩;have V:=K p Z;unfold U9 at V;simp only[X24] at V;have hc:=qy f b.th ⟨p,b.th.tb,u.gH⟩;unfold T1 Pr;simp only[X24,Xbd,Xca,Xav];refine⟨V.2.2.2,by show (b.th.tb !=b.th.tb)=false;simp,by omega,by omega,?_⟩;show (!b.Up&&!false)=false;rw[Q];rfl
structure WR (b:rv):Prop where
 v:VR b
 n:101<=b.th.tb/\b.th.tb<=105
 s:b.th.Set.size<=4
def WR.raise {b:rv}(h:WR b)(F:(Em b).2=0):WR (Em b).1:=by
 unfold Em at F⊢;rw[h.v.to,Xa2 rfl] at F⊢;cases hu:b.Up
 ·rw[Xa1 (by simp)];exact⟨mL h.v,h.n,h.s⟩
 rw[hu,Xa2 rfl] at F;exact absurd F (by decide)
def WR.down {b:rv}(h:WR b){now grace:Int}(H:(G8 b now grace).2=0):WR (G8 b now grace).1:=by
 unfold G8 at H⊢;cases F:(Eo b&&(decide (0<=now)&&(decide (now<=1073741824)&&(decide (0<=grace)&&decide (grace<=4095)))))
 ·rw[F,Xa1 (by simp)] at H;exact absurd H (by decide)
 rw[F,Xa2 rfl] at H;rw[Xa2 rfl];cases hu:b.Up
 ·rw[hu,Xa1 (by simp)] at H;exact absurd H (by decide)
 rw[Xa2 rfl];simp only[X24,Xy] at F;exact⟨qY h.v F.2.1 F.2.2.1 F.2.2.2.1 F.2.2.2.2,h.n,h.s⟩
def WR.Pk {b:rv}(h:WR b)(w:Int):WR (FI b w):=⟨j7 h.v _,h.n,h.s⟩
def WR.apply {f:oX}{b:rv}{u:zl}(h:WR b)(F:(Dv f b u).2=0):WR (Dv f b u).1:=by
 unfold Dv at F⊢;cases J:(Si f&&(Eo b&&CN u))
 ·rw[J,Xa1 (by simp)] at F;exact absurd F (by decide)
 rw[J,Xa2 rfl] at F;rw[Xa2 rfl];cases hu:b.Up
 ·rw[hu,Xa1 (by simp)] at F;exact absurd F (by decide)
 rw[hu,Xa2 rfl] at F;rw[Xa2 rfl];cases H:(Va (Eb f b u)&&(VK (Eb f b u)&&decide (((Eb f b u).gT.length:Int)<=256)))
 ·rw[H,Xa1 (by simp)] at F;exact absurd F (by decide)
 rw[Xa2 rfl];simp only[X24,Xy] at J H;exact⟨nA h.v J.2.2 hu H.1 H.2.1 H.2.2,h.n,h.s⟩
def WR.sz {b:rv}(h:WR b):b.th.Set.size<=Xc7:=pZ h.s
def ok_eq {ρ:Type}{m:C ρ}{r:ρ}(h:Ok m λx=>x=r):m=some r:=by obtain⟨x,F,H⟩:=h;rw[F,H]
def zH:gT:=⟨⟨⟨⟨false,0,0⟩,0⟩,0,⟨0,[],⟨false,0,0⟩,0,0,0,[],[],[]⟩⟩,0,false⟩
def PA:mu:=⟨⟨⟨false,0,0⟩,0⟩,0,⟨0,[],⟨false,0,0⟩,0,0,0,[],[],[]⟩⟩
def IJ:O gT->fI->gT×I
 | [],_=>(zH,false)
 | x::t,p=>if fI.zn x.mu.fI p=true then (x,true) else IJ t p
def jr (b:rv)(p:fI):Jp b p=some (IJ b.gT p):=by
 unfold Jp;rw[AB];have go :∀(l:O gT) (i:Nat),AL (σ:=Unit) (λ_=>(λ_:Unit=>some (zH,false)) ()) (λF (H:gT) i4 _=>if (fI.zn H.mu.fI p) then some (H,true) else F ()) l i ()=some (IJ l p):=by
  intro l;induction l with
  | nil=>intro i;rfl
  | cons x t J=>
   intro i;rw[A6];unfold IJ;cases K:fI.zn x.mu.fI p
   ·rw[Xa1 (by simp),Xa1 (by simp)];exact J (i+1)
   rw[Xa2 rfl,Xa2 rfl]
 exact go b.gT 0
def nD (g:gT×I):mu×I:=if (g.2&&(g.1.zW==0))=true then (g.1.mu,true) else (PA,false)
def kG (b:rv)(p:fI):EC b p=some (nD (IJ b.gT p)):=by
 unfold EC nD;rw[jr,AA];cases h:IJ b.gT p with
 | mk x f=>
  dsimp only;rw[AB];cases f
  ·rfl
  cases F:x.zW==0<;>rfl
end Go.AX.Q33
end
section
namespace Go.AX.Q33
open Go Go.AX Go.AX.Cw
section
variable {α σ:Type}
def Zh {l:O α}{k:Nat}{y:α}(F:l[k]?=some y):l.take (k+1)=l.take k++[y]:=by rw[Xbr,F];rfl
end
end Go.AX.Q33
end
section
namespace Go.AX.Q33
open Go Go.AX Go.AX.Cw
def iY (b:rv):O fI:=b.gT.map kH
def uL {α ρ:Type}{l m:O α}(H:l.length=m.length){c:α->α->I}(J :∀x y,c x y=true↔x=y){r:C ρ}{K:Unit->C ρ}{body:(Unit->C ρ)->α->Nat->Unit->C ρ} (P :∀(next:Unit->C ρ) (i:Nat) x y,gN m (i:Int)=some y->body next x i ()=if c x y=true then next () else r) :∃e:I,(e=true↔l=m)/\AL K body l 0 ()=if e=true then K () else r:=by
 refine⟨!O8 (λi x=>!((m[i]?).map (c x)).getD true) l 0,?_,?_⟩
 ·rw[Xbd,KW];constructor
  ·intro h;apply List.ext_getElem?;intro i;cases F:l[i]? with
   | none=>rw[List.getElem?_eq_none_iff] at F;rw[eq_comm,List.getElem?_eq_none_iff];omega
   | some x=>have Q:=(X13.1 F).1;have:=h i x F;rw[Xbc,X12 (by omega)] at this;rw[X12 (by omega),(J x _).1 (by simpa using this)]
  rintro rfl j x F;rw[Xbc,F];simp[(J x x).2 rfl]
 rw[oS (bad:=λi x=>!((m[i]?).map (c x)).getD true) (st:=λ_ _=>()) (r:=r) (λnext i x s F=>by
  cases s;have Q:=(X13.1 F).1;have M:m[i]?=some (m[i]'(by omega)):=X12 (by omega);rw[P next i x _ (C9 M),M];show _=if (!c x (m[i]'(by omega)))=true then r else next ()
  cases c x (m[i]'(by omega))<;>rfl)]
 cases O8 (λi x=>!((m[i]?).map (c x)).getD true) l 0<;>rfl
def Ok.eqL {α ρ:Type}{l m:O α}{Q:ρ->Prop}{K:Unit->C ρ}{body:(Unit->C ρ)->α->Nat->Unit->C ρ}(c:α->α->I)(r:C ρ)(F:l.length=m.length)(J :∀x y,c x y=true↔x=y) (M :∀(next:Unit->C ρ) (i:Nat) x y,gN m (i:Int)=some y->body next x i ()=if c x y=true then next () else r) (P:l≠m->Ok r Q) (U:l=m->Ok (K ()) Q):Ok (AL K body l 0 ()) Q:=by obtain⟨e,H,V⟩:=uL F J (K:=K) M;rw[V];exact .ite (λh=>U (H.1 h)) λh=>P λY=>h (H.2 Y)
def cS (x y:r8):I:=(x.Set==y.Set)&&decide (x.qv=y.qv)
def tn (x y:r8):cS x y=true↔x=y:=by unfold cS;cases x;cases y;simp
def cU (x y:gL):I:=(x.Flags==y.Flags)&&((x.gE==y.gE)&&decide (x.Data=y.Data))
def uM (x y:gL):cU x y=true↔x=y:=by unfold cU;cases x;cases y;simp
def mW (x y:oF):oF.zn x y=true↔x=y:=by unfold oF.zn;cases x;cases y;simp
def o4 (x y:iX):iX.zn x y=true↔x=y:=by unfold iX.zn;cases x;cases y;simp[Xf2]
def VN (a b:gH):Ok (CZ a b) λv=>v=true↔a=b:=by
 unfold CZ;have ne :∀{p:Prop},p->(a=b->¬ p)->Ok (some false) λv=>v=true↔a=b:=λK h=>.ret ⟨λe=>(by cases e),λe=>absurd K (h e)⟩;refine .join (λv=>(v=true->a≠b)/\(v=false->a.o3=b.o3/\a.Next=b.Next/\a.AF=b.AF/\a.xL=b.xL/\a.zy=b.zy/\a.Path.length=b.Path.length/\a.fT.length=b.fT.length/\a.iX.length=b.iX.length/\a.oE.length=b.oE.length)) (λk F=>?_) λv J=>?_
 ·refine .ite (λh=>F _ ⟨λ_ e=>by rw[e] at h;simp at h,λe=>(by cases e)⟩) λM=>?_;refine .ite (λh=>F _ ⟨λ_ e=>by rw[e,Addr.L5] at h;simp at h,λe=>(by cases e)⟩) λP=>?_;refine .ite (λh=>F _ ⟨λ_ e=>by rw[e] at h;simp at h,λe=>(by cases e)⟩) λQ=>?_;refine .ite (λh=>F _ ⟨λ_ e=>by rw[e] at h;simp at h,λe=>(by cases e)⟩) λU=>?_;refine .ite (λh=>F _ ⟨λ_ e=>by rw[e] at h;simp at h,λe=>(by cases e)⟩) λV=>?_;refine .ite (λh=>F _ ⟨λ_ e=>by rw[e] at h;simp at h,λe=>(by cases e)⟩) λY=>?_;refine .ite (λh=>F _ ⟨λ_ e=>by rw[e] at h;simp at h,λe=>(by cases e)⟩) λZ=>?_;refine .ite (λh=>F _ ⟨λ_ e=>by rw[e] at h;simp at h,λe=>(by cases e)⟩) λh8=>?_;refine F _ ⟨λh e=>by rw[e] at h;simp at h,λh9=>?_⟩;refine⟨by simpa using M,(Addr.zb _ _).1 (by simpa using P),by simpa using Q,by simpa using U,by simpa using V,(by have q:(a.Path.length:Int)=b.Path.length:=(by simpa using Y);omega),(by have q:(a.fT.length:Int)=b.fT.length:=(by simpa using Z);omega),(by have q:(a.iX.length:Int)=b.iX.length:=(by simpa using h8);omega),(by have q:(a.oE.length:Int)=b.oE.length:=(by simpa using h9);omega)⟩
 refine .ite (λh=>.ret ⟨λe=>(by cases e),λe=>absurd e (J.1 h)⟩) λh=>?_;obtain⟨a1,a2,a3,a4,a5,l1,l2,l3,l4⟩:=J.2 (by simpa using h);rw[AB]
 refine Ok.eqL (m:=b.Path) cS (some false) l1 tn (λnext i x y H=>by
  rw[AB,H,AA,AA,JO];unfold cS
  cases x.Set==y.Set<;>cases decide (x.qv=y.qv)<;>rfl) (λq=>.ret ⟨λe=>(by cases e),λe=>absurd (by rw[e]) q⟩) λb1=>?_
 show Ok (AC _ _) _;rw[AB]
 refine Ok.eqL (m:=b.fT) oF.zn (some false) l2 mW (λnext i x y H=>by
  rw[H,AA]
  cases oF.zn x y<;>rfl) (λq=>.ret ⟨λe=>(by cases e),λe=>absurd (by rw[e]) q⟩) λb2=>?_
 show Ok (AC _ _) _;rw[AB]
 refine Ok.eqL (m:=b.iX) iX.zn (some false) l3 o4 (λnext i x y H=>by
  rw[H,AA]
  cases iX.zn x y<;>rfl) (λq=>.ret ⟨λe=>(by cases e),λe=>absurd (by rw[e]) q⟩) λb3=>?_
 show Ok (AC _ _) _;rw[AB]
 refine Ok.eqL (m:=b.oE) cU (some false) l4 uM (λnext i x y H=>by
  rw[AB,H,AA,AA,AA,MJ,MJ];unfold cU;have e:(x.Data==y.Data)=decide (x.Data=y.Data):=by
   by_cases h:x.Data=y.Data
   ·rw[h];simp
   rw[Xa9 h];simpa using h
  rw[e]
  cases hf:x.Flags==y.Flags<;>cases ht:x.gE==y.gE<;>cases decide (x.Data=y.Data)<;>simp[bne,hf,ht]) (λq=>.ret ⟨λe=>(by cases e),λe=>absurd (by rw[e]) q⟩) λb4=>?_
 refine .ret ⟨λ_=>?_,λ_=>rfl⟩;cases a;cases b;simp_all
def NH (a b:mu):Ok (A5 a b) λv=>v=true↔a=b:=by
 unfold A5;refine .join (λv=>v=true↔a=b) (λk F=>?_) λv J=>.ret J;have no:(a=b->False)->Ok (k false) λv=>v=true↔a=b:=λh=>F false ⟨λe=>(by cases e),λe=>(h e).elim⟩;refine .ite (λK=>?_) λh=>no λe=>h (by rw[e];exact (fI.zb _ _).2 rfl);refine .ite (λM=>?_) λh=>no λe=>h (by rw[e];simp);refine .bind (VN _ _) λP H=>F _ ⟨λq3=>?_,λe=>H.2 (by rw[e])⟩;have b1:=(fI.zb _ _).1 K;have b2:a.zQ=b.zQ:=by simpa using M
 have b3:=H.1 q3;cases a;cases b;simp_all
def JL (a b:mu):I:=(A5 a b).getD false
def Vf (a b:mu):A5 a b=some (JL a b):=by obtain⟨v,h,_⟩:=NH a b;unfold JL;rw[h];rfl
def jc (a b:mu):JL a b=true↔a=b:=by obtain⟨v,h,F⟩:=NH a b;unfold JL;rw[h];exact F
def Gu (b:rv)(p:fI):mu×I:=nD (IJ b.gT p)
def jm {o:ss}(h:Pz o):dZ o=true:=by
 obtain⟨H,J,K,P⟩:=h;unfold dZ;simp only[X24,Xy];refine⟨(HN _).2 H.T4,⟨?_,?_⟩,K,by omega⟩
 ·rcases H.2 with ⟨M,F⟩|⟨M,F⟩<;>rcases J with ⟨q1,q2⟩|⟨q1,q2⟩
  ·omega
  ·rw[F] at q2;cases q2
  ·rw[F] at q2;cases q2
  omega
 rcases J with ⟨q1,q2⟩|⟨q1,q2⟩<;>rw[q1,q2]<;>decide
def MF.fil {f:oX}(h:MF f):Si f=true:=by
 have J:f.Bb.all Da=true:=by rw[h.Tr];decide +kernel
 have K:f.wg.all Da=true:=by rw[Xa6];exact λp P=>(HN _).2 (h.bog.2 p P).T4
 have M:f.tv.all spB=true:=by rw[h.priv];decide
 have F:f.zq.all CS=true:=by rw[Xa6];intro x Q;have:=h.free.2 x Q;unfold CS;rw[Xa4 (by omega),Xa4 (by omega)];rfl
 have H:f.sI.all dZ=true:=by rw[Xa6];exact λo U=>jm (h.Te.2 o U)
 obtain⟨V,Y,Z,m4,m5,m6⟩:=h.mins;unfold Si;rw[J,K,M,F,H,h.reg,h.own,V,Y,Z,m4,m5,m6,h.Tr,h.priv];have a1:decide ((f.wg.length:Int)>64)=false:=Xa9 (by have:=h.bog.1;omega);have a2:decide ((f.zq.length:Int)>64)=false:=Xa9 (by have:=h.free.1;omega);have a3:decide ((f.sI.length:Int)>512)=false:=Xa9 (by have:=h.Te.1;omega);have a4:decide (1<=f.zX)=true:=Xa4 (by have:=h.Tw;omega);have a5:decide (f.zX<=60)=true:=Xa4 (by have:=h.Tw;omega);rw[a1,a2,a3,a4,a5];decide
def mO {α:Type}:O α->O (O α)
 | []=>[[]]
 | x::t=>mO t++(mO t).map (x::·)
def aI {α:Type}{l m:O α}(h:l.Sublist m):l∈mO m:=by
 induction h with
 | slnil=>exact X11.2 rfl
 | cons a _ F=>exact Xcf _ F
 | cons_cons a _ F=>exact Xdk _ (Xau.2 ⟨_,F,rfl⟩)
def iv {α:Type}{l m:O α}{i:Nat}{x:α}(h:l.Sublist (m.take i))(F:m[i]?=some x):l.Sublist (m.take (i+1))/\(l++[x]).Sublist (m.take (i+1)):=by rw[Zh F];exact⟨h.trans (List.sublist_append_left _ _),List.Sublist.append h (List.Sublist.refl _)⟩
def j8 {d:tx}(F:Dk d):Ok (B1 d) λr=>Gv r.1=true/\r.1.length<=8/\Dk r.2:=by
 unfold B1;refine .bind (AN F (by omega)) ?_;rintro⟨a,d⟩ ⟨_,_,F⟩;dsimp only at F⊢;refine .join (λx:tx×O oF=>Dk x.1/\x.2.Sublist ([⟨0,99⟩,⟨0,101⟩,⟨0,102⟩,⟨99,101⟩,⟨99,103⟩,⟨500,1⟩,⟨65535,666⟩,⟨65535,65282⟩]:O oF)) (λk V=>?_) (λ⟨d,l⟩ ⟨F,H⟩=>.ret ⟨?_,by have:=H.length_le;simpa using this,F⟩)
 ·refine .Gd (λi (x:tx×O oF)=>Dk x.1/\x.2.Sublist (Xb7 i ([⟨0,99⟩,⟨0,101⟩,⟨0,102⟩,⟨99,101⟩,⟨99,103⟩,⟨500,1⟩,⟨65535,666⟩,⟨65535,65282⟩]:O oF))) ⟨F,by simp⟩ (λx K=>V _ ⟨K.1,by simpa using K.2⟩) ?_;rintro next x i ⟨d,l⟩ K ⟨F,H⟩ P
  have Y:i<8:=(X13.1 K).1;have Q:l.length<=8:=by have:=H.length_le;rw[X15] at this;simp at this;omega
  dsimp only at F H⊢;have U:=iv H K;refine .join (λx:I×tx=>Dk x.2) (λk2 J=>.ite (λ_=>.ite (λ_=>J _ F) λ_=>.bind (AN F (by omega)) ?_) λ_=>J _ F) ?_
  ·rintro⟨b,d⟩ ⟨_,_,F⟩;exact J _ F
  rintro⟨c,d⟩ F;dsimp only at F⊢;refine .join (λZ:O oF=>Z.Sublist _) (λk3 M=>.ite (λ_=>.bind (.gO (by decide) (by simp;omega)) λw hw=>M _ (by rw[hw];exact U.2)) λ_=>M _ U.1) λl H=>P _ ⟨F,H⟩
 exact Xa6.1 (show (mO ([⟨0,99⟩,⟨0,101⟩,⟨0,102⟩,⟨99,101⟩,⟨99,103⟩,⟨500,1⟩,⟨65535,666⟩,⟨65535,65282⟩]:O oF)).all Gv=true by kernel_rfl) _ (aI H)
def ji {d:tx}(J:Dk d):Ok (EY d) λr=>G1 r.1=true/\r.1.length<=7/\Dk r.2:=by
 unfold EY;refine .bind (AN J (by omega)) ?_;rintro⟨a,d⟩ ⟨_,_,J⟩;dsimp only at J⊢;refine .join (λx:O iX=>x.Sublist ([⟨5,5,5⟩,⟨99,0,0⟩,⟨99,0,103⟩,⟨99,1,102⟩,⟨99,101,0⟩,⟨99,102,104⟩,⟨99,103,101⟩]:O iX)) (λk U=>?_) (λl F=>.ret ⟨?_,by have:=F.length_le;simpa using this,J⟩)
 ·refine .Gd (λi (x:O iX)=>x.Sublist (Xb7 i ([⟨5,5,5⟩,⟨99,0,0⟩,⟨99,0,103⟩,⟨99,1,102⟩,⟨99,101,0⟩,⟨99,102,104⟩,⟨99,103,101⟩]:O iX))) (by simp) (λx K=>U _ (by simpa using K)) ?_;intro next x i l K F M
  have V:i<7:=(X13.1 K).1;have P:l.length<=7:=by have:=F.length_le;rw[X15] at this;simp at this;omega
  have Q:=iv F K;refine .join (λY:O iX=>Y.Sublist _) (λk3 H=>.ite (λ_=>.bind (.gO (by decide) (by simp;omega)) λw Z=>H _ (by rw[Z];exact Q.2)) λ_=>H _ Q.1) λl F=>M _ F
 exact Xa6.1 (show (mO ([⟨5,5,5⟩,⟨99,0,0⟩,⟨99,0,103⟩,⟨99,1,102⟩,⟨99,101,0⟩,⟨99,102,104⟩,⟨99,103,101⟩]:O iX)).all G1=true by kernel_rfl) _ (aI F)
structure PL (l:List Int):Prop where
 ne:l≠[]
 len:l.length<=10
 num :∀x∈l,CS x=true
def Zl {α:Type}{r:α->α->I}(h :∀a b,r a b=true) :∀l:O α,zm r l=true
 | []=>rfl
 | [_]=>rfl
 | a::b::t=>by unfold zm;rw[h,Zl h (b::t)];rfl
def PL.seg {l:O Int}(h:PL l):Jz ⟨false,l⟩=true:=by have e:zm (λa b=>!(r8.mk false l).Set || Fk a b) l=true:=Zl (λ_ _=>rfl) l;have e1:l.all CS=true:=Xa6.2 h.num;have e2:decide (l.length≠0)=true:=Xa4 (by have:=h.ne;simpa using this);show (decide (l.length≠0)&&(l.all CS&&zm (λa b=>!(r8.mk false l).Set || Fk a b) l))=true;rw[e,e1,e2];rfl
def PL.v1 {l:O Int}(h:PL l):C5 [⟨false,l⟩]=true:=by unfold C5;have:=h.len;rw[Xa4 (by simp[DP];omega)];simp[h.seg,zm]
def PL.v2 {l:O Int}(h:PL l):C5 [⟨false,l⟩,⟨true,[7,9]⟩]=true:=by
 unfold C5;have:=h.len;rw[Xa4 (by simp[DP];omega)];have e:Jz ⟨true,[7,9]⟩=true:=by decide +kernel
 simp[h.seg,e,zm,Mb]
def Z4 {n:Int}(h:101<=n/\n<=105)(b:I):Ok (Eh n b) λa=>a.ok=true/\a.V6=b/\Addr.zn a ⟨false,0,0⟩=false:=by
 have:n=101\/n=102\/n=103\/n=104\/n=105:=by omega
 rcases this with rfl|rfl|rfl|rfl|rfl<;>cases b<;>exact⟨_,rfl,by show Addr.ok _=true;kernel_rfl,rfl,by kernel_rfl⟩
structure GA (b:Bool)(p:List r8)(v6:Bool)(hi lo:UInt64)(o:List gL):Prop where
 path:C5 p=true/\p.length<=2/\∀s∈p,s.qv.length<=10
 next:(Addr.mk v6 hi lo).ok=true/\v6=b/\Addr.zn ⟨v6,hi,lo⟩ ⟨false,0,0⟩=false
 Ow:Ek o=true/\o.length<=1/\∀u∈o,u.Data.length<=2
def Jn {l:O Int}(h:PL l):C5 [⟨false,l⟩]=true/\[(⟨false,l⟩:r8)].length<=2/\∀s ∈ [(⟨false,l⟩:r8)],s.qv.length<=10:=⟨h.v1,by simp,by simpa using h.len⟩
def LW:Ek []=true/\([]:O gL).length<=1/\∀u∈([]:O gL),u.Data.length<=2:=⟨rfl,by simp,by simp⟩
def dL {x:Int}(h:1<=x/\x<=4294967295):CS x=true:=by unfold CS;rw[Xa4 h.1,Xa4 h.2];rfl
def Zs {d:tx}{n:Int}{b:I}(F:Dk d)(hn:101<=n/\n<=105):Ok (Ee d n b) λr=>(Fb r.1=true/\r.1.o3≠-1/\GA b r.1.Path r.1.Next.V6 r.1.Next.Hi r.1.Next.Lo r.1.oE/\r.1.fT.length<=8/\r.1.iX.length<=7)/\Dk r.2:=by
 unfold Ee;rw[Zb,AA];dsimp only;refine .bind (AN F (by omega)) ?_;rintro⟨og,d⟩ ⟨aj,ak,F⟩;dsimp only at aj ak F⊢;refine .bind (AN F (by omega)) ?_;rintro⟨m,d⟩ ⟨m1,m2,F⟩;dsimp only at m1 m2 F⊢;refine .join (λx:tx×O Int=>Dk x.1/\x.2≠[]/\x.2.length<=5/\∀y∈x.2,CS y=true) (λk P=>?_) ?_
 ·refine .Dr (λs:Int×tx×O Int=>0<=s.1/\s.1<=3/\Dk s.2.1/\s.2.2≠[]/\s.2.2.length+s.1.toNat<=5/\∀y∈s.2.2,CS y=true) (λs=>s.1.toNat) ⟨m1,by dsimp only;omega,F,by simp,by simp;omega,by simpa using dL (by omega)⟩ (BE (by dsimp only;omega)) ?_;rintro next ⟨i,d,l⟩ ⟨i1,i2,F,V,l2,Q⟩ al
  dsimp only at i1 i2 F V l2 Q⊢;refine .ite (λhc=>.bind (AN F (by omega)) ?_) λ_=>P _ ⟨F,V,by dsimp only;omega,Q⟩;rintro⟨c,d⟩ ⟨c1,c2,F⟩;simp only[Xy] at hc;dsimp only at c1 c2 F⊢;refine .bind (.gN (by simp;omega)) λv hv=>.bind (.gO (by decide) (by simp;omega)) λw J=>?_;rw[AK (by omega)];have an:CS v=true:=by have h1:=hv.1;simp only[Xa7,Xc3,Xez] at h1;exact dL (by omega)
  exact al _ ⟨by dsimp only;omega,by dsimp only;omega,F,by rw[J];simp,by rw[J];simp;omega,λy hy=>by
   rw[J] at hy;rcases X20.1 hy with h|h
   ·exact Q y h
   rw[X11.1 h];exact an⟩ (by dsimp only;omega)
 rintro⟨d,l⟩ ⟨F,V,l2,Q⟩;dsimp only at F V l2 Q⊢;have M:PL l:=⟨V,by omega,Q⟩;refine .bind (Z4 hn b) λU K=>.bind (AN F (by omega)) ?_;rintro⟨c,d⟩ ⟨_,_,F⟩;dsimp only at F⊢;refine .join (λx:tx×Int=>Dk x.1/\-1<=x.2/\x.2<=3) (λk P=>.ite (λ_=>.bind (AN F (by omega)) λ⟨y,d⟩ ⟨y1,y2,F⟩=>P _ ⟨F,by dsimp only at y1⊢;omega,by dsimp only at y2⊢;omega⟩) λ_=>P _ ⟨F,by dsimp only;omega,by dsimp only;omega⟩) ?_;rintro⟨d,ay⟩ ⟨F,ao,ap⟩;dsimp only at F ao ap⊢;refine .bind (AN F (by omega)) ?_;rintro⟨c,d⟩ ⟨_,_,F⟩;dsimp only at F⊢;refine .join (λx:tx×Int=>Dk x.1/\-1<=x.2/\x.2<=300) (λk P=>.ite (λ_=>.bind (AN F (by omega)) λ⟨y,d⟩ ⟨y1,y2,F⟩=>P _ ⟨F,by dsimp only at y1⊢;omega,by dsimp only at y2⊢;omega⟩) λ_=>P _ ⟨F,by dsimp only;omega,by dsimp only;omega⟩) ?_;rintro⟨d,pref⟩ ⟨F,aq,ar⟩;dsimp only at F aq ar⊢;refine .bind (j8 F) ?_;rintro⟨co,d⟩ ⟨Y,Z,F⟩;dsimp only at Y Z F⊢;refine .bind (ji F) ?_;rintro⟨la,d⟩ ⟨a6,a7,F⟩;dsimp only at a6 a7 F⊢;refine .bind (AN F (by omega)) ?_;rintro⟨q,d⟩ ⟨_,_,F⟩;dsimp only at F⊢;have g0:GA b [⟨false,l⟩] U.V6 U.Hi U.Lo []:=⟨Jn M,K,LW⟩;refine .join (λx:tx×O r8×I×j×j×Int×O gL=>Dk x.1/\GA b x.2.1 x.2.2.1 x.2.2.2.1 x.2.2.2.2.1 x.2.2.2.2.2.2/\(x.2.2.2.2.2.1=-1\/CS x.2.2.2.2.2.1=true)) (λk P=>?_) ?_
 ·refine .ite (λ_=>.bind (AN F (by omega)) λ⟨y,d⟩ ⟨y1,y2,F⟩=>P _ ⟨F,g0,.inr (by dsimp only at y1 y2⊢;rw[AK (by omega)];exact dL (by omega))⟩) λ_=>?_;refine .join (λx:tx×O r8×I×j×j×O gL=>Dk x.1/\GA b x.2.1 x.2.2.1 x.2.2.2.1 x.2.2.2.2.1 x.2.2.2.2.2) (λk2 a8=>?_) λx H=>P _ ⟨H.1,H.2,.inl rfl⟩;have ax:0<l.length:=Xbi.2 V;refine .ite (λ_=>.bind (.gN (by omega)) λ_ _=>.bind (.Bu (by omega)) λw J=>a8 _ ⟨F,⟨Jn ⟨?_,?_,?_⟩,K,LW⟩⟩) λ_=>?_
  ·intro e;have:=J.2;rw[e] at this;simp at this;omega
  ·have:=J.2;omega
  ·intro x H;rw[J.1] at H;rcases List.mem_or_eq_of_mem_set H with h|h
   ·exact Q x h
   rw[h];decide
  refine .join (λx:tx×O r8×I×j×j×O gL=>Dk x.1/\GA b x.2.1 x.2.2.1 x.2.2.2.1 x.2.2.2.2.1 x.2.2.2.2.2) (λk3 aa=>?_) λx H=>a8 _ H;refine .ite (λ_=>aa _ ⟨F,⟨⟨M.v2,by simp,λs hs=>?_⟩,K,LW⟩⟩) λ_=>?_
  ·simp only[Xa7,Xc3,Xez] at hs;rcases hs with rfl|rfl
   ·exact M.len
   decide
  refine .join (λx:tx×O r8×I×j×j×O gL=>Dk x.1/\GA b x.2.1 x.2.2.1 x.2.2.2.1 x.2.2.2.2.1 x.2.2.2.2.2) (λk4 ab=>?_) λx H=>aa _ H;refine .ite (λ_=>.bind (.gO (by decide) (by simp;omega)) λw J=>ab _ ⟨F,⟨Jn ⟨by rw[J];simp,by rw[J];simp;omega,λx H=>?_⟩,K,LW⟩⟩) λ_=>?_
  ·rw[J] at H;rcases X20.1 H with h|h
   ·exact Q x h
   rw[X11.1 h];decide
  refine .join (λx:tx×O r8×I×j×j×O gL=>Dk x.1/\GA b x.2.1 x.2.2.1 x.2.2.2.1 x.2.2.2.2.1 x.2.2.2.2.2) (λk5 ae=>?_) λx H=>ab _ H;refine .ite (λ_=>.bind (Z4 (by omega) b) λp2 au=>ae _ ⟨F,⟨Jn M,au,LW⟩⟩) λ_=>?_;refine .join (λx:tx×O r8×O gL=>Dk x.1/\GA b x.2.1 U.V6 U.Hi U.Lo x.2.2) (λk6 af=>?_) λx H=>ae _ H;refine .ite (λ_=>.bind (.gO (by decide) (by simp;omega)) λw J=>af _ ⟨F,⟨Jn ⟨by rw[J];simp,by rw[J];simp;omega,λx H=>?_⟩,K,LW⟩⟩) λ_=>?_
  ·rw[J] at H;rcases X20.1 H with h|h
   ·exact Q x h
   simp only[Xa7,Xc3,Xez] at h;rcases h with rfl|rfl<;>decide
  refine .join (λx:tx×O r8×O gL=>Dk x.1/\GA b x.2.1 U.V6 U.Hi U.Lo x.2.2) (λk7 ag=>?_) λx H=>af _ H;refine .ite (λ_=>ag _ ⟨F,⟨⟨by show C5 []=true;decide,by simp,by simp⟩,K,LW⟩⟩) λ_=>?_;refine .join (λx:tx×O gL=>Dk x.1/\Ek x.2=true/\x.2.length<=1/\∀u∈x.2,u.Data.length<=2) (λk8 ah=>?_) λx H=>ag _ ⟨H.1,⟨Jn M,K,H.2⟩⟩;refine .ite (λ_=>.bind (AN F (by omega)) λ⟨y,d⟩ ⟨y1,y2,F⟩=>ah _ ⟨F,?_,by simp,by simp⟩) λ_=>ah _ ⟨F,LW⟩;rfl
 rintro⟨d,p,v6,hi,lo,ot,o⟩ ⟨F,g,ai⟩;dsimp only at F g ai⊢;refine .ret ⟨⟨?_,by show og≠-1;omega,g,Z,a7⟩,F⟩;unfold Fb;dsimp only;rw[g.Ow.1,g.path.1,g.next.1,Y,a6,Xa4 (by omega),Xa4 (by omega),Xa4 (by omega),Xa4 (p:=o.length<=8) (by have:=g.Ow.2.1;omega)];rcases ai with e|e
 ·rw[e];rfl
 rw[e];cases decide (ot=-1)<;>rfl
end Go.AX.Q33
end
