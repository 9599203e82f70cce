/-
  Texts of one proof, packed.
-/
import Derived.Test.YtgbncopbacigiaaGreatDoorD23
set_option linter.all false
set_option maxRecDepth 100000
set_option maxHeartbeats 4000000
open List renaming length_map→X10,length_append→X11,length_cons→X12,length_nil→X13,mem_singleton→X14,getElem?_eq_getElem→X15,getElem?_eq_some_iff→X16,length_drop→X17,length_take→X18,mem_cons_of_mem→X19,length_replicate→X20,length_set→X21,mem_append→X23
open Option.some renaming inj→X25
open Bool renaming and_eq_true→X27
open Nat renaming mul_le_mul_right→X31
open List renaming take→Xaq
section
namespace Go.AX.Q29
open Go Go.AX Go.AX.sN
def lq {α ρ:Type}{l m:O α}(H:l.length=m.length){c:α->α->I}(J :∀x y,c x y=true↔x=y){r:C ρ}{K:Unit->C ρ}{body:(Unit->C ρ)->α->Nat->Unit->C ρ} (P :∀(next:Unit->C ρ) (i:Nat) x y,iX m (i:Int)=some y->body next x i ()=if c x y=true then next () else r) :∃e:I,(e=true↔l=m)/\AI K body l 0 ()=if e=true then K () else r:=by
 refine⟨!M7 (λi x=>!((m[i]?).map (c x)).getD true) l 0,?_,?_⟩
 ·rw[Xb7,JA];constructor
  ·intro h;apply List.ext_getElem?;intro i;cases F:l[i]? with
   | none=>rw[List.getElem?_eq_none_iff] at F;rw[eq_comm,List.getElem?_eq_none_iff];omega
   | some x=>have Q:=(X16.1 F).1;have:=h i x F;rw[Xan,X15 (by omega)] at this;rw[X15 (by omega),(J x _).1 (by simpa using this)]
  rintro rfl j x F;rw[Xan,F];simp[(J x x).2 rfl]
 rw[fW (bad:=λi x=>!((m[i]?).map (c x)).getD true) (st:=λ_ _=>()) (r:=r) (λnext i x s F=>by
  cases s;have Q:=(X16.1 F).1;have M:m[i]?=some (m[i]'(by omega)):=X15 (by omega);rw[P next i x _ (FI M),M];show _=if (!c x (m[i]'(by omega)))=true then r else next ()
  cases c x (m[i]'(by omega))<;>rfl)]
 cases M7 (λi x=>!((m[i]?).map (c x)).getD true) l 0<;>rfl
def Ok.xr {α ρ:Type}{l m:O α}{Q:ρ->Prop}{K:Unit->C ρ}{body:(Unit->C ρ)->α->Nat->Unit->C ρ}(c:α->α->I)(r:C ρ)(F:l.length=m.length)(J :∀x y,c x y=true↔x=y) (M :∀(next:Unit->C ρ) (i:Nat) x y,iX m (i:Int)=some y->body next x i ()=if c x y=true then next () else r) (P:l≠m->Ok r Q) (U:l=m->Ok (K ()) Q):Ok (AI K body l 0 ()) Q:=by obtain⟨e,H,V⟩:=lq F J (K:=K) M;rw[V];exact .ite (λh=>U (H.1 h)) λh=>P λY=>h (H.2 Y)
def cS (x y:oF):I:=(x.Set==y.Set)&&decide (x.n7=y.n7)
def cR (x y:oF):cS x y=true↔x=y:=by unfold cS;cases x;cases y;simp
def cU (x y:kI):I:=(x.Flags==y.Flags)&&((x.oA==y.oA)&&decide (x.Data=y.Data))
def dl (x y:kI):cU x y=true↔x=y:=by unfold cU;cases x;cases y;simp
def VJ (x y:r8):r8.rO x y=true↔x=y:=by unfold r8.rO;cases x;cases y;simp
def WF (x y:n8):n8.rO x y=true↔x=y:=by unfold n8.rO;cases x;cases y;simp[Xdn]
def Rm (a b:gH):Ok (B6 a b) λv=>v=true↔a=b:=by
 unfold B6;have ne :∀{p:Prop},p->(a=b->¬ p)->Ok (some false) λv=>v=true↔a=b:=λhp h=>.ret ⟨λe=>(by cases e),λe=>absurd hp (h e)⟩;refine .join (λv=>(v=true->a≠b)/\(v=false->a.gS=b.gS/\a.Next=b.Next/\a.sd=b.sd/\a.rh=b.rh/\a.rX=b.rX/\a.Path.length=b.Path.length/\a.fT.length=b.fT.length/\a.n8.length=b.n8.length/\a.lf.length=b.lf.length)) (λk F=>?_) λv J=>?_
 ·refine .ite (λh=>F _ ⟨λ_ e=>by rw[e] at h;simp at h,λe=>(by cases e)⟩) λK=>?_;refine .ite (λh=>F _ ⟨λ_ e=>by rw[e,Addr.u5] at h;simp at h,λe=>(by cases e)⟩) λM=>?_;refine .ite (λh=>F _ ⟨λ_ e=>by rw[e] at h;simp at h,λe=>(by cases e)⟩) λP=>?_;refine .ite (λh=>F _ ⟨λ_ e=>by rw[e] at h;simp at h,λe=>(by cases e)⟩) λQ=>?_;refine .ite (λh=>F _ ⟨λ_ e=>by rw[e] at h;simp at h,λe=>(by cases e)⟩) λU=>?_;refine .ite (λh=>F _ ⟨λ_ e=>by rw[e] at h;simp at h,λe=>(by cases e)⟩) λV=>?_;refine .ite (λh=>F _ ⟨λ_ e=>by rw[e] at h;simp at h,λe=>(by cases e)⟩) λY=>?_;refine .ite (λh=>F _ ⟨λ_ e=>by rw[e] at h;simp at h,λe=>(by cases e)⟩) λZ=>?_;refine F _ ⟨λh e=>by rw[e] at h;simp at h,λh9=>?_⟩;refine⟨by simpa using K,(Addr.rb _ _).1 (by simpa using M),by simpa using P,by simpa using Q,by simpa using U,(by have q:(a.Path.length:Int)=b.Path.length:=(by simpa using V);omega),(by have q:(a.fT.length:Int)=b.fT.length:=(by simpa using Y);omega),(by have q:(a.n8.length:Int)=b.n8.length:=(by simpa using Z);omega),(by have q:(a.lf.length:Int)=b.lf.length:=(by simpa using h9);omega)⟩
 refine .ite (λh=>.ret ⟨λe=>(by cases e),λe=>absurd e (J.1 h)⟩) λh=>?_;obtain⟨a1,a2,a3,a4,a5,l1,l2,l3,l4⟩:=J.2 (by simpa using h);rw[AB]
 refine Ok.xr (m:=b.Path) cS (some false) l1 cR (λnext i x y H=>by
  rw[AB,H,AA,AA,Ob];unfold cS
  cases x.Set==y.Set<;>cases decide (x.n7=y.n7)<;>rfl) (λq=>.ret ⟨λe=>(by cases e),λe=>absurd (by rw[e]) q⟩) λb1=>?_
 show Ok (AC _ _) _;rw[AB]
 refine Ok.xr (m:=b.fT) r8.rO (some false) l2 VJ (λnext i x y H=>by
  rw[H,AA]
  cases r8.rO x y<;>rfl) (λq=>.ret ⟨λe=>(by cases e),λe=>absurd (by rw[e]) q⟩) λb2=>?_
 show Ok (AC _ _) _;rw[AB]
 refine Ok.xr (m:=b.n8) n8.rO (some false) l3 WF (λnext i x y H=>by
  rw[H,AA]
  cases n8.rO x y<;>rfl) (λq=>.ret ⟨λe=>(by cases e),λe=>absurd (by rw[e]) q⟩) λb3=>?_
 show Ok (AC _ _) _;rw[AB]
 refine Ok.xr (m:=b.lf) cU (some false) l4 dl (λnext i x y H=>by
  rw[AB,H,AA,AA,AA,SB,SB];unfold cU;have e:(x.Data==y.Data)=decide (x.Data=y.Data):=by
   by_cases h:x.Data=y.Data
   ·rw[h];simp
   rw[Ws h];simpa using h
  rw[e]
  cases hf:x.Flags==y.Flags<;>cases ht:x.oA==y.oA<;>cases decide (x.Data=y.Data)<;>simp[bne,hf,ht]) (λq=>.ret ⟨λe=>(by cases e),λe=>absurd (by rw[e]) q⟩) λb4=>?_
 refine .ret ⟨λ_=>?_,λ_=>rfl⟩;cases a;cases b;simp_all
def Ok.wZ {α:Type}{l m:O α}{body:(Unit->C I)->α->Nat->Unit->C I}(c:α->α->I)(F :∀x y,c x y=true↔x=y) (H :∀(next:Unit->C I) (i:Nat) x y,iX m (i:Int)=some y->body next x i ()=if c x y=true then next () else some false) : Ok (if ((l.length:Int) !=(m.length:Int))=true then some false else AC (τ:=Unit) (λJ=>AI (σ:=Unit) (λ_=>J ()) body l 0 ()) λ_=>some true) λv=>v=true↔l=m:=by
 refine .ite (λh=>.ret ⟨λe=>(by cases e),λe=>by rw[e] at h;simp at h⟩) λh=>?_;have K:l.length=m.length:=by have q:(l.length:Int)=m.length:=(by simpa using h);omega
 rw[AB];exact Ok.xr (m:=m) c (some false) K F H (λq=>.ret ⟨λe=>(by cases e),λe=>absurd e q⟩) λq=>.ret ⟨λ_=>q,λ_=>rfl⟩
def mL (l m:O Int):Ok (Bw l m) λv=>v=true↔l=m:=by unfold Bw;exact Ok.wZ (λx y=>x==y) (λx y=>by simp) λnext i x y F=>by rw[F,AA];cases h:x==y<;>simp[bne,h]
def jA (l m:O S):Ok (BW l m) λv=>v=true↔l=m:=by
 unfold BW
 exact Ok.wZ (λx y=>(x.toNat:Int)==(y.toNat:Int)) (λx y=>by
  rw[Xbi]
  exact⟨λh=>UInt8.toNat_inj.1 (by omega),λh=>by rw[h]⟩) λnext i x y F=>by
  rw[F,AA];cases h:(x.toNat:Int)==(y.toNat:Int)<;>simp only[bne,h]<;>rfl
def kO (l m:O r8):Ok (Af l m) λv=>v=true↔l=m:=by unfold Af;exact Ok.wZ r8.rO VJ λnext i x y F=>by rw[F,AA];cases h:r8.rO x y<;>simp[h]
def fJ (l m:O n8):Ok (Au l m) λv=>v=true↔l=m:=by unfold Au;exact Ok.wZ n8.rO WF λnext i x y F=>by rw[F,AA];cases h:n8.rO x y<;>simp[h]
def Ok.val {m:C I}{p:Prop}[Decidable p](h:Ok m λv=>v=true↔p):m=some (decide p):=by
 obtain⟨v,H,F⟩:=h;rw[H];congr 1;by_cases hp:p
 ·rw[Wd hp];exact F.2 hp
 rw[Ws hp];cases v
 ·rfl
 exact absurd (F.1 rfl) hp
def nC (x y:oF):En x y=some (cS x y):=by unfold En cS;rw[AB,Ok.val (mL x.n7 y.n7),AA];cases x.Set==y.Set<;>rfl
def mj (x y:kI):Ej x y=some (cU x y):=by unfold Ej cU;rw[AB,Ok.val (jA x.Data y.Data),AA];cases x.Flags==y.Flags<;>cases x.oA==y.oA<;>rfl
def ma (l m:O oF):Ok (AM l m) λv=>v=true↔l=m:=by unfold AM;exact Ok.wZ cS cR λnext i x y F=>by rw[F,AA,nC,AA];cases h:cS x y<;>simp[h]
def mJ (l m:O kI):Ok (AL l m) λv=>v=true↔l=m:=by unfold AL;exact Ok.wZ cU dl λnext i x y F=>by rw[F,AA,mj,AA];cases h:cU x y<;>simp[h]
def Xl (a b:gH):Ok (Gm a b) λv=>v=true↔a=b:=by
 unfold Gm;refine .join (λv=>v=true↔a=b) (λk F=>?_) λv P=>.ret P;have no:(a=b->False)->Ok (k false) λv=>v=true↔a=b:=λh=>F false ⟨λe=>(by cases e),λe=>(h e).elim⟩;refine .ite (λQ=>?_) λh=>no λe=>h (by rw[e];simp);refine .ite (λU=>?_) λh=>no λe=>h (by rw[e];exact Addr.u5 _);refine .ite (λV=>?_) λh=>no λe=>h (by rw[e];simp);refine .ite (λY=>?_) λh=>no λe=>h (by rw[e];simp);refine .ite (λZ=>?_) λh=>no λe=>h (by rw[e];simp);refine .bind (ma _ _) λv6 H=>.ite (λq6=>?_) λh=>no λe=>h (H.2 (by rw[e]));refine .bind (kO _ _) λv7 J=>.ite (λq7=>?_) λh=>no λe=>h (J.2 (by rw[e]));refine .bind (fJ _ _) λv8 K=>.ite (λq8=>?_) λh=>no λe=>h (K.2 (by rw[e]));refine .bind (mJ _ _) λv9 M=>F _ ⟨λq9=>?_,λe=>M.2 (by rw[e])⟩;have b1:a.gS=b.gS:=by simpa using Q
 have b2:a.Next=b.Next:=(Addr.rb _ _).1 U;have b3:a.sd=b.sd:=by simpa using V
 have b4:a.rh=b.rh:=by simpa using Y
 have b5:a.rX=b.rX:=by simpa using Z
 have b6:=H.1 q6;have b7:=J.1 q7;have b8:=K.1 q8;have b9:=M.1 q9;cases a;cases b;simp_all
def K1 (a b:gD):Ok (Aw a b) λv=>v=true↔a=b:=by
 unfold Aw;refine .join (λv=>v=true↔a=b) (λk F=>?_) λv J=>.ret J;have no:(a=b->False)->Ok (k false) λv=>v=true↔a=b:=λh=>F false ⟨λe=>(by cases e),λe=>(h e).elim⟩;refine .ite (λK=>?_) λh=>no λe=>h (by rw[e];exact (fv.rb _ _).2 rfl);refine .ite (λM=>?_) λh=>no λe=>h (by rw[e];simp);refine .bind (Rm _ _) λP H=>F _ ⟨λq3=>?_,λe=>H.2 (by rw[e])⟩;have b1:=(fv.rb _ _).1 K;have b2:a.rT=b.rT:=by simpa using M
 have b3:=H.1 q3;cases a;cases b;simp_all
def XA (a b:gD):Ok (FU a b) λv=>v=true↔a=b:=by
 unfold FU;refine .join (λv=>v=true↔a=b) (λk F=>?_) λv J=>.ret J;have no:(a=b->False)->Ok (k false) λv=>v=true↔a=b:=λh=>F false ⟨λe=>(by cases e),λe=>(h e).elim⟩;refine .ite (λK=>?_) λh=>no λe=>h (by rw[e];exact (fv.rb _ _).2 rfl);refine .ite (λM=>?_) λh=>no λe=>h (by rw[e];simp);refine .bind (Xl _ _) λP H=>F _ ⟨λq3=>?_,λe=>H.2 (by rw[e])⟩;have b1:=(fv.rb _ _).1 K;have b2:a.rT=b.rT:=by simpa using M
 have b3:=H.1 q3;cases a;cases b;simp_all
def Dl (a b:gD):I:=(Aw a b).getD false
def Ry (a b:gD):Aw a b=some (Dl a b):=by obtain⟨v,h,_⟩:=K1 a b;unfold Dl;rw[h];rfl
def SJ (a b:gD):Dl a b=true↔a=b:=by obtain⟨v,h,F⟩:=K1 a b;unfold Dl;rw[h];exact F
def YJ (a b:gD):FU a b=some (Dl a b):=by obtain⟨v,h,F⟩:=XA a b;rw[h];congr 1;have:=SJ a b;cases v<;>cases H:Dl a b<;>simp_all
def Fz (b:pk)(p:fv):gD×I:=eT (G5 b.gN p)
def Zz {o:oB}(h:NW o):Xz o=true:=by
 obtain⟨H,J,K,P⟩:=h;unfold Xz;simp only[X27,Xe];refine⟨(HF _).2 H.vO,⟨?_,?_⟩,K,by omega⟩
 ·rcases H.2 with ⟨M,F⟩|⟨M,F⟩<;>rcases J with ⟨q1,q2⟩|⟨q1,q2⟩
  ·omega
  ·rw[F] at q2;cases q2
  ·rw[F] at q2;cases q2
  omega
 rcases J with ⟨q1,q2⟩|⟨q1,q2⟩<;>rw[q1,q2]<;>decide
def MF.zA {f:mu}(h:MF f):TS f=true:=by
 have J:f.rU.all B8=true:=by rw[h.vW];decide +kernel
 have K:f.r7.all B8=true:=by rw[Wo];exact λp hp=>(HF _).2 (h.yj.2 p hp).vO
 have M:f.oE.all xk=true:=by rw[h.wK];decide
 have F:f.rI.all Bt=true:=by rw[Wo];intro x P;have:=h.free.2 x P;unfold Bt;rw[Wd (by omega),Wd (by omega)];rfl
 have H:f.n9.all Xz=true:=by rw[Wo];exact λo Q=>Zz (h.vS.2 o Q)
 obtain⟨U,V,Y,Z,m5,m6⟩:=h.yy;unfold TS;rw[J,K,M,F,H,h.z6,h.own,U,V,Y,Z,m5,m6,h.vW,h.wK];have a1:decide ((f.r7.length:Int)>64)=false:=Ws (by have:=h.yj.1;omega);have a2:decide ((f.rI.length:Int)>64)=false:=Ws (by have:=h.free.1;omega);have a3:decide ((f.n9.length:Int)>512)=false:=Ws (by have:=h.vS.1;omega);have a4:decide (1<=f.rV)=true:=Wd (by have:=h.w5;omega);have a5:decide (f.rV<=60)=true:=Wd (by have:=h.w5;omega);rw[a1,a2,a3,a4,a5];decide
def dq {α:Type}:O α->O (O α)
 | []=>[[]]
 | x::t=>dq t++(dq t).map (x::·)
def Wm {α:Type}{l m:O α}(h:l.Sublist m):l∈dq m:=by
 induction h with
 | slnil=>exact X14.2 rfl
 | cons a _ F=>exact List.mem_append_left _ F
 | cons_cons a _ F=>exact List.mem_append_right _ (Xa0.2 ⟨_,F,rfl⟩)
def ZO {α:Type}{l m:O α}{i:Nat}{x:α}(h:l.Sublist (m.take i))(F:m[i]?=some x):l.Sublist (m.take (i+1))/\(l++[x]).Sublist (m.take (i+1)):=by rw[Ih F];exact⟨h.trans (List.sublist_append_left _ _),List.Sublist.append h (List.Sublist.refl _)⟩
def aH {d:oX}(F:Dk d):Ok (Bm d) λr=>IG r.1=true/\r.1.length<=8/\Dk r.2:=by
 unfold Bm;refine .bind (AK F (by omega)) ?_;rintro⟨a,d⟩ ⟨_,_,F⟩;dsimp only at F⊢;refine .join (λx:oX×O r8=>Dk x.1/\x.2.Sublist ([⟨0,99⟩,⟨0,101⟩,⟨0,102⟩,⟨99,101⟩,⟨99,103⟩,⟨500,1⟩,⟨65535,666⟩,⟨65535,65282⟩]:O r8)) (λk V=>?_) (λ⟨d,l⟩ ⟨F,H⟩=>.ret ⟨?_,by have:=H.length_le;simpa using this,F⟩)
 ·refine .tn (λi (x:oX×O r8)=>Dk x.1/\x.2.Sublist (Xaq i ([⟨0,99⟩,⟨0,101⟩,⟨0,102⟩,⟨99,101⟩,⟨99,103⟩,⟨500,1⟩,⟨65535,666⟩,⟨65535,65282⟩]:O r8))) ⟨F,by simp⟩ (λx K=>V _ ⟨K.1,by simpa using K.2⟩) ?_;rintro next x i ⟨d,l⟩ K ⟨F,H⟩ P
  have Y:i<8:=(X16.1 K).1;have Q:l.length<=8:=by have:=H.length_le;rw[X18] at this;simp at this;omega
  dsimp only at F H⊢;have U:=ZO H K;refine .join (λx:I×oX=>Dk x.2) (λk2 J=>.ite (λ_=>.ite (λ_=>J _ F) λ_=>.bind (AK F (by omega)) ?_) λ_=>J _ F) ?_
  ·rintro⟨b,d⟩ ⟨_,_,F⟩;exact J _ F
  rintro⟨c,d⟩ F;dsimp only at F⊢;refine .join (λZ:O r8=>Z.Sublist _) (λk3 M=>.ite (λ_=>.bind (.gE (by decide) (by simp;omega)) λw hw=>M _ (by rw[hw];exact U.2)) λ_=>M _ U.1) λl H=>P _ ⟨F,H⟩
 exact Wo.1 (show (dq ([⟨0,99⟩,⟨0,101⟩,⟨0,102⟩,⟨99,101⟩,⟨99,103⟩,⟨500,1⟩,⟨65535,666⟩,⟨65535,65282⟩]:O r8)).all IG=true by kernel_rfl) _ (Wm H)
def Zu {d:oX}(J:Dk d):Ok (D1 d) λr=>II r.1=true/\r.1.length<=7/\Dk r.2:=by
 unfold D1;refine .bind (AK J (by omega)) ?_;rintro⟨a,d⟩ ⟨_,_,J⟩;dsimp only at J⊢;refine .join (λx:O n8=>x.Sublist ([⟨5,5,5⟩,⟨99,0,0⟩,⟨99,0,103⟩,⟨99,1,102⟩,⟨99,101,0⟩,⟨99,102,104⟩,⟨99,103,101⟩]:O n8)) (λk U=>?_) (λl F=>.ret ⟨?_,by have:=F.length_le;simpa using this,J⟩)
 ·refine .tn (λi (x:O n8)=>x.Sublist (Xaq i ([⟨5,5,5⟩,⟨99,0,0⟩,⟨99,0,103⟩,⟨99,1,102⟩,⟨99,101,0⟩,⟨99,102,104⟩,⟨99,103,101⟩]:O n8))) (by simp) (λx K=>U _ (by simpa using K)) ?_;intro next x i l K F M
  have V:i<7:=(X16.1 K).1;have P:l.length<=7:=by have:=F.length_le;rw[X18] at this;simp at this;omega
  have Q:=ZO F K;refine .join (λY:O n8=>Y.Sublist _) (λk3 H=>.ite (λ_=>.bind (.gE (by decide) (by simp;omega)) λw Z=>H _ (by rw[Z];exact Q.2)) λ_=>H _ Q.1) λl F=>M _ F
 exact Wo.1 (show (dq ([⟨5,5,5⟩,⟨99,0,0⟩,⟨99,0,103⟩,⟨99,1,102⟩,⟨99,101,0⟩,⟨99,102,104⟩,⟨99,103,101⟩]:O n8)).all II=true by kernel_rfl) _ (Wm F)
structure PL (l:List Int):Prop where
 ne:l≠[]
 len:l.length<=10
 num :∀x∈l,Bt x=true
def WG {α:Type}{r:α->α->I}(h :∀a b,r a b=true) :∀l:O α,rN r l=true
 | []=>rfl
 | [_]=>rfl
 | a::b::t=>by unfold rN;rw[h,WG h (b::t)];rfl
def PL.yF {l:O Int}(h:PL l):KF ⟨false,l⟩=true:=by have e:rN (λa b=>!(oF.mk false l).Set || tF a b) l=true:=WG (λ_ _=>rfl) l;have e1:l.all Bt=true:=Wo.2 h.num;have e2:decide (l.length≠0)=true:=Wd (by have:=h.ne;simpa using this);show (decide (l.length≠0)&&(l.all Bt&&rN (λa b=>!(oF.mk false l).Set || tF a b) l))=true;rw[e,e1,e2];rfl
def PL.v1 {l:O Int}(h:PL l):DW [⟨false,l⟩]=true:=by unfold DW;have:=h.len;rw[Wd (by simp[tg];omega)];simp[h.yF,rN]
def PL.v2 {l:O Int}(h:PL l):DW [⟨false,l⟩,⟨true,[7,9]⟩]=true:=by
 unfold DW;have:=h.len;rw[Wd (by simp[tg];omega)];have e:KF ⟨true,[7,9]⟩=true:=by decide +kernel
 simp[h.yF,e,rN,xo]
def WZ {n:Int}(h:101<=n/\n<=105)(b:I):Ok (DO n b) λa=>a.ok=true/\a.V6=b/\Addr.rO a ⟨false,0,0⟩=false:=by
 have:n=101\/n=102\/n=103\/n=104\/n=105:=by omega
 rcases this with rfl|rfl|rfl|rfl|rfl<;>cases b<;>exact⟨_,rfl,by show Addr.ok _=true;kernel_rfl,rfl,by kernel_rfl⟩
structure GA (b:Bool)(p:List oF)(v6:Bool)(hi lo:UInt64)(o:List kI):Prop where
 path:DW p=true/\p.length<=2/\∀s∈p,s.n7.length<=10
 next:(Addr.mk v6 hi lo).ok=true/\v6=b/\Addr.rO ⟨v6,hi,lo⟩ ⟨false,0,0⟩=false
 uL:EB o=true/\o.length<=1/\∀u∈o,u.Data.length<=2
def IY {l:O Int}(h:PL l):DW [⟨false,l⟩]=true/\[(⟨false,l⟩:oF)].length<=2/\∀s ∈ [(⟨false,l⟩:oF)],s.n7.length<=10:=⟨h.v1,by simp,by simpa using h.len⟩
def Jm:EB []=true/\([]:O kI).length<=1/\∀u∈([]:O kI),u.Data.length<=2:=⟨rfl,by simp,by simp⟩
def Xp {x:Int}(h:1<=x/\x<=4294967295):Bt x=true:=by unfold Bt;rw[Wd h.1,Wd h.2];rfl
def WM {d:oX}{n:Int}{b:I}(F:Dk d)(hn:101<=n/\n<=105):Ok (D6 d n b) λr=>(Eh r.1=true/\r.1.gS≠-1/\GA b r.1.Path r.1.Next.V6 r.1.Next.Hi r.1.Next.Lo r.1.lf/\r.1.fT.length<=8/\r.1.n8.length<=7)/\Dk r.2:=by
 unfold D6;rw[Qe,AA];dsimp only;refine .bind (AK F (by omega)) ?_;rintro⟨og,d⟩ ⟨ai,aj,F⟩;dsimp only at ai aj F⊢;refine .bind (AK F (by omega)) ?_;rintro⟨m,d⟩ ⟨m1,m2,F⟩;dsimp only at m1 m2 F⊢;refine .join (λx:oX×O Int=>Dk x.1/\x.2≠[]/\x.2.length<=5/\∀y∈x.2,Bt y=true) (λk P=>?_) ?_
 ·refine .sP (λs:Int×oX×O Int=>0<=s.1/\s.1<=3/\Dk s.2.1/\s.2.2≠[]/\s.2.2.length+s.1.toNat<=5/\∀y∈s.2.2,Bt y=true) (λs=>s.1.toNat) ⟨m1,by dsimp only;omega,F,by simp,by simp;omega,by simpa using Xp (by omega)⟩ (BK (by dsimp only;omega)) ?_;rintro next ⟨i,d,l⟩ ⟨i1,i2,F,V,l2,Q⟩ ak
  dsimp only at i1 i2 F V l2 Q⊢;refine .ite (λhc=>.bind (AK F (by omega)) ?_) λ_=>P _ ⟨F,V,by dsimp only;omega,Q⟩;rintro⟨c,d⟩ ⟨c1,c2,F⟩;simp only[Xe] at hc;dsimp only at c1 c2 F⊢;refine .bind (.iX (by simp;omega)) λv hv=>.bind (.gE (by decide) (by simp;omega)) λw J=>?_;rw[AN (by omega)];have al:Bt v=true:=by have h1:=hv.1;simp only[Wp,Xbf,Xdm] at h1;exact Xp (by omega)
  exact ak _ ⟨by dsimp only;omega,by dsimp only;omega,F,by rw[J];simp,by rw[J];simp;omega,λy hy=>by
   rw[J] at hy;rcases X23.1 hy with h|h
   ·exact Q y h
   rw[X14.1 h];exact al⟩ (by dsimp only;omega)
 rintro⟨d,l⟩ ⟨F,V,l2,Q⟩;dsimp only at F V l2 Q⊢;have M:PL l:=⟨V,by omega,Q⟩;refine .bind (WZ hn b) λU K=>.bind (AK F (by omega)) ?_;rintro⟨c,d⟩ ⟨_,_,F⟩;dsimp only at F⊢;refine .join (λx:oX×Int=>Dk x.1/\-1<=x.2/\x.2<=3) (λk P=>.ite (λ_=>.bind (AK F (by omega)) λ⟨y,d⟩ ⟨y1,y2,F⟩=>P _ ⟨F,by dsimp only at y1⊢;omega,by dsimp only at y2⊢;omega⟩) λ_=>P _ ⟨F,by dsimp only;omega,by dsimp only;omega⟩) ?_;rintro⟨d,ax⟩ ⟨F,an,ao⟩;dsimp only at F an ao⊢;refine .bind (AK F (by omega)) ?_;rintro⟨c,d⟩ ⟨_,_,F⟩;dsimp only at F⊢;refine .join (λx:oX×Int=>Dk x.1/\-1<=x.2/\x.2<=300) (λk P=>.ite (λ_=>.bind (AK F (by omega)) λ⟨y,d⟩ ⟨y1,y2,F⟩=>P _ ⟨F,by dsimp only at y1⊢;omega,by dsimp only at y2⊢;omega⟩) λ_=>P _ ⟨F,by dsimp only;omega,by dsimp only;omega⟩) ?_;rintro⟨d,wG⟩ ⟨F,ap,aq⟩;dsimp only at F ap aq⊢;refine .bind (aH F) ?_;rintro⟨co,d⟩ ⟨Y,Z,F⟩;dsimp only at Y Z F⊢;refine .bind (Zu F) ?_;rintro⟨la,d⟩ ⟨a1,a6,F⟩;dsimp only at a1 a6 F⊢;refine .bind (AK F (by omega)) ?_;rintro⟨q,d⟩ ⟨_,_,F⟩;dsimp only at F⊢;have g0:GA b [⟨false,l⟩] U.V6 U.Hi U.Lo []:=⟨IY M,K,Jm⟩;refine .join (λx:oX×O oF×I×j×j×Int×O kI=>Dk x.1/\GA b x.2.1 x.2.2.1 x.2.2.2.1 x.2.2.2.2.1 x.2.2.2.2.2.2/\(x.2.2.2.2.2.1=-1\/Bt x.2.2.2.2.2.1=true)) (λk P=>?_) ?_
 ·refine .ite (λ_=>.bind (AK F (by omega)) λ⟨y,d⟩ ⟨y1,y2,F⟩=>P _ ⟨F,g0,.inr (by dsimp only at y1 y2⊢;rw[AN (by omega)];exact Xp (by omega))⟩) λ_=>?_;refine .join (λx:oX×O oF×I×j×j×O kI=>Dk x.1/\GA b x.2.1 x.2.2.1 x.2.2.2.1 x.2.2.2.2.1 x.2.2.2.2.2) (λk2 a7=>?_) λx H=>P _ ⟨H.1,H.2,.inl rfl⟩;have au:0<l.length:=Xc7.2 V;refine .ite (λ_=>.bind (.iX (by omega)) λ_ _=>.bind (.sx (by omega)) λw J=>a7 _ ⟨F,⟨IY ⟨?_,?_,?_⟩,K,Jm⟩⟩) λ_=>?_
  ·intro e;have:=J.2;rw[e] at this;simp at this;omega
  ·have:=J.2;omega
  ·intro x H;rw[J.1] at H;rcases List.mem_or_eq_of_mem_set H with h|h
   ·exact Q x h
   rw[h];decide
  refine .join (λx:oX×O oF×I×j×j×O kI=>Dk x.1/\GA b x.2.1 x.2.2.1 x.2.2.2.1 x.2.2.2.2.1 x.2.2.2.2.2) (λk3 a8=>?_) λx H=>a7 _ H;refine .ite (λ_=>a8 _ ⟨F,⟨⟨M.v2,by simp,λs hs=>?_⟩,K,Jm⟩⟩) λ_=>?_
  ·simp only[Wp,Xbf,Xdm] at hs;rcases hs with rfl|rfl
   ·exact M.len
   decide
  refine .join (λx:oX×O oF×I×j×j×O kI=>Dk x.1/\GA b x.2.1 x.2.2.1 x.2.2.2.1 x.2.2.2.2.1 x.2.2.2.2.2) (λk4 aa=>?_) λx H=>a8 _ H;refine .ite (λ_=>.bind (.gE (by decide) (by simp;omega)) λw J=>aa _ ⟨F,⟨IY ⟨by rw[J];simp,by rw[J];simp;omega,λx H=>?_⟩,K,Jm⟩⟩) λ_=>?_
  ·rw[J] at H;rcases X23.1 H with h|h
   ·exact Q x h
   rw[X14.1 h];decide
  refine .join (λx:oX×O oF×I×j×j×O kI=>Dk x.1/\GA b x.2.1 x.2.2.1 x.2.2.2.1 x.2.2.2.2.1 x.2.2.2.2.2) (λk5 ab=>?_) λx H=>aa _ H;refine .ite (λ_=>.bind (WZ (by omega) b) λp2 ar=>ab _ ⟨F,⟨IY M,ar,Jm⟩⟩) λ_=>?_;refine .join (λx:oX×O oF×O kI=>Dk x.1/\GA b x.2.1 U.V6 U.Hi U.Lo x.2.2) (λk6 ae=>?_) λx H=>ab _ H;refine .ite (λ_=>.bind (.gE (by decide) (by simp;omega)) λw J=>ae _ ⟨F,⟨IY ⟨by rw[J];simp,by rw[J];simp;omega,λx H=>?_⟩,K,Jm⟩⟩) λ_=>?_
  ·rw[J] at H;rcases X23.1 H with h|h
   ·exact Q x h
   simp only[Wp,Xbf,Xdm] at h;rcases h with rfl|rfl<;>decide
  refine .join (λx:oX×O oF×O kI=>Dk x.1/\GA b x.2.1 U.V6 U.Hi U.Lo x.2.2) (λk7 af=>?_) λx H=>ae _ H;refine .ite (λ_=>af _ ⟨F,⟨⟨by show DW []=true;decide,by simp,by simp⟩,K,Jm⟩⟩) λ_=>?_;refine .join (λx:oX×O kI=>Dk x.1/\EB x.2=true/\x.2.length<=1/\∀u∈x.2,u.Data.length<=2) (λk8 ag=>?_) λx H=>af _ ⟨H.1,⟨IY M,K,H.2⟩⟩;refine .ite (λ_=>.bind (AK F (by omega)) λ⟨y,d⟩ ⟨y1,y2,F⟩=>ag _ ⟨F,?_,by simp,by simp⟩) λ_=>ag _ ⟨F,Jm⟩;rfl
 rintro⟨d,p,v6,hi,lo,ot,o⟩ ⟨F,g,ah⟩;dsimp only at F g ah⊢;refine .ret ⟨⟨?_,by show og≠-1;omega,g,Z,a6⟩,F⟩;unfold Eh;dsimp only;rw[g.uL.1,g.path.1,g.next.1,Y,a1,Wd (by omega),Wd (by omega),Wd (by omega),Wd (p:=o.length<=8) (by have:=g.uL.2.1;omega)];rcases ah with e|e
 ·rw[e];rfl
 rw[e];cases decide (ot=-1)<;>rfl
structure SV (b:Bool)(a:gH):Prop where
 v:Eh a=true
 o:a.gS≠-1
 n:a.Next.V6=b/\Addr.rO a.Next wE=false
 p:a.Path.length<=2/\∀s∈a.Path,s.n7.length<=10
 c:a.fT.length<=8
 l:a.n8.length<=7
 u :∀x∈a.lf,x.Data.length<=2
def kq {d:oX}{n:Int}(F:Dk d)(J:101<=n/\n<=105):Ok (D5 d n) λr=>(Cd r.1.fv/\SV r.1.fv.Addr.V6 r.1.gH)/\Dk r.2:=by unfold D5;refine .bind (HQ F) ?_;rintro⟨p,d⟩ ⟨hp,F⟩;dsimp only at hp F⊢;refine .bind (WM F J) ?_;rintro⟨a,d⟩ ⟨⟨K,M,H,P,Q⟩,F⟩;exact .ret ⟨⟨hp,K,M,⟨H.next.2.1,H.next.2.2⟩,H.path.2,P,Q,H.uL.2.2⟩,F⟩
def Tq {p:O oF}{n:Nat}(h :∀s∈p,s.n7.length<=n):tg p<=n*p.length:=by
 induction p with
 | nil=>exact Xd9 _
 | cons s t F=>have J:=F λx H=>h x (X19 _ H);have K:=h s (by simp);rw[ED,X12,Nat.mul_add];omega
def j8 {b:I}{a:gH}(s:SV b a){k:Int}{d:O S}(h:G a k=some d):d.length<=100:=by
 have F:=s.p.1;have H:=Tq s.p.2;have J:=s.c;have K:=s.l;unfold G at h;split at h
 ·split at h
  ·obtain rfl:=X25 h;simp
  cases h
 split at h
 ·split at h
  ·obtain rfl:=X25 h;rw[Nh];omega
  cases h
 split at h
 ·split at h
  ·obtain rfl:=X25 h;simp[b4]
  cases h
 split at h
 ·split at h
  ·obtain rfl:=X25 h;rw[LQ];omega
  cases h
 split at h
 ·split at h
  ·obtain rfl:=X25 h;rw[LQ];omega
  cases h
 split at h
 ·split at h
  ·obtain rfl:=X25 h;rw[OE];omega
  cases h
 split at h
 ·split at h
  ·obtain rfl:=X25 h;rw[Nb];omega
  cases h
 split at h
 ·split at h
  ·obtain rfl:=X25 h;rw[LQ];omega
  cases h
 cases h
def UZ {x:kI}(h:(0<=x.Flags/\x.Flags<=255)/\0<=x.oA/\x.oA<=255)(F:x.Data.length<=200):ve x=true:=by unfold ve;rw[Wd h.1.1,Wd h.1.2,Wd h.2.1,Wd h.2.2,Wd (by omega)];rfl
def dI {b:I}{a:gH}(s:SV b a){x:kI}(h:x∈uG a):ve x=true/\x.Data.length<=100:=by
 have v:=Nw.1 s.v;rcases (XI v.O).1 h with ⟨k,q⟩|q
 ·have H:=TD q;obtain⟨d,J,rfl⟩:=JE.1 q;have F:=j8 s J;have key :∀k∈NR,(0<=fl k/\fl k<=255)/\0<=k/\k<=255:=by decide
  exact⟨UZ (key k H) (by dsimp only;omega),F⟩
 have F:=s.u x q;obtain⟨_,K,M,P,_⟩:=Ge v.O q;exact⟨UZ ⟨by omega,by omega,by omega⟩ (by omega),by omega⟩
def nf {u:rZ}{b:I}(s:SV b u.gH)(gw :∀p∈u.qv,Cd p)(ga :∀p∈u.gT,Cd p)(w:u.qv.length<=3)(n:u.gT.length<=4):X1 u=true:=by
 have v:=Nw.1 s.v;have P:=CW (six:=true) gw;have Q:=CW (six:=false) gw;have U:=CW (six:=true) ga;have V:=CW (six:=false) ga;have hL:(uT u.gH.Next).length<=16:=by have:=(Pm v.n).2;have:=(xQ u.gH.Next).2;omega
 have K:(sB u).length<=16/\∀x∈sB u,ve x=true/\x.Data.length<=100:=by
  unfold sB;split
  ·exact⟨eE v,λx F=>dI s F⟩
  simp
 have M:(LY u).length<=17/\∀x∈LY u,ve x=true/\x.Data.length<=100:=by
  unfold LY;split
  ·refine⟨by rw[Hm];omega,λx F=>?_⟩;rcases HY.1 F with F|rfl
   ·exact K.2 x F
   have H:([0,2,1,16]++uT u.gH.Next++[0]++Bc true u.gT:O S).length<=100:=by simp only[X11,X12,X13];omega
   exact⟨UZ (by dsimp only;omega) (by dsimp only;omega),H⟩
  exact⟨by omega,K.2⟩
 have J:(If u).length<=18/\∀x∈If u,ve x=true/\x.Data.length<=100:=by
  unfold If;split
  ·refine⟨by rw[Hm];omega,λx F=>?_⟩;rcases HY.1 F with F|rfl
   ·exact M.2 x F
   have H:([0,2,1]++Bc true u.qv:O S).length<=100:=by simp only[X11,X12,X13];omega
   exact⟨UZ (by dsimp only;omega) (by dsimp only;omega),H⟩
  exact⟨by omega,M.2⟩
 have hj:=Nj (N:=100) λx F=>(J.2 x F).2;have Y:(If u).length*(100+4)<=18*104:=X31 _ J.1;have e:He (If u)=(HO (If u),0):=by unfold He;rw[Xy (Wo.2 λx F=>(J.2 x F).1),Xj (by omega)]
 unfold X1 EI;rw[e,Xj (by simp)];have t :∀n,(two n).length=2:=λn=>rfl;have Z:(Vd u (HO (If u))).length<=4077:=by unfold Vd;simp only[X11,t];omega
 rw[Wd Z];rfl
def UV (a:gH)(l:O fv):Prop:=(l=[]/\a=eA)\/(l≠[]/\l.length<=4/\∃b,SV b a/\∀p∈l,Cd p/\p.Addr.V6=b)
def SV.fit {b:I}{a:gH}(s:SV b a){p:fv}(h:p.Addr.V6=b):Tz a p=true:=by
 unfold Tz;rw[s.n.2,s.v,h,s.n.1];have:(a.gS !=-1)=true:=by simpa using s.o
 rw[this];cases b<;>rfl
def UV.valid {u:rZ}(h:UV u.gH u.gT)(gw :∀p∈u.qv,Cd p)(w:u.qv.length<=3):uv u/\Dq u=true:=by
 obtain⟨W,a,l⟩:=u;dsimp only at h gw w;rcases h with ⟨rfl,rfl⟩|⟨K,M,b,s,J⟩
 ·exact⟨⟨⟨by simp[eA],by simp[eA,tg],by simp[eA],by simp[eA],by simp[eA],by simp[eA]⟩,by dsimp only;omega,by simp⟩,mH gw (by omega)⟩
 have F:X1 ⟨W,a,l⟩=true:=nf (u:=⟨W,a,l⟩) s gw (λp hp=>(J p hp).1) w M;have H:l.all (Tz a)=true:=Wo.2 λp hp=>s.fit (J p hp).2
 have hg:(W++l).all JH=true:=Wo.2 λp hp=>(Im p).2.2 (by
  rcases X23.1 hp with q|q
  ·exact gw p q
  exact (J p q).1)
 refine⟨⟨(Nw.1 s.v).sm,by dsimp only;omega,by dsimp only;omega⟩,?_⟩;unfold Dq;dsimp only;rw[F,H,hg,Wd (p:=W.length<=256) (by omega),Wd (p:=l.length<=256) (by omega),Ws K];rfl
def fM {d:oX}{n:Int}(F:Dk d)(hn:101<=n/\n<=105):Ok (DV d n) λr=>(uv r.1/\Dq r.1=true/\UV r.1.gH r.1.gT)/\Dk r.2:=by
 unfold DV;rw[Qe,AA];refine .bind (AK F (by omega)) ?_;rintro⟨a,d⟩ ⟨a1,a2,F⟩;dsimp only at a1 a2 F⊢;refine .join (λq:oX×O fv=>Dk q.1/\q.2.length<=3/\∀p∈q.2,Cd p) (λk Z=>?_) ?_
 ·refine .sP (λq:Int×oX×O fv=>0<=q.1/\q.1+q.2.2.length<=3/\Dk q.2.1/\∀p∈q.2.2,Cd p) (λq=>q.1.toNat) ⟨a1,by dsimp only[X13];omega,F,by simp⟩ (BK (by dsimp only;omega)) ?_;rintro next ⟨i,d,l⟩ ⟨i1,i2,F,J⟩ P
  dsimp only at i1 i2 F J P⊢;refine .join (λq:I×oX=>(q.1=true->0<i)/\Dk q.2) (λk2 H=>.ite (λh=>?_) λh=>H _ ⟨λe=>(by cases e),F⟩) ?_
  ·refine .bind (AK F (by omega)) ?_;rintro⟨b,d⟩ ⟨b1,b2,F⟩;exact H _ ⟨λ_=>by simpa using h,F⟩
  rintro⟨b,d⟩ ⟨hb,F⟩;dsimp only at hb F⊢;refine .ite (λh=>?_) λh=>Z _ ⟨F,by dsimp only;omega,J⟩;have hi:=hb h;refine .bind (HQ F) ?_;rintro⟨p,d⟩ ⟨hp,F⟩;dsimp only at hp F⊢;refine .bind (.gE (by decide) (by simp;omega)) λw M=>P _ ⟨?_,?_,F,?_⟩ ?_
  ·dsimp only;rw[AN (by omega)];omega
  ·dsimp only;rw[AN (by omega),M];simp;omega
  ·intro q Q;rw[M] at Q;rcases X23.1 Q with h|h
   ·exact J q h
   rw[X14.1 h];exact hp
  dsimp only;rw[AN (by omega)];omega
 rintro⟨d,wd⟩ ⟨F,w1,w2⟩;dsimp only at F w1 w2⊢;refine .bind (AK F (by omega)) ?_;rintro⟨b,d⟩ ⟨b1,b2,F⟩;dsimp only at F⊢;refine .join (λq:oX×Int×(O oF)×I×j×j×Int×Int×Int×(O r8)×(O n8)×(O kI)×(O fv)=>Dk q.1/\UV ⟨q.2.1,q.2.2.1,⟨q.2.2.2.1,q.2.2.2.2.1,q.2.2.2.2.2.1⟩,q.2.2.2.2.2.2.1,q.2.2.2.2.2.2.2.1,q.2.2.2.2.2.2.2.2.1,q.2.2.2.2.2.2.2.2.2.1,q.2.2.2.2.2.2.2.2.2.2.1,q.2.2.2.2.2.2.2.2.2.2.2.1⟩ q.2.2.2.2.2.2.2.2.2.2.2.2) (λk Z=>?_) ?_
 ·refine .ite (λh=>?_) λh=>Z _ ⟨F,.inl ⟨rfl,rfl⟩⟩;refine .bind (kq F hn) ?_;rintro⟨r,d⟩ ⟨⟨U,V⟩,F⟩;dsimp only at U V F⊢;refine .bind (AK F (by omega)) ?_;rintro⟨c,d⟩ ⟨c1,c2,F⟩;dsimp only at c1 c2 F⊢;refine .join (λq:oX×O fv=>Dk q.1/\q.2≠[]/\q.2.length<=4/\∀p∈q.2,Cd p/\p.Addr.V6=r.fv.Addr.V6) (λk2 H=>?_) ?_
  ·refine .sP (λq:Int×oX×O fv=>0<=q.1/\q.1+q.2.2.length<=4/\q.2.2≠[]/\Dk q.2.1/\∀p∈q.2.2,Cd p/\p.Addr.V6=r.fv.Addr.V6) (λq=>q.1.toNat) ⟨c1,by simp;omega,by simp,F,by simpa using U⟩ (BK (by dsimp only;omega)) ?_;rintro next ⟨i,d,l⟩ ⟨i1,i2,i3,F,J⟩ P
   dsimp only at i1 i2 i3 F J P⊢;refine .ite (λh=>?_) λh=>H _ ⟨F,i3,by dsimp only;omega,J⟩;have hi:0<i:=by simpa using h
   refine .bind (HQ F) ?_;rintro⟨p,d⟩ ⟨hp,F⟩;dsimp only at hp F⊢;refine .join (λl':O fv=>l'.length<=l.length+1/\l'≠[]/\∀p∈l',Cd p/\p.Addr.V6=r.fv.Addr.V6) (λk3 Y=>.ite (λh=>?_) λh=>Y _ ⟨by omega,i3,J⟩) λl' K=>P _ ⟨?_,?_,K.2.1,F,K.2.2⟩ ?_
   ·refine .bind (.gE (by decide) (by simp;omega)) λw M=>Y _ ⟨by rw[M];simp,by rw[M];simp,λq Q=>?_⟩;rw[M] at Q;rcases X23.1 Q with h'|h'
    ·exact J q h'
    rw[X14.1 h'];exact⟨hp,by simpa using h⟩
   ·dsimp only;rw[AN (by omega)];omega
   ·dsimp only;rw[AN (by omega)];have:=K.1;omega
   dsimp only;rw[AN (by omega)];omega
  rintro⟨d,an⟩ ⟨F,n1,n2,n3⟩;exact Z _ ⟨F,.inr ⟨n1,n2,_,V,n3⟩⟩
 rintro⟨d,o,pa,nv,nh,nl,me,pr,ot,co,la,un,an⟩ ⟨F,hu⟩;obtain⟨g1,g2⟩:=UV.valid (u:=⟨wd,⟨o,pa,⟨nv,nh,nl⟩,me,pr,ot,co,la,un⟩,an⟩) hu w2 w1;exact .ret ⟨⟨g1,g2,hu⟩,F⟩
def IX {l:O gN}{h x:gN}:x∈G7 l h↔x=h\/(x∈l/\kH x≠kH h):=by
 unfold G7;simp only[X23,Xah,Wp,Xe];constructor
 ·rintro (⟨F,H⟩|F|⟨F,H⟩)
  ·exact .inr ⟨F,Ap.ne H⟩
  ·exact .inl F
  exact .inr ⟨F,Ap.ne' H⟩
 rintro (F|⟨F,H⟩)
 ·exact .inr (.inl F)
 have K:Ab (kH x) (kH h)≠0:=λe=>H (Ap.eq.1 e);by_cases J:Ab (kH x) (kH h)<0
 ·exact .inl ⟨F,J⟩
 exact .inr (.inr ⟨F,by omega⟩)
def VP {g:fv->gN}(hg :∀p,kH (g p)=p){x:gN} :∀(t:O fv) (l:O gN),x∈t.foldl (λl p=>G7 l (g p)) l↔(∃p∈t,x=g p)\/(x∈l/\kH x∉t)
 | [],l=>by simp
 | p::t,l=>by
  rw[Xai,VP hg t,IX,hg];constructor
  ·rintro (⟨q,H,e⟩|⟨e|⟨K,J⟩,M⟩)
   ·exact .inl ⟨q,X19 _ H,e⟩
   ·exact .inl ⟨p,by simp,e⟩
   exact .inr ⟨K,λF=>(Wp.1 F).elim J M⟩
  rintro (⟨q,H,e⟩|⟨K,J⟩)
  ·by_cases F:kH x∈t
   ·exact .inl ⟨kH x,F,by rw[e,hg]⟩
   refine .inr ⟨.inl ?_,F⟩;rcases Wp.1 H with rfl|H
   ·exact e
   exact absurd (by rw[e,hg];exact H) F
  exact .inr ⟨.inr ⟨K,λe=>J (by rw[e];simp)⟩,λF=>J (X19 _ F)⟩
def SN {x:gN} :∀(t:O fv) (l:O gN),x∈t.foldl F5 l↔x∈l/\kH x∉t
 | [],l=>by simp
 | p::t,l=>by rw[Xai,SN t];unfold F5;rw[Xah,Xk,Wp,not_or,Xdn]
def dQ {f:mu}{b:pk}{u:rZ}{x:gN}:x∈H3 f b u↔(∃p∈u.gT,x=uS f b u p)\/(x∈b.gN/\kH x∉u.qv/\kH x∉u.gT):=by unfold H3 wx;rw[VP (g:=uS f b u) (λ_=>rfl),SN,Xdn]
def dx {l:O gN}(K:si kH Ab l){x:gN}(H:x∈l):G5 l (kH x)=(x,true):=by
 rcases split Ap K (kH x) with ⟨M,y,P,J,e,F⟩|⟨M,P,J,F⟩
 ·rw[J] at H⊢;rcases X23.1 H with h|h
  ·exact absurd rfl (Ap.ne (F.1 x h))
  rcases Wp.1 h with rfl|h
  ·exact bC F e
  exact absurd rfl (Ap.ne' (F.2 x h))
 rw[J] at H;rcases X23.1 H with h|h
 ·exact absurd rfl (Ap.ne (F.1 x h))
 exact absurd rfl (Ap.ne' (F.2 x h))
structure WV (f:mu)(b:pk):Prop where
 w:WR b
 h :∀x∈b.gN,x.sc=vm f b.r6 x.gD/\UV x.gD.gH [x.gD.fv]
def WV.of {f:mu}{b c:pk}(h:WV f b)(w:WR c)(hp:c.r6=b.r6)(F :∀x∈c.gN,∃y∈b.gN,x.sc=y.sc/\x.gD=y.gD):WV f c:=
 ⟨w,λx q=>by
  obtain⟨y,H,J,K⟩:=F x q;rw[J,K,hp]
  exact h.h y H⟩
def TA {b:pk}(F:(GZ b).2=0):(GZ b).1={ b with Up:=true }:=by
 unfold GZ at F⊢;split at F
 ·rename_i H;rw[Xy H];split at F
  ·exact absurd F (by decide)
  rename_i J;rw[Xj J]
 exact absurd F (by decide)
def WX {b:pk}{H F:Int}(J:(IQ b H F).2=0):(IQ b H F).1=Jo ⟨b.r6,false,(cond (F==0) [] b.gN).map uK,H+F⟩:=by
 unfold IQ at J⊢;split at J
 ·rename_i K;rw[Xy K];split at J
  ·rename_i M;rw[Xy M]
  exact absurd J (by decide)
 exact absurd J (by decide)
def TC {f:mu}{b:pk}{u:rZ}(F:(EO f b u).2=0):(EO f b u).1=Jo (D4 f b u):=by
 unfold EO at F⊢;split at F
 ·rename_i H;rw[Xy H];split at F
  ·rename_i J;rw[Xy J];split at F
   ·rename_i K;rw[Xy K]
   exact absurd F (by decide)
  exact absurd F (by decide)
 exact absurd F (by decide)
def WV.raise {f:mu}{b:pk}(h:WV f b)(F:(GZ b).2=0):WV f (GZ b).1:=by have w:=h.w.raise F;rw[TA F] at w⊢;exact h.of w rfl λx H=>⟨x,H,rfl,rfl⟩
def WV.down {f:mu}{b:pk}(h:WV f b){H F:Int}(K:(IQ b H F).2=0):WV f (IQ b H F).1:=by
 have w:=h.w.down K;rw[WX K] at w⊢;refine h.of w rfl λx M=>?_;obtain⟨y,J,rfl⟩:=Xa0.1 (show x∈(cond (F==0) [] b.gN).map uK from M);refine⟨y,?_,rfl,rfl⟩;cases hg:F==0
 ·rw[hg] at J;exact J
 rw[hg] at J;exact absurd J (by simp)
def WV.vC {f:mu}{b:pk}(h:WV f b)(w:Int):WV f (OG b w):=h.of (h.w.vC w) rfl λx F=>⟨x,(Xah.1 (show x∈b.gN.filter (LC w) from F)).1,rfl,rfl⟩
def UV.one {a:gH}{l:O fv}(h:UV a l){p:fv}(hp:p∈l):UV a [p]:=by
 rcases h with ⟨rfl,_⟩|⟨_,_,b,s,h⟩
 ·exact absurd hp (by simp)
 exact .inr ⟨by simp,by simp,b,s,by simpa using h p hp⟩
def WV.apply {f:mu}{b:pk}{u:rZ}(h:WV f b)(H:UV u.gH u.gT)(F:(EO f b u).2=0):WV f (EO f b u).1:=by
 have w:=h.w.apply F;rw[TC F] at w⊢;refine⟨w,λx J=>?_⟩;show x.sc=vm f b.r6 x.gD/\_;rcases dQ.1 (show x∈H3 f b u from J) with ⟨p,hp,rfl⟩|⟨K,_⟩
 ·exact⟨rfl,H.one hp⟩
 exact h.h x K
def lQ (x:gN):LC 2 x=!x.sb:=by unfold LC;cases x.sb<;>rfl
def pF {l:O gN}(M:si kH Ab l){x y:gN}(J:y∈l)(K:kH y=kH x):n0 (G7 l x)=n0 l/\n1 (G7 l x)=n1 l/\(G7 l x).length=l.length:=by
 rcases split Ap M (kH x) with ⟨P,z,Q,H,e,F⟩|⟨P,Q,H,F⟩
 ·have U:z.gD.fv=x.gD.fv:=e;rw[H,KX F e];unfold n0 n1;simp only[List.countP_append,List.countP_cons,X11,X12,U,and_self]
 rw[H] at J;rcases X23.1 J with h|h
 ·exact absurd K (Ap.ne (F.1 y h))
 exact absurd K (Ap.ne' (F.2 y h))
def dN {l:O gN}(h:si kH Ab l){i j:Nat}{x y:gN}(J:l[j]?=some y)(K:l[i]?=some x)(e:kH y=kH x):j=i:=by
 obtain⟨F,rfl⟩:=X16.1 J;obtain⟨H,rfl⟩:=X16.1 K;have hp:=List.pairwise_iff_getElem.1 h;rcases Nat.lt_trichotomy j i with q|q|q
 ·exact absurd e (Ap.ne (hp j i F H q))
 ·exact q
 exact absurd e.symm (Ap.ne (hp i j H F q))
def fC {f:mu}{r:pk}{x:gN}(F:x.gD.rT=r.r6.r4)(H:x.sc=vm f r.r6 x.gD)(J:x.sb=false):uS f r ⟨[],x.gD.gH,[x.gD.fv]⟩ x.gD.fv=x:=by obtain⟨⟨p,fr,a⟩,K,st⟩:=x;dsimp only at F H J⊢;subst J;unfold uS;dsimp only;rw[<- F,<- H]
def fm {f:mu}{s:pk}{u:rZ}(H:TS f=true)(J:WR s)(K:Dq u=true)(F:s.Up=true) (M:Ru (D4 f s u)=true) (P:Rj (D4 f s u)=true) (Q:((D4 f s u).gN.length:Int)<=256):EO f s u=(Jo (D4 f s u),0):=by unfold EO;rw[H,J.v.to,K,Xy (by rfl),Xy F,M,P,Wd Q];rfl
structure wv (s:pk)(bit:Nat->Bool)(i:Nat)(r:pk):Prop where
 w:WR r
 up:r.Up=true
 peer:r.r6=s.r6
 a :∀y∈r.gN,y.sb=false->∃j,j<i/\s.gN[j]?=some y/\bit j=true
 b :∀j x,j<i->s.gN[j]?=some x->bit j=true->x∈r.gN
 c :∀x∈s.gN,∃y∈r.gN,kH y=kH x
def wv.skip {s r:pk}{F:Nat->I}{i:Nat}(h:wv s F i r)(M:¬ F i=true):wv s F (i+1) r:=
 ⟨h.w,h.up,h.peer,λy J H=>by
  obtain⟨j,Q,P⟩:=h.a y J H
  exact⟨j,by omega,P⟩,λj x J H K=>h.b j x (by
   have:j≠i:=λe=>M (e▸K)
   omega) H K,h.c⟩
def wv.step {f:mu}{s r:pk}{H:Nat->I}{i:Nat}(hf:TS f=true)(Y:WV f s)(Z :∀x∈s.gN,x.sb=false)(h:wv s H i r){x:gN}(Q:s.gN[i]?=some x)(hb:H i=true) : uv ⟨[],x.gD.gH,[x.gD.fv]⟩/\∃r',EO f r ⟨[],x.gD.gH,[x.gD.fv]⟩=(r',0)/\wv s H (i+1) r':=by
 have U:x∈s.gN:=Xay Q;obtain⟨q1,q2⟩:=Y.h x U;obtain⟨g1,g2⟩:=UV.valid (u:=⟨[],x.gD.gH,[x.gD.fv]⟩) q2 (by simp) (by simp);refine⟨g1,?_⟩;have J:x.gD.rT=s.r6.r4:=by have:=(Y.w.v.ok x U).2;simp only[vL,X27,Xb7,bne_eq_false_iff_eq] at this;exact this.2.1
 have ho:=fC (f:=f) (r:=r) (x:=x) (by rw[h.peer];exact J) (by rw[h.peer];exact q1) (Z x U);generalize hu:(⟨[],x.gD.gH,[x.gD.fv]⟩:rZ)=u at g1 g2 ho⊢;have K:H3 f r u=G7 r.gN x:=by subst hu;show G7 r.gN (uS f r _ x.gD.fv)=_;rw[ho]
 obtain⟨y,hy,V⟩:=h.c x U;obtain⟨c1,c2,c3⟩:=pF h.w.v.si hy V;have M:=fm (f:=f) (u:=u) hf h.w g2 h.up
  (by show decide ((n0 (H3 f r u):Int)<=r.r6.rj)=true;rw[K,c1];exact h.w.v.f4)
  (by show decide ((n1 (H3 f r u):Int)<=r.r6.ri)=true;rw[K,c2];exact h.w.v.f6)
  (by show ((H3 f r u).length:Int)<=256;rw[K,c3];have:=h.w.v.len;omega)
 have hw:=h.w.apply (f:=f) (u:=u) (by rw[M]);rw[M] at hw;refine⟨_,M,hw,h.up,h.peer,?_,?_,?_⟩
 ·intro z F a1;have P:z∈H3 f r u:=F;rw[K] at P;rcases IX.1 P with rfl|⟨h1,_⟩
  ·exact⟨i,Nat.lt_succ_self i,Q,hb⟩
  obtain⟨j,j1,j2⟩:=h.a z h1 a1;exact⟨j,by omega,j2⟩
 ·intro j z hj F a6;show z∈H3 f r u;rw[K];by_cases e:j=i
  ·subst e;rw[Q] at F;cases F;exact IX.2 (.inl rfl)
  exact IX.2 (.inr ⟨h.b j z (by omega) F a6,λek=>e (dN Y.w.v.si F Q ek)⟩)
 intro z F;by_cases e:kH z=kH x
 ·exact⟨x,by show x∈H3 f r u;rw[K];exact IX.2 (.inl rfl),e.symm⟩
 obtain⟨y,hy,V⟩:=h.c z F;exact⟨y,by show y∈H3 f r u;rw[K];exact IX.2 (.inr ⟨hy,by rw[V];exact e⟩),V⟩
def wv.fin {s r:pk}{F:Nat->I}{n:Nat}(U:si kH Ab s.gN)(J :∀x∈s.gN,x.sb=false)(h:wv s F n r)(hn:n=s.gN.length){i:Nat}{x:gN}(H:s.gN[i]?=some x) : G5 (OG r 2).gN x.gD.fv=if F i=true then (x,true) else (zH,false):=by
 have hi:=(X16.1 H).1;have V:si kH Ab (r.gN.filter (LC 2)):=EP h.w.v.si;show G5 (r.gN.filter (LC 2)) (kH x)=_;split
 ·rename_i K;exact dx V (Xah.2 ⟨h.b i x (by omega) H K,by rw[lQ,J x (Xay H)];rfl⟩)
 rename_i K;refine ZQ λy Y e=>?_;obtain⟨Z,Q⟩:=Xah.1 Y;rw[lQ] at Q;obtain⟨j,hj,M,P⟩:=h.a y Z (by simpa using Q);exact K (dN U M H e▸P)
end Go.AX.Q29
end
