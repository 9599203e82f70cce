/-
  Texts of one proof, packed.
-/
import Derived.Test.YtppcmaidcgimpaaGreatDoorS22
import Derived.KernelRfl
set_option linter.all false
set_option maxRecDepth 100000
set_option maxHeartbeats 4000000
open List renaming length_map→X6,length_append→X10,length_cons→X11,mem_singleton→X13,getElem?_eq_getElem→X14,length_drop→X16,length_take→X17,mem_cons_of_mem→X18,length_replicate→X19,length_set→X20,mem_append→X22
open Option.some renaming inj→X24
open Prod.mk renaming injEq→X25
open Bool renaming and_eq_true→X26,eq_iff_iff→X27
open Option renaming bind→Xg
open List renaming toArray→Xcf,nil→Xdr
open Go renaming maxLen→Xb6
open ByteArray renaming mk→Xce
section
namespace Go.AX.Q25
open Go Go.AX
def HG {v n:Int}(K:1<=n/\n<=1000000000):Ok (Ej v n) λr=>0<=r/\r<n:=by
 unfold Ej;have M:=Int.tmod_lt_of_pos v (show 0<n by omega);have P:-n<Int.tmod v n:=by have:=Int.lt_tmod_of_pos v (show 0<n by omega);exact this
 refine .bind (.rv (by omega)) λ_ _=>.join (λr=>0<=r/\r<n) (λk H=>.ite (λF=>H _ ?_) λF=>H _ ?_) λr J=>.ret J
 ·simp only[Xh] at F;rw[AM (by omega)];omega
 simp only[Xh] at F;omega
def AP {d:px}{n:Int}(J:Dk d)(K:1<=n/\n<=1000000000):Ok (AG d n) λr=>0<=r.1/\r.1<n/\Dk r.2:=by
 obtain⟨M,F⟩:=J;unfold AG;refine .ite (λ_=>.ret ⟨by simp only;omega,by simp only;omega,M,F⟩) λP=>?_;simp only[Xh] at P;have e1:AQ (d.At+1)=d.At+1:=AM (by omega);have e2:AQ (d.At+1-1)=d.At:=by rw[AM (by omega)];omega
 rw[e1,e2];exact .bind (.iB (by omega)) λv _=>.bind (HG K) λr H=>.ret ⟨H.1,H.2,by simp only;omega,F⟩
def MR {k:Int}(h:0<=k/\k<8):Ok (FG k) uU:=by
 have:k=0\/k=1\/k=2\/k=3\/k=4\/k=5\/k=6\/k=7:=by omega
 rcases this with rfl|rfl|rfl|rfl|rfl|rfl|rfl|rfl
 ·exact⟨_,rfl,by kernel_rfl,.inl ⟨rfl,rfl⟩⟩
 ·exact⟨_,rfl,by kernel_rfl,.inl ⟨rfl,rfl⟩⟩
 ·exact⟨_,rfl,by kernel_rfl,.inl ⟨rfl,rfl⟩⟩
 ·exact⟨_,rfl,by kernel_rfl,.inl ⟨rfl,rfl⟩⟩
 ·exact⟨_,rfl,by kernel_rfl,.inl ⟨rfl,rfl⟩⟩
 ·exact⟨_,rfl,by kernel_rfl,.inl ⟨rfl,rfl⟩⟩
 ·exact⟨_,rfl,by kernel_rfl,.inr ⟨rfl,rfl⟩⟩
 exact⟨_,rfl,by kernel_rfl,.inr ⟨rfl,rfl⟩⟩
def QF (o:oB):Prop:=uU o.fI/\(o.Max=24/\o.fI.Addr.V6=false\/o.Max=64/\o.fI.Addr.V6=true)/\0<=o.ql/\o.ql<=301
structure MF (f:qI):Prop where
 own:f.tg=99
 wE:f.rD=[⟨⟨false,0,3221225984⟩,24⟩]
 xw:f.sd=8/\f.qh=24/\f.s8=19/\f.qg=64/\f.rK=25/\f.rM=65
 xt:2<=f.sf/\f.sf<=8
 xy:f.qp=[⟨64512,65534⟩]
 free:f.qX.length<=2/\∀x∈f.qX,1<=x/\x<=1000
 bog:f.qF.length<=1/\∀p∈f.qF,uU p
 wL:f.qS.pk=[⟨nM,[101,102,103,104,105,201,202,203,301],[]⟩,⟨nO,[201],[]⟩]
 gD:f.qS.oX.length<=72/\∀o∈f.qS.oX,QF o/\1<=o.ql
 wA:f.qi.length<=8/\∀o∈f.qi,QF o
def Su {d:px}(F:Dk d):Ok (Dw d) λr=>MF r.1/\Dk r.2:=by
 unfold Dw;refine .bind (AP F (by omega)) ?_;rintro⟨a,d⟩ ⟨a1,a2,F⟩;simp only at a1 a2 F;refine .bind (.part ⟨by omega,by omega,by simp;omega⟩) λfr Y=>.bind (AP F (by omega)) ?_;rintro⟨b,d⟩ ⟨b1,b2,F⟩;simp only at F;refine .join (λx:px×I fI=>Dk x.1/\x.2.length<=1/\∀p∈x.2,uU p) (λk P=>.ite (λ_=>.bind (AP F (by omega)) ?_) λ_=>P _ ⟨F,by simp,by simp⟩) ?_
 ·rintro⟨c,d⟩ ⟨c1,c2,F⟩;exact .bind (MR ⟨c1,c2⟩) λp hp=>P _ ⟨F,by simp,by simpa using hp⟩
 rintro⟨d,bg⟩ ⟨F,Z,a6⟩;simp only at F Z a6;refine .bind (AP F (by omega)) ?_;rintro⟨e,d⟩ ⟨_,_,F⟩;refine .join (λx:px×Int=>Dk x.1/\2<=x.2/\x.2<=8) (λk P=>.ite (λ_=>.bind (AP F (by omega)) ?_) λ_=>P _ ⟨F,by simp,by simp⟩) ?_
 ·rintro⟨c,d⟩ ⟨c1,c2,F⟩;simp only at c1 c2;exact P _ ⟨F,by simp only;rw[AM (by omega)];omega,by simp only;rw[AM (by omega)];omega⟩
 rintro⟨d,hp⟩ ⟨F,aa,ab⟩;refine .bind (AP F (by omega)) ?_;rintro⟨op,d⟩ ⟨_,_,F⟩;refine .join (λx:px×I oB×I oB=>Dk x.1/\(x.2.1.length<=72/\∀o∈x.2.1,QF o/\1<=o.ql)/\x.2.2.length<=8/\∀o∈x.2.2,QF o) (λk P=>?_) ?_
 ·refine .rB (λs:Int×px×I oB×I oB=>0<=s.1/\s.1<=8/\Dk s.2.1/\(s.2.2.1.length<=9*s.1.toNat/\∀o∈s.2.2.1,QF o/\1<=o.ql)/\s.2.2.2.length<=s.1.toNat/\∀o∈s.2.2.2,QF o) (λs=>(8-s.1).toNat)
   ⟨by simp,by simp,F,⟨by simp,by simp⟩,by simp,by simp⟩ (CB (by simp only;omega)) ?_
  rintro next ⟨i,d,os,Q⟩ ⟨i1,i2,F,⟨o1,o2⟩,r1,r2⟩ ae
  simp only at i1 i2 F o1 o2 r1 r2;refine .ite (λhc=>?_) λ_=>P _ ⟨F,⟨by simp only;omega,o2⟩,by simp only;omega,r2⟩;simp only[Xh] at hc;refine .join (λx:px×I oB×I oB=>Dk x.1/\(x.2.1.length<=9*i.toNat+9/\∀o∈x.2.1,QF o/\1<=o.ql)/\x.2.2.length<=i.toNat+1/\∀o∈x.2.2,QF o) (λk2 af=>?_) ?_
  ·refine .bind (MR ⟨i1,hc⟩) λp hp=>?_;refine .join (λm:Int=>m=24/\p.Addr.V6=false\/m=64/\p.Addr.V6=true) (λk3 J=>.ite (λh=>J _ (.inr ⟨rfl,h⟩)) λh=>J _ (.inl ⟨rfl,by simpa using h⟩)) λm hm=>?_;refine .join (λx:px×I oB=>Dk x.1/\x.2.length<=9*i.toNat+9/\∀o∈x.2,QF o/\1<=o.ql) (λk3 J=>?_) ?_
   ·refine .ux (λj (x:px×I oB)=>Dk x.1/\x.2.length<=9*i.toNat+j/\∀o∈x.2,QF o/\1<=o.ql) ⟨F,by simpa using o1,o2⟩ (λx U=>J _ U) ?_;rintro ag n j ⟨d,os⟩ hj hn ⟨F,q1,q2⟩ a7;simp only at F q1 q2;have K:1<=n/\n<=301:=by simp only[Xp,Xby,Xdv] at hn;omega
    refine .join (λx:C×px=>Dk x.2) (λk4 H=>.ite (λ_=>H _ F) λ_=>.bind (AP F (by omega)) ?_) ?_
    ·rintro⟨y,d⟩ ⟨_,_,F⟩;exact H _ F
    rintro⟨c,d⟩ F;simp only at F;refine .join (λos:I oB=>os.length<=9*i.toNat+(j+1)/\∀o∈os,QF o/\1<=o.ql) (λk4 H=>.ite (λ_=>.bind (.gH (by decide) (by simp at hj⊢;omega)) λw hw=>H _ ⟨by rw[hw];simp;omega,λo M=>?_⟩) λ_=>H _ ⟨by omega,q2⟩) λos a8=>a7 _ ⟨F,a8.1,a8.2⟩;simp only[hw,X22,X13] at M;rcases M with M|rfl
    ·exact q2 o M
    exact⟨⟨hp,hm,by simp only;omega,by simp only;omega⟩,K.1⟩
   rintro⟨d,os⟩ ⟨F,q1,q2⟩;simp only at F q1 q2;refine .bind (AP F (by omega)) ?_;rintro⟨y,d⟩ ⟨_,_,F⟩;simp only at F;refine .join (λx:px×I oB=>Dk x.1/\x.2.length<=i.toNat+1/\∀o∈x.2,QF o) (λk4 H=>.ite (λ_=>.bind (AP F (by omega)) ?_) λ_=>H _ ⟨F,by simp only;omega,r2⟩) ?_
   ·rintro⟨z,d⟩ ⟨z1,z2,F⟩;simp only at z1 z2 F;refine .bind (.iB (by simp;omega)) λn hn=>.bind (.gH (by decide) (by simp;omega)) λw hw=>H _ ⟨F,by rw[hw];simp;omega,λo M=>?_⟩;have K:0<=n/\n<=301:=by have:=hn.1;simp only[Xp,Xby,Xdv] at this;omega
    simp only[hw,X22,X13] at M;rcases M with M|rfl
    ·exact r2 o M
    exact⟨hp,hm,K.1,K.2⟩
   rintro⟨d,Q⟩ ⟨F,s1,V⟩;exact af _ ⟨F,⟨q1,q2⟩,s1,V⟩
  rintro⟨d,os,Q⟩ ⟨F,⟨q1,q2⟩,s1,V⟩;simp only at F q1 q2 s1 V;rw[AM (by omega)];exact ae _ ⟨by simp only;omega,by simp only;omega,F,⟨by simp only;omega,q2⟩,by simp only;omega,V⟩ (by simp only;omega)
 rintro⟨d,os,Q⟩ ⟨F,⟨q1,q2⟩,s1,V⟩;refine .ret ⟨⟨rfl,rfl,⟨rfl,rfl,rfl,rfl,rfl,rfl⟩,⟨aa,ab⟩,rfl,?_,⟨Z,a6⟩,rfl,⟨q1,q2⟩,⟨s1,V⟩⟩,F⟩;have ah :∀x∈fr,x∈([701,202]:I Int):=λx U=>by rw[Y.1] at U;exact List.drop_subset _ _ (List.mem_of_mem_take U)
 refine⟨by have:=Y.2;simp only;omega,λx U=>?_⟩;have:=ah x U;simp only[Xp,Xby,Xdv] at this;omega
instance (n:Int) (b:C):Tt (Eo n b):=by unfold Eo;exact Tt.rp
def Yz {n:Int}(h:101<=n/\n<=105)(b:C):Ok (Eo n b) λa=>a.ok=true:=by
 have:n=101\/n=102\/n=103\/n=104\/n=105:=by omega
 rcases this with rfl|rfl|rfl|rfl|rfl<;>cases b<;>exact⟨_,rfl,by show Addr.ok _=true;kernel_rfl⟩
def Qw {d:px}(F:Dk d):Ok (B0 d) λr=>r.1.length<=8/\Dk r.2:=by
 unfold B0;refine .bind (AP F (by omega)) ?_;rintro⟨a,d⟩ ⟨_,_,F⟩;dsimp only at F⊢;refine .join (λx:px×I oF=>Dk x.1/\x.2.length<=8) (λk Q=>?_) (λ⟨d,l⟩ ⟨F,J⟩=>.ret ⟨J,F⟩);refine .ux (λi (x:px×I oF)=>Dk x.1/\x.2.length<=i) ⟨F,by simp⟩ (λx P=>Q _ ⟨P.1,by simpa using P.2⟩) ?_;rintro next x i ⟨d,l⟩ U _ ⟨F,J⟩ M
 have V:i<8:=by simpa using U
 dsimp only at F J⊢;refine .join (λx:C×px=>Dk x.2) (λZ H=>.ite (λ_=>.ite (λ_=>H _ F) λ_=>.bind (AP F (by omega)) ?_) λ_=>H _ F) ?_
 ·rintro⟨b,d⟩ ⟨_,_,F⟩;exact H _ F
 rintro⟨c,d⟩ F;dsimp only at F⊢;refine .join (λl:I oF=>l.length<=i+1) (λk3 K=>.ite (λ_=>.bind (.gH (by decide) (by simp;omega)) λw Y=>K _ (by rw[Y];simp;omega)) λ_=>K _ (by omega)) λl J=>M _ ⟨F,J⟩
def iE {d:px}(H:Dk d):Ok (EG d) λr=>r.1.length<=8/\Dk r.2:=by
 unfold EG;refine .bind (AP H (by omega)) ?_;rintro⟨a,d⟩ ⟨_,_,H⟩;dsimp only at H⊢;refine .join (λx:I ls=>x.length<=8) (λk M=>?_) (λl J=>.ret ⟨J,H⟩);refine .ux (λi (x:I ls)=>x.length<=i) (by simp) (λx P=>M _ (by simp at P;omega)) ?_;intro next x i l Q _ J K
 have U:i<7:=by simpa using Q
 refine .join (λl:I ls=>l.length<=i+1) (λY F=>.ite (λ_=>.bind (.gH (by decide) (by simp;omega)) λw V=>F _ (by rw[V];simp;omega)) λ_=>F _ (by omega)) λl J=>K _ J
def fZ {d:px}{n:Int}{b:C}(F:Dk d):Ok (EJ d n b) λr=>tJ 1000 r.1/\Dk r.2:=by
 unfold EJ;rw[XF,AA];dsimp only;refine .bind (AP F (by omega)) ?_;rintro⟨_,d⟩ ⟨_,_,F⟩;dsimp only at F⊢;refine .bind (AP F (by omega)) ?_;rintro⟨m,d⟩ ⟨m1,m2,F⟩;dsimp only at m1 m2 F⊢;refine .join (λx:px×I Int=>Dk x.1/\1<=x.2.length/\x.2.length<=10) (λk H=>?_) ?_
 ·refine .rB (λs:Int×px×I Int=>0<=s.1/\s.1<=3/\Dk s.2.1/\1<=s.2.2.length/\s.2.2.length+s.1.toNat<=10) (λs=>s.1.toNat) ⟨m1,by dsimp only;omega,F,by simp,by simp;omega⟩ (CB (by dsimp only;omega)) ?_;rintro next ⟨i,d,l⟩ ⟨i1,i2,F,l1,l2⟩ a6
  dsimp only at i1 i2 F l1 l2⊢;refine .ite (λhc=>.bind (AP F (by omega)) ?_) λ_=>H _ ⟨F,l1,by dsimp only;omega⟩;rintro⟨c,d⟩ ⟨c1,c2,F⟩;simp only[Xh] at hc;dsimp only at c1 c2 F⊢;refine .bind (.iB (by simp;omega)) λv _=>.bind (.gH (by decide) (by simp;omega)) λw J=>?_;rw[AM (by omega)];exact a6 _ ⟨by dsimp only;omega,by dsimp only;omega,F,by rw[J];simp,by rw[J];simp;omega⟩ (by dsimp only;omega)
 rintro⟨d,l⟩ ⟨F,l1,l2⟩;dsimp only at F l1 l2⊢;refine .bind Ok.of λpo _=>.bind (AP F (by omega)) ?_;rintro⟨c,d⟩ ⟨_,_,F⟩;dsimp only at F⊢;refine .join (λx:px×Int=>Dk x.1) (λk H=>.ite (λ_=>.bind (AP F (by omega)) λ⟨_,d⟩ ⟨_,_,F⟩=>H _ F) λ_=>H _ F) ?_;rintro⟨d,a8⟩ F;dsimp only at F⊢;refine .bind (AP F (by omega)) ?_;rintro⟨c,d⟩ ⟨_,_,F⟩;dsimp only at F⊢;refine .join (λx:px×Int=>Dk x.1) (λk H=>.ite (λ_=>.bind (AP F (by omega)) λ⟨_,d⟩ ⟨_,_,F⟩=>H _ F) λ_=>H _ F) ?_;rintro⟨d,a7⟩ F;dsimp only at F⊢;refine .bind (Qw F) ?_;rintro⟨co,d⟩ ⟨K,F⟩;dsimp only at K F⊢;refine .bind (iE F) ?_;rintro⟨la,d⟩ ⟨M,F⟩;dsimp only at M F⊢;refine .bind (AP F (by omega)) ?_;rintro⟨q,d⟩ ⟨_,_,F⟩;dsimp only at F⊢;have hl:Sh [⟨false,l⟩] []:=we (by omega);refine .join (λx:px×I oA×C×j×j×Int×I gF=>Dk x.1/\Sh x.2.1 x.2.2.2.2.2.2) (λk H=>.ite (λ_=>.bind (AP F (by omega)) λ⟨_,d⟩ ⟨_,_,F⟩=>H _ ⟨F,hl⟩) λ_=>?_) λ⟨d,p,_,_,_,_,o⟩ ⟨F,h⟩=>.ret ⟨h.a K M,F⟩;refine .join (λx:px×I oA×C×j×j×I gF=>Dk x.1/\Sh x.2.1 x.2.2.2.2.2) (λk2 P=>.ite (λ_=>.bind (.iB (by omega)) λ_ _=>.bind (.rk (by omega)) λw J=>P _ ⟨F,we (by omega)⟩) λ_=>?_) λ⟨d,p,_,_,_,o⟩ ⟨F,h⟩=>H _ ⟨F,h⟩;refine .join (λx:px×I oA×C×j×j×I gF=>Dk x.1/\Sh x.2.1 x.2.2.2.2.2) (λk3 Q=>.ite (λ_=>Q _ ⟨F,⟨⟨by simp,?_⟩,by simp,by simp⟩⟩) λ_=>?_) λ⟨d,p,_,_,_,o⟩ ⟨F,h⟩=>P _ ⟨F,h⟩
 ·intro s hs;simp only[Xp,Xby,Xdv] at hs;rcases hs with rfl|rfl
  ·dsimp only;omega
  decide
 refine .join (λx:px×I oA×C×j×j×I gF=>Dk x.1/\Sh x.2.1 x.2.2.2.2.2) (λk4 U=>.ite (λ_=>.bind (.gH (by decide) (by simp;omega)) λw J=>U _ ⟨F,we (by rw[J];simp;omega)⟩) λ_=>?_) λ⟨d,p,_,_,_,o⟩ ⟨F,h⟩=>Q _ ⟨F,h⟩;refine .join (λx:px×I oA×C×j×j×I gF=>Dk x.1/\Sh x.2.1 x.2.2.2.2.2) (λk5 V=>.ite (λ_=>.bind Ok.of λ_ _=>V _ ⟨F,hl⟩) λ_=>?_) λ⟨d,p,_,_,_,o⟩ ⟨F,h⟩=>U _ ⟨F,h⟩;refine .join (λx:px×I oA×I gF=>Dk x.1/\Sh x.2.1 x.2.2) (λk6 Y=>.ite (λ_=>.bind (.gH (by decide) (by simp;omega)) λw J=>Y _ ⟨F,we (by rw[J];simp;omega)⟩) λ_=>?_) λ⟨d,p,o⟩ ⟨F,h⟩=>V _ ⟨F,h⟩;refine .join (λx:px×I oA×I gF=>Dk x.1/\Sh x.2.1 x.2.2) (λk7 Z=>.ite (λ_=>Z _ ⟨F,⟨⟨by simp,by simp⟩,by simp,by simp⟩⟩) λ_=>?_) λ⟨d,p,o⟩ ⟨F,h⟩=>Y _ ⟨F,h⟩;refine .join (λx:px×I gF=>Dk x.1/\x.2.length<=4/\∀u∈x.2,u.Data.length<=4) (λk8 a1=>.ite (λ_=>.bind (AP F (by omega)) λ⟨_,d⟩ ⟨_,_,F⟩=>a1 _ ⟨F,by simp,by simp⟩) λ_=>a1 _ ⟨F,by simp,by simp⟩) λ⟨d,o⟩ ⟨F,h⟩=>Z _ ⟨F,hl.1,h⟩
def ZV {p:fI}(h:An p=some true):Ds p:=by obtain⟨b,F,H⟩:=F2 p;rw[h] at F;exact H.1 (X24 F).symm
def Bk (p:fI):Prop:=uU p/\An ⟨p.Addr,cond p.Addr.V6 64 24⟩=some true/\∀j:Int,0<=j->j<3->An ⟨{ p.Addr with Lo:=(AY ((p.Addr.Lo.toNat:Int)+((AY j).toNat:Int))) },cond p.Addr.V6 128 32⟩=some true
def iD {k:Int}(h:0<=k/\k<8):Ok (FG k) Bk:=by
 have F :∀{Q:Int->Prop},Q 0->Q 1->Q 2->∀j:Int,0<=j->j<3->Q j:=by
  intro Q H J K j M P;have:j=0\/j=1\/j=2:=by omega
  rcases this with rfl|rfl|rfl
  ·exact H
  ·exact J
  exact K
 have:k=0\/k=1\/k=2\/k=3\/k=4\/k=5\/k=6\/k=7:=by omega
 rcases this with rfl|rfl|rfl|rfl|rfl|rfl|rfl|rfl
 ·exact⟨_,rfl,⟨by kernel_rfl,.inl ⟨rfl,rfl⟩⟩,by kernel_rfl,F (by kernel_rfl) (by kernel_rfl) (by kernel_rfl)⟩
 ·exact⟨_,rfl,⟨by kernel_rfl,.inl ⟨rfl,rfl⟩⟩,by kernel_rfl,F (by kernel_rfl) (by kernel_rfl) (by kernel_rfl)⟩
 ·exact⟨_,rfl,⟨by kernel_rfl,.inl ⟨rfl,rfl⟩⟩,by kernel_rfl,F (by kernel_rfl) (by kernel_rfl) (by kernel_rfl)⟩
 ·exact⟨_,rfl,⟨by kernel_rfl,.inl ⟨rfl,rfl⟩⟩,by kernel_rfl,F (by kernel_rfl) (by kernel_rfl) (by kernel_rfl)⟩
 ·exact⟨_,rfl,⟨by kernel_rfl,.inl ⟨rfl,rfl⟩⟩,by kernel_rfl,F (by kernel_rfl) (by kernel_rfl) (by kernel_rfl)⟩
 ·exact⟨_,rfl,⟨by kernel_rfl,.inl ⟨rfl,rfl⟩⟩,by kernel_rfl,F (by kernel_rfl) (by kernel_rfl) (by kernel_rfl)⟩
 ·exact⟨_,rfl,⟨by kernel_rfl,.inr ⟨rfl,rfl⟩⟩,by kernel_rfl,F (by kernel_rfl) (by kernel_rfl) (by kernel_rfl)⟩
 exact⟨_,rfl,⟨by kernel_rfl,.inr ⟨rfl,rfl⟩⟩,by kernel_rfl,F (by kernel_rfl) (by kernel_rfl) (by kernel_rfl)⟩
def Hu {d:px}(F:Dk d):Ok (B6 d) λr=>Ds r.1/\Dk r.2:=by unfold B6;refine .bind (AP F (by omega)) ?_;rintro⟨a,d⟩ ⟨M,P,F⟩;dsimp only at M P F⊢;refine .bind (iD ⟨M,P⟩) λp hp=>.bind (AP F (by omega)) ?_;rintro⟨b,d⟩ ⟨b1,b2,F⟩;dsimp only at b1 b2 F⊢;refine .join (λx:px×fI=>Dk x.1/\Ds x.2) (λk Q=>.ite (λ_=>.join (λv=>v=cond p.Addr.V6 64 24) (λY H=>.ite (λh=>H _ (by rw[h];rfl)) λh=>H _ (by rw[Bool.not_eq_true] at h;rw[h];rfl)) λv K=>Q _ ⟨F,by rw[K];exact ZV hp.2.1⟩) λ_=>?_) λ⟨d,p⟩ F=>.ret ⟨F.2,F.1⟩;refine .join (λx:px×fI=>Dk x.1/\Ds x.2) (λY H=>.ite (λ_=>.join (λv=>v=cond p.Addr.V6 128 32) (λZ J=>.ite (λh=>J _ (by rw[h];rfl)) λh=>J _ (by rw[Bool.not_eq_true] at h;rw[h];rfl)) λv K=>.bind (AP F (by omega)) ?_) λ_=>H _ ⟨F,hp.1.vq⟩) λ⟨d,p⟩ F=>Q _ F;rintro⟨c,d⟩ ⟨U,V,F⟩;dsimp only at U V;exact H _ ⟨F,by dsimp only;rw[K];exact ZV (hp.2.2 c U V)⟩
def lx {p:I oA}{n:Nat}(h :∀s∈p,s.lf.length<=n):rZ p<=n*p.length:=by
 induction p with
 | nil=>exact Xco _
 | cons s t F=>have:=h s (by simp);have:=F λx H=>h x (X18 _ H);rw[E5,X11,Nat.mul_succ];omega
structure tl (a:gE):Prop where
 p:a.Path.length<=1000000
 t:rZ a.Path<=1000000
 c:a.cW.length<=1000000
 l:a.ls.length<=1000000
 o:a.gS.length<=1000000
 d :∀u∈a.gS,u.Data.length<=1000000
def tl.wg {a:gE}(h:tl a):tf a:=by have H:=h.p;have J:=h.t;have K:=h.c;have M:=h.l;have P:=h.o;exact⟨by omega,by omega,by omega,by omega,by omega,λu F=>by have:=h.d u F;omega⟩
def tJ.wb {a:gE}(h:tJ 1000 a):tl a:=by have H:=lx h.s;have J:=h.p;have K:=h.c;have M:=h.l;have P:=h.o;exact⟨by omega,by omega,by omega,by omega,by omega,λu F=>by have:=h.d u F;omega⟩
def tJ.wg {a:gE}(h:tJ 1000 a):tf a:=h.wb.wg
def jN {p:I oA}(h :∀s∈p,OQ s=true):p.length<=rZ p:=by
 induction p with
 | nil=>exact Xco _
 | cons s t H=>have F:=h s (by simp);have K:=H λx J=>h x (X18 _ J);unfold OQ at F;rw[X26,Xh] at F;have:=F.1;rw[E5,X11];omega
def tl.of {a:gE}(h:GE a=true):tl a:=by unfold GE at h;simp only[X26,Xh] at h;obtain⟨F,_,hp,_,_,_,_,H,J,M⟩:=h;unfold Ez at hp;rw[X26,X26,Xm,Xh] at hp;have P:=jN hp.1.1;have Q:=hp.2;have U:=(Je.1 H).2.2;have V:=(JZ.1 J).2.2;unfold EO at F;rw[X26,Xm] at F;refine⟨by omega,by omega,by omega,by omega,by omega,λu K=>?_⟩;have:=F.1 u K;unfold okO at this;simp only[X26,Xh] at this;omega
def iZ {d:px}{n:Int}(F:Dk d):Ok (EI d n) λr=>(Ds r.1.fI/\tJ 1000 r.1.gE)/\Dk r.2:=by unfold EI;refine .bind (Hu F) ?_;rintro⟨p,d⟩ ⟨hp,F⟩;dsimp only at hp F⊢;refine .bind (fZ F) ?_;rintro⟨a,d⟩ ⟨h,F⟩;exact .ret ⟨⟨hp,h⟩,F⟩
def vo {α ρ:Type}{l:I α}{q:α->C}(g:α->(C->O ρ)->O ρ){K:C->O ρ}(hg :∀x∈l,∀k,g x k=k (q x))(b:C) : AB (τ:=C) (λV=>AH (σ:=C) (λJ=>V J) (λF M _ J=>AB (τ:=C) (λP=>if J=true then P true else g M P) λH=>F H) l 0 b) K=K (b || l.any q):=by
 simp only[AC];have key :∀(l:I α) (i:Nat) (b:C),(∀x∈l,∀k,g x k=k (q x))->AH (σ:=C) (λJ=>K J) (λF M _ J=>if J=true then F true else g M λH=>F H) l i b=K (b || l.any q):=by
  intro l;induction l with
  | nil=>intro i b _;rw[List.any_nil,Bool.or_false];rfl
  | cons x t Q=>intro i b h;show (if b=true then AH _ _ t (i+1) true else g x (λH=>AH _ _ t (i+1) H))=_;have U :∀y∈t,∀k,g y k=k (q y):=λy Y=>h y (X18 _ Y);rw[h x (by simp),Q (i+1) true U,Q (i+1) (q x) U,Xdh];cases b<;>rfl
 exact key l 0 b hg
def W0 {α σ ρ:Type}{K:σ->O ρ}{body:(σ->O ρ)->α->Nat->σ->O ρ}(st:σ->α->σ)(I:Nat->σ->Prop) (F :∀n s x,I (n+1) s->I n (st s x)) :∀(l:List α) (i:Nat) (s:σ),(∀next x j s n,x∈l->I (n+1) s->body next x j s=next (st s x))->I l.length s->AH K body l i s=K (l.foldl st s)
 | [],_,_,_,_=>rfl
 | x::t,i,s,H,h=>by show body (λJ=>AH K body t (i+1) J) x i s=_;rw[H _ x i s t.length (by simp) h];exact W0 st I F t (i+1) (st s x) (λnext y j s n M=>H next y j s n (X18 _ M)) (F _ _ _ h)
def ad (b:C)(n:Int):I Int:=cond b [n] []
def OO {ρ:Type}{b:C}{n:Int}{v:I Int}{K:I Int->O ρ}(J:v.length<=1000) : AB (τ:=I Int) (λF=>if b=true then Xg (gH (α:=Int) 8 v ([n]:I Int)) λH=>F H else F v) K=K (v++ad b n):=by
 rw[AC];cases b
 ·rw[Xk (by simp)];show _=K (v++[]);rw[Xb0]
 rw[Xl rfl,AI (by decide) (by simp;omega),AA];rfl
def mE (b:C)(n:Int):(ad b n).length<=1:=by cases b<;>simp[ad]
def IW (p:I oA):I Int:=p.flatMap (·.lf)
def iR (p:I oA):(IW p).length=rZ p:=by
 induction p with
 | nil=>rfl
 | cons s t F=>rw[E5,<- F];simp[IW]
def ky {ρ:Type}{K:I Int->O ρ} :∀(p:I oA) (i:Nat) (acc:I Int),acc.length+rZ p<=1000000000-> AH (σ:=I Int) (λH=>K H) (λF (M:oA) _ H=>Xg (gH (α:=Int) 8 H M.lf) λJ=>F J) p i acc=K (acc++IW p)
 | [],_,acc,_=>by show K acc=K (acc++[]);rw[Xb0]
 | s::t,i,acc,h=>by rw[E5] at h;show Xg (gH (α:=Int) 8 acc s.lf) (λJ=>AH _ _ t (i+1) J)=_;rw[AI (by decide) (by omega),AA,ky t (i+1) _ (by rw[X10];omega)];show K _=K (acc++(s.lf++IW t));rw[Xav]
def S9 {p:I oA}(h:rZ p<=1000000000):G9 p=some (IW p):=by unfold G9;rw[AC];exact ky p 0 [] (by simpa using h)
def I1 {p:I oA}(h:rZ p<=1000000000):FM p=some (IW p):=S9 h
def W3 {p:I oA}(h:Ez p=true){s:oA}(F:s∈p):s.lf≠[]:=by unfold Ez at h;rw[X26,X26,Xm] at h;have:=h.1.1 s F;unfold OQ at this;rw[X26,Xh] at this;intro e;rw[e] at this;exact this.1 rfl
def RA:I oA->Int×C
 | []=>(0,false)
 | s::t=>if (Ez (s::t)&&!s.Set)=true then (s.lf.headD 0,true) else (0,false)
def Ww (s:oA)(t:I oA):RA (s::t)=if (Ez (s::t)&&!s.Set)=true then (s.lf.headD 0,true) else (0,false):=rfl
def Le {α:Type}(x:α)(t:I α):iB (x::t) 0=some x:=Ji [] x t
def eO {l:I Int}(h:l≠[]):iB l 0=some (l.headD 0):=by
 cases l with
 | nil=>exact absurd rfl h
 | cons x t=>exact Le x t
def SJ {p:I oA}(K:p.length<=1000000000)(M:rZ p<=1000000000):G5 p=some (RA p):=by
 unfold G5;rw[Hw (by omega) (by omega),AC,AA];cases p with
 | nil=>cases Ez []<;>rfl
 | cons s t=>
  rw[Le,AA,AA];rw[Ww];have F:((((s::t).length:Nat):Int)==0)=false:=by rw[X11];simp only[Xdx,ne_eq];omega
  rw[F];cases H:Ez (s::t)
  ·rfl
  have hg:=eO (W3 H (Xc6 ..));cases P:s.Set
  ·show (Xg (iB s.lf 0) λJ=>some (J,true))=_;rw[hg,AA];rfl
  rfl
def XY (l:I Int):Int:=l.getLastD 0
def Lr (p:I oA):Int×C:=
 match p.getLast? with
 | none=>(0,false)
 | some s=>if (Ez p&&!s.Set)=true then (XY s.lf,true) else (0,false)
def XG {α:Type}{l:I α}{x:α}(h:l.getLast?=some x)(H:l.length<=1000000000):iB l (AQ ((l.length:Int)-1))=some x:=by
 have F:l≠[]:=by intro e;rw[e] at h;simp at h
 have J:0<l.length:=List.length_pos_iff.2 F;rw[AM (by omega),show (l.length:Int)-1=((l.length-1:Nat):Int) by omega,BS (by omega)];rw[List.getLast?_eq_getElem?,X14 (by omega)] at h;exact h
def Z5 {l:I Int}(h:l≠[]):l.getLast?=some (XY l):=by unfold XY;rw[List.getLastD_eq_getLast?,List.getLast?_eq_some_getLast h];rfl
def Xe {α:Type}(l:I α):(((l.length:Nat):Int)==0)=l.isEmpty:=by
 cases l with
 | nil=>rfl
 | cons x t=>show _=false;rw[X11];simp only[Xdx,ne_eq];omega
def hY {α:Type}{l:I α}{x:α}(h:l.getLast?=some x):x∈l:=by rw[List.getLast?_eq_some_iff] at h;obtain⟨ys,rfl⟩:=h;simp
def bO {p:I oA}{s:oA}(h:p.getLast?=some s)(F:s.lf≠[]):(IW p).getLast?=some (XY s.lf):=by
 rw[List.getLast?_eq_some_iff] at h;obtain⟨ys,rfl⟩:=h;show (List.flatMap _ _).getLast?=_;rw[List.flatMap_append,List.getLast?_append];have:(List.flatMap (λx:oA=>x.lf) [s])=s.lf:=by simp
 rw[this,Z5 F];rfl
def QQ {p:I oA}(J:p.length<=1000000000)(K:rZ p<=1000000000):F9 p=some (Lr p):=by
 unfold F9 Lr;rw[Hw (by omega) (by omega),AC,AA,Xe];cases hp:p.getLast? with
 | none=>have:p=[]:=List.getLast?_eq_none_iff.1 hp;subst this;cases Ez []<;>rfl
 | some s=>
  show _=some (if (Ez p&&!s.Set)=true then (XY s.lf,true) else (0,false));have F:=hY hp;have M:p.isEmpty=false:=by cases p with
   | nil=>cases F
   | cons _ _=>rfl
  rw[M,XG hp J,AA];cases P:Ez p
  ·rfl
  have hg:=bO hp (W3 P F);cases U:s.Set
  ·show (Xg (FM p) λH=>Xg (iB H (AQ ((H.length:Int)-1))) λQ=>some (Q,true))=_;rw[I1 K,AA,XG hg (by rw[iR];omega),AA];rfl
  rfl
def W7 (p:I oA) :∃v,Dn p=some v:=by
 have h:Ok (Dn p) λ_=>True:=by unfold Dn;refine .join (λ_=>True) (λk H=>.for_ (λs=>H s trivial) λnext x i s _ _ J=>?_) λ_ _=>.ret trivial;exact .join (λ_=>True) (λK F=>.ite (λ_=>F _ trivial) λ_=>F _ trivial) λv _=>J v
 obtain⟨v,e,_⟩:=h;exact⟨v,e⟩
def Zm (p:I oA):Int:=(Dn p).getD 0
def Oj (p:I oA):Dn p=some (Zm p):=by obtain⟨v,h⟩:=W7 p;unfold Zm;rw[h];rfl
def QB (p:I oA):He p=some (Zm p):=Oj p
def SY {α:Type}{l:I α}{e:α->α->C}(h :∀a b,e a b=e b a)(x:α):(l.any λy=>e x y)=l.any λy=>e y x:=by congr 1;funext y;exact h x y
def V7 (a b:Int):(a==b)=(b==a):=Bool.beq_comm
def cP (a b:Addr):Addr.qK a b=Addr.qK b a:=by rw[X27,Addr.qm,Addr.qm];exact⟨Eq.symm,Eq.symm⟩
def VU {p:I oA}(F:rZ p<=1000000000)(n:Int):JK p n=some ((IW p).any λx=>n==x):=by unfold JK;rw[I1 F,AA,AC,SY V7];exact kf (e:=λx y:Int=>x==y) (IW p) 0
def OE (l:I Int)(n:Int):Fj l n=some (l.any λx=>n==x):=by unfold Fj;rw[AC,SY V7];exact kf (e:=λx y:Int=>x==y) l 0
def Xx (a b c:Int):BM a b c=some (decide (b<=a)&&decide (a<=c)):=Hh a b c
def GL (a:gE):C:=a.cW.any λy=>oF.qK y ⟨65535,666⟩
def MW (a:gE):Gh a=some (GL a):=by unfold Gh;rw[Uy,AA];rfl
def wd (o:oB):oB:={ o with Max:=cond o.fI.Addr.V6 128 32 }
def O7 (b:C):Dj b=some (cond b 128 32):=by unfold Dj;cases b<;>rfl
def KJ {l:I oB}(P:l.length<=1000000):D1 l=some (l.map wd):=by
 unfold D1;rw[AC];have h:=W0 (K:=λJ:I oB=>some J) (body:=λH (M:oB) (_:Nat) J=>Xg (Dj M.fI.Addr.V6) λQ=>Xg (gH (α:=oB) 48 J ([{ M with Max:=Q }]:I oB)) λU=>H U)
  (λv x=>v++[wd x]) (λn v=>v.length+n<=1000000) (λn s x h=>by simp;omega) l 0 []
  (λnext x j s n _ h=>by
   show Xg (Dj x.fI.Addr.V6) _=_
   rw[O7,AA,AI (by decide) (by simp;omega),AA];rfl)
  (by simpa using P)
 refine h.trans ?_;have key :∀(l F:I oB),l.foldl (λv x=>v++[wd x]) F=F++l.map wd:=by
  intro l;induction l with
  | nil=>intro F;simp
  | cons x t V=>intro F;rw[Xbb,V];simp
 rw[key,Xba]
def cK {l:I Int}(h:l.length<=1000000):C5 l=some l:=by unfold C5;rw[AI (by decide) (by simp;omega),AA]
def aG {l:I S}(h:l.length<=1000000):CQ l=some l:=by unfold CQ;rw[AI (by decide) (by simp;omega),AA]
def ew (n:Int)(a:gE):C:=Dh n&&(a.qz !=-1)
def Oz {n:Int}{a:gE}:Ok (FB 1 n a) λr=>(r.2==30)=ew n a:=by
 unfold FB ew;have J:JO 1 n=some (!Dh n):=by
  unfold JO Dh;rw[show Gs 1=some 2 from rfl,AC,AA,Xk (by decide)];by_cases h1:n<1
  ·rw[Xl (by simpa using h1),Wd (p:=1<=n) (by omega)];rfl
  rw[Xk (by simpa using h1),Xn (p:=1<=n) (by omega)];by_cases F:n>4294967295
  ·rw[Xn F,Wd (p:=n<=4294967295) (by omega)];rfl
  rw[Wd F,Xn (p:=n<=4294967295) (by omega)];rfl
 rw[J,AA];simp only[AC];cases Dh n
 ·exact .ret rfl
 rw[Xk (by simp),Xk (by decide),show (cond false true ((1:Int)==2))=false from rfl];cases H:(a.qz !=-1)
 ·rw[Xk (by simp),Xk (by simp)];have:(a.qz==-1)=true:=by rw[bne] at H;simpa using H
  rw[this,Xl rfl,Xk (by simp),show (cond true (cond false true ((1:Int)==4)) false)=false from rfl,Xk (by simp)];exact .ret rfl
 rw[Xl rfl,Xl (by rfl),Xl (by decide),Xl trivial];exact .ret rfl
def uX (p:fI)(n:Int)(s:Int×I oB)(o:oB):Int×I oB:=
 cond (ta o.fI p) (cond (o.ql==n&&(n !=0&&decide (o.Max≥p.qo))) 1 (cond (s.1==0) 2 s.1),s.2++[o]) s
def xh (l:I oB)(p:fI)(n:Int):Int:=(l.foldl (uX p n) (0,[])).1
def kK (p:fI)(n:Int)(s:Int×I oB)(o:oB):(uX p n s o).2.length<=s.2.length+1:=by
 unfold uX;cases ta o.fI p
 ·exact Nat.le_succ _
 show (s.2++[o]).length<=_;simp
def RG {l:I oB}{p:fI}{n:Int}(F:l.length<=1000000)(hp:p.Addr.ok=true):Gv l p n=some (l.foldl (uX p n) (0,[])):=by
 unfold Gv;simp only[AC];refine W0 (K:=λs:Int×I oB=>some (s.1,s.2)) (uX p n) (λk s=>s.2.length+k<=1000000) (λk s x h=>by have:=kK p n s x;omega) l 0 (0,[]) (λnext x j s k _ h=>?_) (by simpa using F);obtain⟨a,b⟩:=s;dsimp only at h⊢;rw[EH hp,AA];unfold uX;cases ta x.fI p
 ·rfl
 rw[Xk (by simp),AI (by decide) (by simp;omega),AA];dsimp only;simp only[Xcm];cases (x.ql==n)
 ·cases (a==0)<;>rfl
 cases (n !=0)
 ·cases (a==0)<;>rfl
 cases decide (x.Max≥p.qo)
 ·cases (a==0)<;>rfl
 cases (a==0)<;>rfl
def iW (r:qS)(h:Int)(n:T)(p:fI)(o:Int):Int:=(CN r h n p o).getD 1
def eh {r:qS}{h:Int}{n:T}{p:fI}{o:Int}(K :∀s∈r.pk,Qm s)(hn:n.size<=Xb6) : True/\CN r h n p o=some (iW r h n p o):=by
 suffices hs:Ok (CN r h n p o) λ_=>True by obtain⟨v,U,_⟩:=hs;unfold iW;rw[U];exact⟨trivial,rfl⟩
 unfold CN;rw[Ht K,AA];cases H:Ru r
 ·exact .ret trivial
 rw[Xk (by simp),AC];obtain⟨_,_,_,V⟩:=Rh.1 H;have key :∀v:I Int,Ok (Xg (GW v o) λY=>if (!Y)=true then some 17 else Xg (Ho r v) λZ=>Xg (CY Z p o) λJ=>some J) λ_=>True:=by
  intro v;obtain⟨l,e2,_⟩:=QP (r:=r) (s:=v) (by omega);rw[has_eq,e2];simp only[AA,On];cases (v.any λx=>o==x)
  ·exact .ret trivial
  exact .ret trivial
 by_cases he:(!(n.toList==(Xce (Xcf Xdr)).toList))=true
 ·rw[Xl he];obtain⟨M,P⟩:=fa H;obtain⟨⟨a,m,e⟩,e2,F⟩:=NN M K H (n:=n);rw[e2,AA];dsimp only;by_cases Q:(e !=0)=true
  ·rw[Xl Q];exact .ret trivial
  rw[Xk Q];have ha:a.length<=1000000:=by
   rcases F with ⟨_,F⟩|⟨_,_,_,F⟩
   ·simp only[X25] at F;rw[F.1];simp
   have:=js M F;simp only at this;omega
  rw[AI (by decide) (by simp;omega),AA];exact key _
 rw[Xk he];exact key _
end Go.AX.Q25
end
section
namespace Go.AX.Q25
open Go Go.AX
structure wa (f:qI):Prop where
 s :∀s∈f.qS.pk,Qm s
 o:f.qS.oX.length<=1000000
 r:f.qi.length<=1000000
 l :∀x∈f.rD,x.Addr.ok=true
def uR (b:C)(l:I oB):I oB:=cond b (l.map wd) l
def kn (b:C)(l:I oB):(uR b l).length=l.length:=by cases b<;>simp[uR]
def jw (p:I oA):Int:=cond (Lr p).2 (Lr p).1 (-1)
def od (f:qI)(h:C):qS:=⟨f.qS.pk,uR h f.qS.oX⟩
def b1 (p:kI)(r:o3):C:=!(RA r.gE.Path).2 || ((RA r.gE.Path).1 !=p.ql)
def b2 (p:kI)(r:o3):C:=!(p.oE.any λx=>Addr.qK r.gE.Next x)
def b3 (f:qI)(r:o3):C:=decide (Zm r.gE.Path>f.sf)
def tx (f:qI)(r:o3):C:=(IW r.gE.Path).any λx=>f.tg==x
def b5 (r:o3):C:=r.gE.Path.any λs=>s.Set
def pv (f:qI)(n:Int):C:=f.qp.any λs=>decide (s.qM<=n)&&decide (n<=s.To)
def b6 (f:qI)(r:o3):C:=(IW r.gE.Path).any (pv f)
def uK (l:I Int)(n:Int):C:=l.any λx=>n==x
def fr (f:qI)(p:kI)(n:Int):C:=(n !=p.ql)&&uK f.qX n
def b7 (f:qI)(p:kI)(r:o3):C:=!(uK f.qX p.ql)&&(IW r.gE.Path).any (fr f p)
def b8 (p:kI)(r:o3):C:=ew p.ql r.gE
def b9 (f:qI)(r:o3):C:=f.rD.any λx=>ta x r.fI || ta r.fI x
def tZ (f:qI)(r:o3):C:=f.qF.any λx=>ta x r.fI
def vb (f:qI)(r:o3)(h:C):C:=
 cond h (decide (r.fI.qo<cond r.fI.Addr.V6 f.rM f.rK)) (!(decide (cond r.fI.Addr.V6 f.s8 f.sd<=r.fI.qo)&&decide (r.fI.qo<=cond r.fI.Addr.V6 f.qg f.qh)))
def uC (f:qI)(p:kI)(r:o3)(h:C):C:=iW (od f h) p.ql p.Set r.fI (jw r.gE.Path) !=0
def ul (f:qI)(r:o3)(h:C):C:=xh (uR h f.qi) r.fI (jw r.gE.Path)==2
def NJ (f:qI)(p:kI)(r:o3):I (Int×C):=
 [(2,b1 p r),(3,b2 p r),(4,b3 f r),(5,tx f r),(6,b5 r),(7,b6 f r),(8,b7 f p r),(9,b8 p r),(10,b9 f r),(11,tZ f r),(12,vb f r (GL r.gE)),(13,uC f p r (GL r.gE)),(14,ul f r (GL r.gE))]
def fs:I (Int×C)->I Int
 | []=>[]
 | (k,b)::t=>ad b k++fs t
def MM (r:o3):C:=DC r.fI&&(GE r.gE&&((r.gE.gT !=-1)&&(!(r.gE.Path.isEmpty)&&(!(Addr.qK r.gE.Next ⟨false,0,0⟩)&&(r.gE.Next.V6==r.fI.Addr.V6)))))
def Qy (f:qI)(p:kI)(r:o3):I Int:=cond (MM r) (fs (NJ f p r)) [1]
def iF {r:o3}(h:MM r=true):tl r.gE:=by unfold MM at h;rw[X26,X26] at h;exact tl.of h.2.1
def mC {r:o3}(h:tf r.gE):JA r=some (!MM r):=by
 unfold JA MM;rw[C0,AC,AA,Ld h,AA,Xe];have e:(r.gE.gT==-1)=!(r.gE.gT !=-1):=by rw[bne,Bool.not_not]
 rw[e];generalize (r.gE.Path.isEmpty)=c;generalize (r.gE.gT !=-1)=d;generalize (Addr.qK r.gE.Next ⟨false,0,0⟩)=g;generalize (r.gE.Next.V6==r.fI.Addr.V6)=q;cases DC r.fI
 ·rfl
 cases GE r.gE
 ·rfl
 cases d
 ·rfl
 cases c
 ·cases g<;>cases q<;>rfl
 rfl
section
variable {x:qR}
end
def nC (m:Int)(out:I Int)(u:Int×C):I Int:=cond (decide ((out.length:Int)<m)&&u.2) (out++[u.1]) out
end Go.AX.Q25
end
section
namespace Go.AX.Q25
open Go Go.AX
def after {ρ:Type}{x:qR}{m:Nat}(M:m<=1000){b c:C}{k:Int}{out:I Int}{next:qR×I Int->O ρ}(K:c=decide ((out.length:Int)<m)) : (if c=true then AB (τ:=I Int) (λF=>if b=true then Xg (gH (α:=Int) 8 out ([k]:I Int)) λH=>F H else F out) (λJ=>next (x,J)) else next (x,out))=next (x,nC m out (k,b)):=by
 unfold nC;subst K;by_cases h:(out.length:Int)<m
 ·rw[Xn h,Xl rfl,OO (by omega)];cases b
  ·show next (x,out++[])=next (x,out)
   rw[Xb0]
  rfl
 rw[Wd h,Xk (by simp)];rfl
def uB (f:qI)(p:kI)(r:o3):Int:=(Qy f p r).headD 0
def xz {ρ:Type}{a b:C}{K:C->O ρ}:AB (τ:=C) (λF=>if (!a)=true then F true else F (cond false true b)) K=K (!a || b):=by rw[AC];cases a<;>rfl
def CV {l:I Int}{n:Nat}(h:l.length<=n)(b:C)(k:Int):(l++ad b k).length<=n+1:=by have:=mE b k;rw[X10];omega
def fq {f:qI}{p:kI}(l:I Int)(a b:C):l.foldl (λ(s:C×C) n=>(s.1 || pv f n,s.2 || (!(uK f.qX p.ql)&&fr f p n))) (a,b)=(a || l.any (pv f),b || (!(uK f.qX p.ql)&&l.any (fr f p))):=by
 induction l generalizing a b with
 | nil=>simp
 | cons n t F=>rw[Xbb,F,Xdh,Xdh];cases a<;>cases b<;>cases pv f n<;>cases fr f p n<;>cases uK f.qX p.ql<;>simp
def dF {f:qI}{p:kI}{r:o3}(Y:tl r.gE) : F5 f p r.gE=some ([]++ad (b1 p r) 2++ad (b2 p r) 3++ad (b3 f r) 4++ad (tx f r) 5++ad (b5 r) 6++ad (b6 f r) 7++ad (b7 f p r) 8++ad (b8 p r) 9):=by
 have l0:([]:I Int).length<=0:=Xa2 _;have l1:=CV l0 (b1 p r) 2;have l2:=CV l1 (b2 p r) 3;have l3:=CV l2 (b3 f r) 4;have l4:=CV l3 (tx f r) 5;have l5:=CV l4 (b5 r) 6;have l6:=CV l5 (b6 f r) 7;have l7:=CV l6 (b7 f p r) 8;unfold F5;rw[SJ (by have:=Y.p;omega) (by have:=Y.t;omega),AA];obtain⟨u,v,hq⟩ :∃u v,RA r.gE.Path=(u,v):=⟨_,_,rfl⟩;have e1:(!v || (u !=p.ql))=b1 p r:=by unfold b1;rw[hq]
 rw[hq];show AB (τ:=C) (λk3=>if (!v)=true then k3 true else k3 (cond false true (u !=p.ql))) _=_;rw[xz,e1,OO (by omega)];refine (vo (q:=λx=>Addr.qK x r.gE.Next) (λx k=>k (cond false true (Addr.qK x r.gE.Next))) (λ_ _ _=>rfl) false).trans ?_;have e2:(!(false || p.oE.any λx=>Addr.qK x r.gE.Next))=b2 p r:=by unfold b2;rw[Bool.false_or,SY cP]
 rw[e2,OO (by omega),QB,AA];show AB (τ:=I Int) (λZ=>if b3 f r=true then _ else _) _=_;rw[OO (by omega),VU (by have:=Y.t;omega),AA];show AB (τ:=I Int) (λZ=>if tx f r=true then _ else _) _=_;rw[OO (by omega)];refine (vo (q:=λx:oA=>x.Set) (λx k=>k (cond false true x.Set)) (λ_ _ _=>rfl) false).trans ?_;rw[I1 (by have:=Y.t;omega),AA];have hl :∀(K:C×C->O (I Int)),AB (τ:=C×C) (λa1=>AH (σ:=C×C) (λ(v37,P)=>a1 (v37,P)) (λF (H:Int) i41 (v37,P)=>AB (τ:=C×C) (λa6=>AB (τ:=C) (λa7=>AH (σ:=C) (λQ=>a7 Q ) (λJ (V:rc) i47 Q=>AB (τ:=C) (λU=>if Q then U true else if (decide (H≥V.qM)) then U (cond false true (cond true (decide (H<=V.To)) false)) else U false ) λa8=>J a8 ) f.qp 0 v37 ) λaa=>AB (τ:=C) (λM=>if P then M true else if (H !=p.ql) then Xg (Fj f.qX H) λab=>if (cond true ab false) then Xg (Fj f.qX p.ql) λae=>M (cond false true (cond true (!ae) false)) else M false else M false ) λaf=>a6 (aa,af) ) λ(v55,ag)=>F (v55,ag)) (IW r.gE.Path) 0 (false,false)) K=K (b6 f r,b7 f p r):=by
  intro K;rw[AC];refine (W0 (K:=λs:C×C=>K (s.1,s.2)) (λ(s:C×C) n=>(s.1 || pv f n,s.2 || (!(uK f.qX p.ql)&&fr f p n))) (λ_ _=>True) (λ_ _ _ _=>trivial) (IW r.gE.Path) 0 (false,false) (λnext n j s _ _ _=>?_) trivial).trans ?_
  ·obtain⟨a,b⟩:=s;dsimp only;rw[AC];refine (vo (q:=λs:rc=>decide (s.qM<=n)&&decide (n<=s.To)) (λs k=>if (decide (n≥s.qM))=true then k (cond false true (cond true (decide (n<=s.To)) false)) else k false) (λs _ k=>?_) a).trans ?_
   ·by_cases h1:s.qM<=n
    ·rw[Xl (by simpa using h1),Xn h1];rfl
    rw[Xk (by simpa using h1),Wd h1];rfl
   rw[AC,OE,OE,AA,AA];unfold fr uK;show _=next (a || pv f n,_)
   unfold pv;cases b
   ·cases (n !=p.ql)
    ·simp
    cases (f.qX.any λx=>n==x)
    ·simp
    cases (f.qX.any λx=>p.ql==x)<;>rfl
   simp
  rw[fq];rfl
 refine (hl _).trans ?_;dsimp only;show AB (τ:=I Int) (λah=>if b5 r=true then _ else _) _=_;rw[OO (by omega),OO (by omega),OO (by omega)];obtain⟨⟨c,d⟩,e,he⟩:=Oz (n:=p.ql) (a:=r.gE);rw[e,AA];dsimp only at he⊢;have e8:(d==30)=b8 p r:=he;rw[e8,OO (by omega)]
def jo {f:qI}{r:o3}:Hv f r=some (vb f r (GL r.gE)):=by
 unfold Hv vb;rw[AC,MW];have key :∀F H J:Int,(if GL r.gE=true then some (decide (r.fI.qo<J)) else AB (τ:=C) (λK=>if decide (r.fI.qo<F)=true then K true else K (cond false true (decide (r.fI.qo>H)))) λP=>some P)=some (cond (GL r.gE) (decide (r.fI.qo<J)) (!(decide (F<=r.fI.qo)&&decide (r.fI.qo<=H)))):=by
  intro F H J;cases GL r.gE
  ·rw[Xk (by simp),AC];by_cases h1:r.fI.qo<F
   ·rw[Xl (by simpa using h1),Wd (p:=F<=r.fI.qo) (by omega)];rfl
   rw[Xk (by simpa using h1),Xn (p:=F<=r.fI.qo) (by omega)];by_cases M:r.fI.qo>H
   ·rw[Xn M,Wd (p:=r.fI.qo<=H) (by omega)];rfl
   rw[Wd M,Xn (p:=r.fI.qo<=H) (by omega)];rfl
  rfl
 cases r.fI.Addr.V6
 ·exact key _ _ _
 exact key _ _ _
def cX {f:qI}{p:kI}{r:o3}(M:wa f)(hp:p.Set.size<=Xb6)(P:tf r.gE):JC f p r=some (Qy f p r):=by
 unfold JC Qy;rw[mC P,AA];cases F:MM r
 ·rfl
 have P:=iF F;have H:r.fI.Addr.ok=true:=by unfold MM at F;rw[X26] at F;exact ((Ll _).1 F.1).1
 have l0:([]:I Int).length<=0:=Xa2 _;have l1:=CV l0 (b1 p r) 2;have l2:=CV l1 (b2 p r) 3;have l3:=CV l2 (b3 f r) 4;have l4:=CV l3 (tx f r) 5;have l5:=CV l4 (b5 r) 6;have l6:=CV l5 (b6 f r) 7;have l7:=CV l6 (b7 f p r) 8;have l8:=CV l7 (b8 p r) 9;have l9:=CV l8 (b9 f r) 10;have V:=CV l9 (tZ f r) 11;have Y:=CV V (vb f r (GL r.gE)) 12;have aa:=CV Y (uC f p r (GL r.gE)) 13;rw[Xk (by simp),dF P,AA];refine (vo (q:=λx=>ta x r.fI || ta r.fI x) (λx k=>Xg (BP x r.fI) λv9=>if (cond false true v9)=true then k true else Xg (BP r.fI x) λZ=>k (cond false true Z)) (λx hx k=>?_) false).trans ?_
 ·rw[EH H,EH (M.l x hx),AA,AA];cases ta x r.fI<;>rfl
 refine (vo (q:=λx=>ta x r.fI) (λx k=>Xg (BP x r.fI) λa1=>k (cond false true a1)) (λx _ k=>?_) false).trans ?_
 ·rw[EH H,AA];rfl
 show AB (τ:=I Int) (λJ=>if b9 f r=true then _ else _) _=_;rw[OO (by omega)];show AB (τ:=I Int) (λJ=>if tZ f r=true then _ else _) _=_;rw[OO (by omega),jo,AA,OO (by omega),MW,AA];have hw :∀(K:I oB×I oB->O (I Int)),AB (τ:=(I oB)×(I oB)) (λQ=>if GL r.gE=true then Xg (D1 f.qS.oX) λa6=>Xg (D1 f.qi) λa7=>Q (a7,a6) else Q (f.qi,f.qS.oX)) K=K (uR (GL r.gE) f.qi,uR (GL r.gE) f.qS.oX):=by
  intro K;rw[AC];cases GL r.gE
  ·rfl
  rw[Xl rfl,KJ M.o,AA,KJ M.r,AA];rfl
 refine (hw _).trans ?_;dsimp only;rw[QQ (by have:=P.p;omega) (by have:=P.t;omega),AA];have ho :∀(K:Int->O (I Int)),(match Lr r.gE.Path with|(a8,v39)=>AB (τ:=Int) (λU=>if (!v39)=true then U (-1) else U a8) K)=K (jw r.gE.Path):=by intro K;unfold jw;generalize Lr r.gE.Path=q;obtain⟨u,v⟩:=q;dsimp only;rw[AC];cases v<;>rfl
 refine (ho _).trans ?_;rw[(eh (r:=(⟨f.qS.pk,uR (GL r.gE) f.qS.oX⟩:qS)) M.s hp).2,AA];show AB (τ:=I Int) (λJ=>if uC f p r (GL r.gE)=true then _ else _) _=_;rw[OO (by omega),RG (by rw[kn];exact M.r) H,AA];show AB (τ:=I Int) (λJ=>if ul f r (GL r.gE)=true then _ else _) _=_;rw[OO (by omega)];show some _=some (fs (NJ f p r));unfold NJ;simp only[fs,Xav,Xba,Xb0]
def XA {f:qI}{p:kI}{r:o3}(F:wa f)(hp:p.Set.size<=Xb6)(H:tf r.gE):Gz f p r=some (uB f p r):=by
 unfold Gz uB;rw[cX F hp H,AA];cases Qy f p r with
 | nil=>rfl
 | cons x t=>rw[Xl (by simp),Le,AA];rfl
end Go.AX.Q25
end
