/-
  Texts of one proof, packed.
-/
import Derived.Test.YthbbpeeghmpcfaaGreatDoorR18
import Derived.Test.YthbbpeeghmpcfaaGreatDoorR31
import Derived.Test.YthbbpeeghmpcfaaGreatDoorR32
import Derived.Test.YthbbpeeghmpcfaaGreatDoorR33
import Derived.Test.YthbbpeeghmpcfaaGreatDoorR34
import Derived.Test.YthbbpeeghmpcfaaGreatDoorR35
set_option linter.all false
set_option maxRecDepth 100000
set_option maxHeartbeats 4000000
open List renaming length_map→X1,length_append→X2,length_drop→X14,length_take→X15,length_replicate→X17,length_set→X18
open Nat renaming le_of_ble_eq_true→X26
open Int renaming toNat→Xa0,tdiv→Xd7
open List renaming map→Xa5,replicate→Xaa
section
namespace Go.AX.Q33
open Go Go.AX Go.Proofs
variable {wl:Prop}
instance {a0:O gL}:CK (D4 a0) 87 [ed a0] [] e2 oN:=Wf 166 Tryz.f87 λh=>by
 refine⟨rfl,?_⟩;unfold D4 at h;(conv=>whnf);refine Bv h (λ_=>M6.ok) λv1 h=>?_;refine Bv h (λ_=>Bf.ok) λ_ h=>?_;refine Al ?_;refine CY h ?_ ?_<;>intro h
 ·exact fin h
 refine Ag h (λ(v2,v3,v4,v5,v6,v7,v8,v9,ak,al,an)=>⟨y7 v1::X::yr 2 0::dd 12 (AV.Ca [AV.agg [yi v2,yO 64 r8.cW ak,yb v3,yu v4,yu v5,yi v6,yi v7,yi v8,yO 65 oF.cW al,yO 67 iX.cW an,AV.d (D.nil 3)],yb v9]::dd 52 ([])),N::N::yB gH.zv::nn 61 (yR 176 2 r8.cW ak::yR 206 2 oF.cW al::N::yR 208 3 iX.cW an::nn 166 ([]))⟩) ?_ ?_
 ·intro _ h;(conv=>whnf);refine inl Tryz.f120 68 (by kernel_rfl) (by kernel_rfl) ⟨rfl,?_⟩;refine Ag h (λ_=>⟨y7 v1::X::yr 70 0::dd 6 (AV.d (D.agg [D.i (-1),D.nil 2,D.b false,D.u64 (0:j),D.u64 (0:j),D.i (-1),D.i (-1),D.i (-1),D.nil 2,D.nil 3,D.nil 3])::dd 29 ([])),N::N::yB gH.zv::nn 67 (yB gH.zv::nn 163 ([]))⟩) ?_ ?_
  ·intro _ h;exact Wg (.i Tryz.f86 107 .z) h
  rintro _ h;refine⟨v1.length,X1 _,?_⟩;refine Ag h (λ(cd,cf,cg,ch,cj,ck,cm,cn,cp,cq)=>⟨X::X::yr 70 0::X::yr 72 0::dd 34 ([]),TH cd cf cg ch cj ck cm cn cp cq⟩) ?_ ?_
  ·intro _ h;revert h;refine Cj 10 3 gL.cW rfl (λa6 (U,M,P,Q,V,Y,Z,J,F,H)=>⟨X::X::yr 70 0::X::yr 72 0::dd 5 (y7 v1::yi (v1.length:Int)::yi (a6:Int)::dd 26 ([])),TH U M P Q V Y Z J F H⟩) ?_ ?_ ?_
   ·exact wk
   ·rintro⟨U,M,P,Q,V,Y,Z,J,F,H⟩ ev h;exact Wg (.e .z) h
   rintro _ a6 K ⟨U,M,P,Q,V,Y,Z,J,F,H⟩ ev cs ew gq h gr;delta FK at h;refine Al ?_;refine HA (K6 cs) ?_;refine Ag h (λ(ct,cu,cv,cx,cy,cz,da,db,dc,de)=>⟨X::X::yr 70 0::X::yr 72 0::dd 5 (y7 v1::yi (v1.length:Int)::yi (a6:Int)::dd 26 ([])),TH ct cu cv cx cy cz da db dc de⟩) ?_ ?_
   ·intro _ h;refine⟨Fv (f:=gL.cW) cs,gL.cW K,ew,rfl,?_⟩;(conv=>whnf);by_cases a8:(K.gE==1)=true
    ·replace h:=Rb a8 h;refine⟨_,(H2 a8),_,rfl,_,rfl,?_⟩;exact Wg (.y 39 234 (.a (.b .z (.a (.i Tryz.f223 107 (.v λey=>.y 20 234 (.k (λez=>⟨[(4,yb ez)],[(2,yB gH.zv),(70,yB gH.zv),(72,yB [yi ey,yO 106 r8.cW J,yb M,yu P,yu Q,yi V,yi Y,yi Z,yO 105 oF.cW F,yO 104 iX.cW H,AV.d (D.nil 3)]),(74,yB (gL.av K)),(104,yR 208 3 iX.cW H),(105,yR 206 2 oF.cW F),(106,yR 176 2 r8.cW J)]⟩)))) (u2 λfa fb=>⟨[(2,yr 70 0),(4,yr 72 0),(10,y7 v1),(11,yi (v1.length:Int)),(12,yi (a6:Int)),(24,yb true),(28,yb false),(32,yb fa)],[(2,yB gH.zv),(70,yB gH.zv),(72,yB [yi fb,yO 106 r8.cW J,yb M,yu P,yu Q,yi V,yi Y,yi Z,yO 105 oF.cW F,yO 104 iX.cW H,AV.d (D.nil 3)]),(104,yR 208 3 iX.cW H),(105,yR 206 2 oF.cW F),(106,yR 176 2 r8.cW J)]⟩))) (u2 λfc fe=>⟨[(2,yr 70 0),(4,yr 72 0),(10,y7 v1),(11,yi (v1.length:Int)),(12,yi (a6:Int)),(35,yb fc)],[(2,yB gH.zv),(70,yB gH.zv),(72,yB [yi fe,yO 106 r8.cW J,yb M,yu P,yu Q,yi V,yi Y,yi Z,yO 105 oF.cW F,yO 104 iX.cW H,AV.d (D.nil 3)]),(104,yR 208 3 iX.cW H),(105,yR 206 2 oF.cW F),(106,yR 176 2 r8.cW J)]⟩))) h
    replace h:=Qo a8 h;by_cases ae:(K.gE==2)=true
    ·replace h:=Rb ae h;refine⟨_,(Ac a8 (H2 ae)),_,rfl,_,rfl,?_⟩;refine Ag h (λ(dg,dh)=>⟨ui (v1.length:Int) (a6:Int) dg v1,TH U M P Q V Y Z dh F H⟩) ?_ ?_
     ·intro _ h;refine Bv h (λ_=>GF.ok) λ_ h=>?_;refine VG h λh=>?_;refine Ag h (λ(di,dj)=>⟨zS5 (v1.length:Int) (a6:Int) true false di v1,TH U M P Q V Y Z dj F H⟩) ?_ ?_
      ·intro _ h;(conv=>whnf);refine inl Tryz.f224 107 (by kernel_rfl) (by kernel_rfl) ⟨rfl,?_⟩;refine Ag h (λc9=>⟨yr 72 0::dd 126 ([]),N::N::yB gH.zv::nn 67 (yB gH.zv::N::Pa U M P Q V Y Z c9 F H::N::yB (gL.av K)::nn 29 (yR 208 3 iX.cW H::yR 206 2 oF.cW F::yR 176 2 r8.cW c9::nn 127 ([])))⟩) ?_ ?_
       ·intro _ h;obtain⟨_,ff,h⟩:=AM h;have gi:(Xa5 r8.cW J).length=0:=(by rw[Dc ff];rfl);revert h;refine BO (λ(bd,aa,az,ai)=>⟨yr 72 0::y0 bd::dd 125 ([]),N::N::yB gH.zv::nn 67 (yB gH.zv::N::Pa U M P Q V Y Z aa F H::N::yB (gL.av K)::nn 29 (yR 208 3 iX.cW H::yR 206 2 oF.cW F::some (OB.row 176 2 (Xa5 r8.cW aa) (.lk az 1 232 (Xa5 D.i ai).length))::nn 125 (some (OB.row 3 1 (Xa5 D.i ai) .Dd)::N::[])))⟩) ?_ ?_
        ·exact wk
        rintro _ ⟨bd,aa,az,ai⟩ _ h fg;refine⟨bd.length,X1 _,?_⟩;refine Al ?_;refine HY h λh=>?_;refine Al ?_;refine Ag h (λdk=>⟨yr 72 0::y0 bd::dd 40 (yb dk::dd 84 ([])),N::N::yB gH.zv::nn 67 (yB gH.zv::N::Pa U M P Q V Y Z aa F H::N::yB (gL.av K)::nn 29 (yR 208 3 iX.cW H::yR 206 2 oF.cW F::some (OB.row 176 2 (Xa5 r8.cW aa) (.lk az 1 232 (Xa5 D.i ai).length))::nn 125 (some (OB.row 3 1 (Xa5 D.i ai) .Dd)::N::[])))⟩) ?_ ?_
        ·intro _ h;exact Wg .z h
        rintro dk h;refine Al ?_;refine CY h ?_ ?_<;>intro h
        ·exact Wg (.x 232 103) h
        (conv=>whnf);refine Hq h (λ_=>rfl) λfh h=>?_;refine⟨_,QC fh,?_⟩;refine⟨_,rfl,?_⟩;refine⟨_,rfl,?_⟩;refine .inl (dO ?_);(conv=>whnf);refine Hq h (λ_=>rfl) λdl h=>?_;(conv=>whnf);refine uh (f:=D.u8) h λ_ h=>?_;refine Z8 h (λ_=>E7.ok) rfl λfi h=>?_;refine cO ?_;(conv=>whnf);refine wm (f:=D.u8) h λca h=>?_;refine Ag h (λba=>⟨yr 72 0::y0 ca::dd 4 (yr 113 0::dd 120 ([])),N::N::yB gH.zv::nn 67 (yB gH.zv::N::Pa U M P Q V Y Z aa F H::N::yB (gL.av K)::nn 29 (yR 208 3 iX.cW H::yR 206 2 oF.cW F::some (OB.row 176 2 (Xa5 r8.cW aa) (.lk az 1 232 (Xa5 D.i ai).length))::nn 6 (yB [yb ((dl.toNat:Int)==1),yO 175 D.i ba]::nn 61 (yR 3 1 D.i ba::nn 56 (some (OB.row 3 1 (Xa5 D.i ai) .Dd)::N::[])))))⟩) ?_ ?_
        ·intro _ h;refine CY h ?_ ?_<;>intro h
         ·obtain⟨fj,dm,h⟩:=AM h;have gj:=jI dm;refine⟨_,_,some [],Zx dm,?_⟩;obtain⟨gu,fk,h⟩:=AM h;have fm:(Xa5 D.i fj).length=(Xa5 D.i fi).length:=(by first|rfl|(simp only[X1,X18];omega)|(simp only[Qt,X1,X18,X2,X15,X14,X17];omega)|(simp only[X1] at *;omega));refine⟨_,_,some [175],(fm▸JE.ok fk),?_⟩;exact CI h
         exact Wg (.x 163 175) h
        rintro ba h;refine⟨aa.length,EW,?_⟩;refine⟨_,rfl,?_⟩;refine Ag h (λdn=>⟨yr 72 0::y0 ca::dd 4 (yr 113 0::yi (AG ((aa.length:Int)-1))::dd 85 (yb dn::dd 33 ([]))),N::N::yB gH.zv::nn 67 (yB gH.zv::N::Pa U M P Q V Y Z aa F H::N::yB (gL.av K)::nn 29 (yR 208 3 iX.cW H::yR 206 2 oF.cW F::some (OB.row 176 2 (Xa5 r8.cW aa) (.lk az 1 232 (Xa5 D.i ai).length))::nn 6 (yB [yb ((dl.toNat:Int)==1),yO 175 D.i ba]::nn 61 (yR 3 1 D.i ba::nn 56 (some (OB.row 3 1 (Xa5 D.i ai) .Dd)::N::[])))))⟩) ?_ ?_
        ·intro _ h;exact Wg .z h
        rintro dn h;refine Ag h (λ(cb,dp,cc)=>⟨yr 72 0::y0 ca::dd 125 ([]),N::N::yB gH.zv::nn 67 (yB gH.zv::N::Pa U M P Q V Y Z cb F H::N::yB (gL.av K)::nn 29 (yR 208 3 iX.cW H::yR 206 2 oF.cW F::some (OB.row 176 2 (Xa5 r8.cW cb) (.lk dp 1 232 (Xa5 D.i cc).length))::nn 125 (some (OB.row 3 1 (Xa5 D.i cc) .Dd)::N::[])))⟩) ?_ ?_
        ·intro _ h;refine CY h ?_ ?_<;>intro h
         ·refine .inl (dO ?_);obtain⟨gx,dq,h⟩:=AM h;refine⟨rfl,Dw (f:=r8.cW) dq,?_⟩;refine⟨rfl,?_⟩;obtain⟨_,fo,h⟩:=AM h;refine .inr ⟨rfl,Dc fo,rfl,(su (f:=r8.cW) dq),by decide,rfl,?_⟩;exact Wg .z h
         refine .inl (dO ?_);(conv=>whnf);refine .inr (.inr ?_);refine⟨1,175,_,rfl,?_⟩;exact Wg (.x 175 232) h
        rintro⟨cb,dp,cc⟩ h;exact fg _ _ wk h
       rintro c9 h;exact Wg (.m .z) h
      rintro⟨di,dj⟩ h;exact CI h
     rintro⟨dg,dh⟩ h;exact Wg .z h
    replace h:=Qo ae h;by_cases aj:(K.gE==3)=true
    ·replace h:=Rb aj h;refine⟨_,(Ac a8 (Ac ae (H2 aj))),_,rfl,_,rfl,?_⟩;exact Wg (.y 39 234 (.a (.b .z (.a (.i Tryz.f225 107 .z) (u3 λfp fq ft=>⟨[(2,yr 70 0),(4,yr 72 0),(10,y7 v1),(11,yi (v1.length:Int)),(12,yi (a6:Int)),(24,yb true),(28,yb false),(32,yb ((K.Data.length:Int)==4))],[(2,yB gH.zv),(70,yB gH.zv),(72,yB [yi U,yO 106 r8.cW J,yb fp,yu fq,yu ft,yi V,yi Y,yi Z,yO 105 oF.cW F,yO 104 iX.cW H,AV.d (D.nil 3)]),(104,yR 208 3 iX.cW H),(105,yR 206 2 oF.cW F),(106,yR 176 2 r8.cW J)]⟩))) (u4 λfu fv fw fx=>⟨[(2,yr 70 0),(4,yr 72 0),(10,y7 v1),(11,yi (v1.length:Int)),(12,yi (a6:Int)),(35,yb fu)],[(2,yB gH.zv),(70,yB gH.zv),(72,yB [yi U,yO 106 r8.cW J,yb fv,yu fw,yu fx,yi V,yi Y,yi Z,yO 105 oF.cW F,yO 104 iX.cW H,AV.d (D.nil 3)]),(104,yR 208 3 iX.cW H),(105,yR 206 2 oF.cW F),(106,yR 176 2 r8.cW J)]⟩))) h
    replace h:=Qo aj h;by_cases a7:(K.gE==4)=true
    ·replace h:=Rb a7 h;refine⟨_,(Ac a8 (Ac ae (Ac aj (H2 a7)))),_,rfl,_,rfl,?_⟩;exact Wg (.y 39 234 (.a (.b .z (.a (.i Tryz.f226 107 (.y 10 234 (.a (.i Tryz.f227 117 .z) (λds=>⟨[(4,yb false),(9,yb ((K.Data.length:Int)==4))],[(2,yB gH.zv),(70,yB gH.zv),(72,yB [yi U,yO 106 r8.cW J,yb M,yu P,yu Q,yi ds,yi Y,yi Z,yO 105 oF.cW F,yO 104 iX.cW H,AV.d (D.nil 3)]),(74,yB (gL.av K)),(104,yR 208 3 iX.cW H),(105,yR 206 2 oF.cW F),(106,yR 176 2 r8.cW J)]⟩)))) (λdt=>⟨[(2,yr 70 0),(4,yr 72 0),(10,y7 v1),(11,yi (v1.length:Int)),(12,yi (a6:Int)),(24,yb true),(28,yb false),(32,yb ((K.Data.length:Int)==4))],[(2,yB gH.zv),(70,yB gH.zv),(72,yB [yi U,yO 106 r8.cW J,yb M,yu P,yu Q,yi dt,yi Y,yi Z,yO 105 oF.cW F,yO 104 iX.cW H,AV.d (D.nil 3)]),(104,yR 208 3 iX.cW H),(105,yR 206 2 oF.cW F),(106,yR 176 2 r8.cW J)]⟩))) (u2 λdu dv=>⟨[(2,yr 70 0),(4,yr 72 0),(10,y7 v1),(11,yi (v1.length:Int)),(12,yi (a6:Int)),(35,yb du)],[(2,yB gH.zv),(70,yB gH.zv),(72,yB [yi U,yO 106 r8.cW J,yb M,yu P,yu Q,yi dv,yi Y,yi Z,yO 105 oF.cW F,yO 104 iX.cW H,AV.d (D.nil 3)]),(104,yR 208 3 iX.cW H),(105,yR 206 2 oF.cW F),(106,yR 176 2 r8.cW J)]⟩))) h
    replace h:=Qo a7 h;by_cases ab:(K.gE==5)=true
    ·replace h:=Rb ab h;refine⟨_,(Ac a8 (Ac ae (Ac aj (Ac a7 (H2 ab))))),_,rfl,_,rfl,?_⟩;exact Wg (.y 39 234 (.a (.b .z (.a (.i Tryz.f228 107 (.y 10 234 (.a (.i Tryz.f227 117 .z) (λdx=>⟨[(4,yb false),(9,yb ((K.Data.length:Int)==4))],[(2,yB gH.zv),(70,yB gH.zv),(72,yB [yi U,yO 106 r8.cW J,yb M,yu P,yu Q,yi V,yi dx,yi Z,yO 105 oF.cW F,yO 104 iX.cW H,AV.d (D.nil 3)]),(74,yB (gL.av K)),(104,yR 208 3 iX.cW H),(105,yR 206 2 oF.cW F),(106,yR 176 2 r8.cW J)]⟩)))) (λdy=>⟨[(2,yr 70 0),(4,yr 72 0),(10,y7 v1),(11,yi (v1.length:Int)),(12,yi (a6:Int)),(24,yb true),(28,yb false),(32,yb ((K.Data.length:Int)==4))],[(2,yB gH.zv),(70,yB gH.zv),(72,yB [yi U,yO 106 r8.cW J,yb M,yu P,yu Q,yi V,yi dy,yi Z,yO 105 oF.cW F,yO 104 iX.cW H,AV.d (D.nil 3)]),(104,yR 208 3 iX.cW H),(105,yR 206 2 oF.cW F),(106,yR 176 2 r8.cW J)]⟩))) (u2 λdz e5=>⟨[(2,yr 70 0),(4,yr 72 0),(10,y7 v1),(11,yi (v1.length:Int)),(12,yi (a6:Int)),(35,yb dz)],[(2,yB gH.zv),(70,yB gH.zv),(72,yB [yi U,yO 106 r8.cW J,yb M,yu P,yu Q,yi V,yi e5,yi Z,yO 105 oF.cW F,yO 104 iX.cW H,AV.d (D.nil 3)]),(104,yR 208 3 iX.cW H),(105,yR 206 2 oF.cW F),(106,yR 176 2 r8.cW J)]⟩))) h
    replace h:=Qo ab h;by_cases af:(K.gE==8)=true
    ·replace h:=Rb af h;refine⟨_,(Ac a8 (Ac ae (Ac aj (Ac a7 (Ac ab (H2 af)))))),_,rfl,_,rfl,?_⟩;refine Ag h (λ(be,bf)=>⟨ui (v1.length:Int) (a6:Int) be v1,TH U M P Q V Y Z J bf H⟩) ?_ ?_
     ·intro _ h;refine Bv h (λ_=>GF.ok) λ_ h=>?_;refine VG h λh=>?_;refine Ag h (λ(bg,bh)=>⟨zS5 (v1.length:Int) (a6:Int) true false bg v1,TH U M P Q V Y Z J bh H⟩) ?_ ?_
      ·intro _ h;(conv=>whnf);refine inl Tryz.f229 107 (by kernel_rfl) (by kernel_rfl) ⟨rfl,?_⟩;refine RJ [117] h (λ_=>E7.ok) λar h=>?_;refine⟨ar.length,EW,?_⟩;refine Ag h (λag=>⟨yr 72 0::AV.d (D.l 1 D.u8 K.Data)::X::X::X::yO 112 oF.cW ag::dd 41 ([]),N::N::yB gH.zv::nn 67 (yB gH.zv::N::Pa U M P Q V Y Z J F H::N::yB (gL.av K)::nn 29 (yR 208 3 iX.cW H::yR 206 2 oF.cW F::yR 176 2 r8.cW J::nn 5 (yR 206 2 oF.cW ag::nn 121 ([]))))⟩) ?_ ?_
       ·intro _ h;exact Wg (.y 47 234 (.o0 117 3 1 D.i (λe6 bi=>⟨[(0,yr 72 0),(1,AV.d (D.l 1 D.u8 K.Data)),(5,yO 112 oF.cW bi),(10,yO 117 D.i ar),(11,yi (ar.length:Int)),(12,yi (e6:Int))],[(2,yB gH.zv),(70,yB gH.zv),(72,yB [yi U,yO 106 r8.cW J,yb M,yu P,yu Q,yi V,yi Y,yi Z,yO 105 oF.cW F,yO 104 iX.cW H,AV.d (D.nil 3)]),(74,yB (gL.av K)),(104,yR 208 3 iX.cW H),(105,yR 206 2 oF.cW F),(106,yR 176 2 r8.cW J),(112,yR 206 2 oF.cW bi),(117,yR 3 1 D.i ar)]⟩))) h
       rintro ag h;refine Ag h (λ(bj,ao)=>⟨yr 72 0::AV.d (D.l 1 D.u8 K.Data)::dd 6 (yb false::dd 17 (yr 72 0::X::AV.Ca [yO 153 oF.cW ao,yb bj]::dd 18 ([]))),N::N::yB gH.zv::nn 67 (yB gH.zv::N::Pa U M P Q V Y Z J F H::N::yB (gL.av K)::nn 29 (yR 208 3 iX.cW H::yR 206 2 oF.cW F::yR 176 2 r8.cW J::nn 46 (yR 206 2 oF.cW ao::nn 80 ([]))))⟩) ?_ ?_
       ·intro _ h;(conv=>whnf);refine inl Tryz.f237 154 (by kernel_rfl) (by kernel_rfl) ⟨rfl,?_⟩;refine Ag h (λbk=>⟨yO 112 oF.cW ag::AV.fn 238 []::dd 4 (yb bk::dd 14 ([])),N::N::yB gH.zv::nn 67 (yB gH.zv::N::Pa U M P Q V Y Z J F H::N::yB (gL.av K)::nn 29 (yR 208 3 iX.cW H::yR 206 2 oF.cW F::yR 176 2 r8.cW J::nn 5 (yR 206 2 oF.cW ag::nn 121 ([]))))⟩) ?_ ?_
        ·intro _ h;exact Wg .z h
        rintro bk h;obtain⟨e7,bl,h⟩:=AM h;have fy:=Mc bl;refine⟨_,_,some [],Y5 (f:=oF.cW) (enters_of Tryz.func238 (by kernel_rfl) rfl) (λh=>HT.ok h) bl,?_⟩;obtain⟨gk,e8,h⟩:=AM h;have e9:(Xa5 oF.cW e7).length=(Xa5 oF.cW ag).length:=(by first|rfl|(simp only[X1,X18];omega)|(simp only[Qt,X1,X18,X2,X15,X14,X17];omega)|(simp only[X1] at *;omega));refine⟨_,_,some [173],(e9▸D1.ok e8),?_⟩;exact Wg (.x 173 153) h
       rintro⟨bj,ao⟩ h;exact Wg (.y 47 234 (.c (.b (.b (.m .z) .z) .z) (λbm=>⟨[(4,yb bm)],[(2,yB gH.zv),(70,yB gH.zv),(72,yB [yi U,yO 106 r8.cW J,yb M,yu P,yu Q,yi V,yi Y,yi Z,yO 153 oF.cW ao,yO 104 iX.cW H,AV.d (D.nil 3)]),(74,yB (gL.av K)),(104,yR 208 3 iX.cW H),(105,yR 206 2 oF.cW F),(106,yR 176 2 r8.cW J),(153,yR 206 2 oF.cW ao)]⟩) λbm=>.x 153 105)) h
      rintro⟨bg,bh⟩ h;exact CI h
     rintro⟨be,bf⟩ h;exact Wg .z h
    replace h:=Qo af h;by_cases ap:(K.gE==32)=true
    ·replace h:=Rb ap h;refine⟨_,(Ac a8 (Ac ae (Ac aj (Ac a7 (Ac ab (Ac af (H2 ap))))))),_,rfl,_,rfl,?_⟩;refine Ag h (λ(bn,bo)=>⟨ui (v1.length:Int) (a6:Int) bn v1,TH U M P Q V Y Z J F bo⟩) ?_ ?_
     ·intro _ h;refine Bv h (λ_=>GF.ok) λ_ h=>?_;refine VG h λh=>?_;refine Ag h (λ(bp,bq)=>⟨zS5 (v1.length:Int) (a6:Int) true false bp v1,TH U M P Q V Y Z J F bq⟩) ?_ ?_
      ·intro _ h;(conv=>whnf);refine inl Tryz.f230 107 (by kernel_rfl) (by kernel_rfl) ⟨rfl,?_⟩;refine⟨K.Data.length,X1 _,?_⟩;refine⟨by decide,_,rfl,?_⟩;refine Al ?_;refine VG h λh=>?_;refine RJ [120] h (λ_=>E7.ok) λ_ h=>?_;refine Ag h (λah=>⟨yr 72 0::dd 4 (yO 112 iX.cW ah::dd 42 ([])),N::N::yB gH.zv::nn 67 (yB gH.zv::N::Pa U M P Q V Y Z J F H::N::yB (gL.av K)::nn 29 (yR 208 3 iX.cW H::yR 206 2 oF.cW F::yR 176 2 r8.cW J::nn 5 (yR 208 3 iX.cW ah::nn 121 ([]))))⟩) ?_ ?_
       ·intro _ h;revert h;refine BO (λ(bb,au)=>⟨yr 72 0::dd 4 (yO 112 iX.cW bb::yO 120 D.i au::dd 41 ([])),N::N::yB gH.zv::nn 67 (yB gH.zv::N::Pa U M P Q V Y Z J F H::N::yB (gL.av K)::nn 29 (yR 208 3 iX.cW H::yR 206 2 oF.cW F::yR 176 2 r8.cW J::nn 5 (yR 208 3 iX.cW bb::nn 7 (yR 3 1 D.i au::nn 113 ([])))))⟩) ?_ ?_
        ·exact wk
        rintro _ ⟨bb,au⟩ _ h ea;refine⟨au.length,EW,?_⟩;refine Al ?_;refine HY h λh=>?_;refine Al ?_;refine .inl (dO ?_);obtain⟨eb,br,h⟩:=AM h;refine⟨rfl,Dw (f:=D.i) br,?_⟩;refine⟨rfl,D.i eb,(FY (f:=D.i) br),?_⟩;obtain⟨ec,bu,h⟩:=AM h;refine⟨rfl,Dw (f:=D.i) bu,?_⟩;refine⟨rfl,D.i ec,(FY (f:=D.i) bu),?_⟩;obtain⟨ef,bw,h⟩:=AM h;refine⟨rfl,Dw (f:=D.i) bw,?_⟩;refine⟨rfl,D.i ef,(FY (f:=D.i) bw),?_⟩;refine⟨rfl,?_⟩;refine apO (f:=iX.cW) h rfl λ_ h=>?_;refine cO ?_;(conv=>whnf);refine .inr (.inr ?_);obtain⟨gm,bx,h⟩:=AM h;refine⟨ia (f:=D.i) bx,rfl,_,XW (f:=D.i) bx,?_⟩;exact ea _ _ (.swap 125 120 rfl rfl rfl wk) h
       rintro ah h;refine Ag h (λ(bz,aq)=>⟨yr 72 0::dd 6 (yb false::dd 25 (yr 72 0::X::AV.Ca [yO 154 iX.cW aq,yb bz]::dd 12 ([]))),N::N::yB gH.zv::nn 67 (yB gH.zv::N::Pa U M P Q V Y Z J F H::N::yB (gL.av K)::nn 29 (yR 208 3 iX.cW H::yR 206 2 oF.cW F::yR 176 2 r8.cW J::nn 47 (yR 208 3 iX.cW aq::nn 79 ([]))))⟩) ?_ ?_
       ·intro _ h;(conv=>whnf);refine inl Tryz.f241 155 (by kernel_rfl) (by kernel_rfl) ⟨rfl,?_⟩;refine Ag h (λc0=>⟨yO 112 iX.cW ah::AV.fn 242 []::dd 4 (yb c0::dd 14 ([])),N::N::yB gH.zv::nn 67 (yB gH.zv::N::Pa U M P Q V Y Z J F H::N::yB (gL.av K)::nn 29 (yR 208 3 iX.cW H::yR 206 2 oF.cW F::yR 176 2 r8.cW J::nn 5 (yR 208 3 iX.cW ah::nn 121 ([]))))⟩) ?_ ?_
        ·intro _ h;exact Wg .z h
        rintro c0 h;obtain⟨eg,c3,h⟩:=AM h;have gg:=Mc c3;refine⟨_,_,some [],YY (f:=iX.cW) (enters_of Tryz.func242 (by kernel_rfl) rfl) (λh=>Jc.ok h) c3,?_⟩;obtain⟨gn,eh,h⟩:=AM h;have ei:(Xa5 iX.cW eg).length=(Xa5 iX.cW ah).length:=(by first|rfl|(simp only[X1,X18];omega)|(simp only[Qt,X1,X18,X2,X15,X14,X17];omega)|(simp only[X1] at *;omega));refine⟨_,_,some [174],(ei▸FR.ok eh),?_⟩;exact Wg (.x 174 154) h
       rintro⟨bz,aq⟩ h;exact Wg (.y 48 234 (.c (.b (.m .z) .z) (λc4=>⟨[(4,yb c4)],[(2,yB gH.zv),(70,yB gH.zv),(72,yB [yi U,yO 106 r8.cW J,yb M,yu P,yu Q,yi V,yi Y,yi Z,yO 105 oF.cW F,yO 154 iX.cW aq,AV.d (D.nil 3)]),(74,yB (gL.av K)),(104,yR 208 3 iX.cW H),(105,yR 206 2 oF.cW F),(106,yR 176 2 r8.cW J),(154,yR 208 3 iX.cW aq)]⟩) λc4=>.x 154 104)) h
      rintro⟨bp,bq⟩ h;exact CI h
     rintro⟨bn,bo⟩ h;exact Wg .z h
    replace h:=Qo ap h;by_cases ax:(K.gE==35)=true
    ·replace h:=Rb ax h;refine⟨_,(Ac a8 (Ac ae (Ac aj (Ac a7 (Ac ab (Ac af (Ac ap (H2 ax)))))))),_,rfl,_,rfl,?_⟩;exact Wg (.y 39 234 (.a (.b .z (.a (.i Tryz.f231 107 (.y 17 234 (.a (.a (.i Tryz.f227 124 .z) (λej=>⟨[(0,yr 72 0),(4,yb false),(9,yb ((K.Data.length:Int)==4))],[(2,yB gH.zv),(70,yB gH.zv),(72,yB [yi U,yO 106 r8.cW J,yb M,yu P,yu Q,yi V,yi Y,yi ej,yO 105 oF.cW F,yO 104 iX.cW H,AV.d (D.nil 3)]),(74,yB (gL.av K)),(104,yR 208 3 iX.cW H),(105,yR 206 2 oF.cW F),(106,yR 176 2 r8.cW J)]⟩)) (u2 λek en=>⟨[(4,yb ek)],[(2,yB gH.zv),(70,yB gH.zv),(72,yB [yi U,yO 106 r8.cW J,yb M,yu P,yu Q,yi V,yi Y,yi en,yO 105 oF.cW F,yO 104 iX.cW H,AV.d (D.nil 3)]),(74,yB (gL.av K)),(104,yR 208 3 iX.cW H),(105,yR 206 2 oF.cW F),(106,yR 176 2 r8.cW J)]⟩)))) (u2 λeo ep=>⟨[(2,yr 70 0),(4,yr 72 0),(10,y7 v1),(11,yi (v1.length:Int)),(12,yi (a6:Int)),(24,yb true),(28,yb false),(32,yb eo)],[(2,yB gH.zv),(70,yB gH.zv),(72,yB [yi U,yO 106 r8.cW J,yb M,yu P,yu Q,yi V,yi Y,yi ep,yO 105 oF.cW F,yO 104 iX.cW H,AV.d (D.nil 3)]),(104,yR 208 3 iX.cW H),(105,yR 206 2 oF.cW F),(106,yR 176 2 r8.cW J)]⟩))) (u2 λer et=>⟨[(2,yr 70 0),(4,yr 72 0),(10,y7 v1),(11,yi (v1.length:Int)),(12,yi (a6:Int)),(35,yb er)],[(2,yB gH.zv),(70,yB gH.zv),(72,yB [yi U,yO 106 r8.cW J,yb M,yu P,yu Q,yi V,yi Y,yi et,yO 105 oF.cW F,yO 104 iX.cW H,AV.d (D.nil 3)]),(104,yR 208 3 iX.cW H),(105,yR 206 2 oF.cW F),(106,yR 176 2 r8.cW J)]⟩))) h
    replace h:=Qo ax h;refine⟨_,(Ac a8 (Ac ae (Ac aj (Ac a7 (Ac ab (Ac af (Ac ap (Ac ax mG)))))))),_,rfl,_,rfl,?_⟩;exact Wg .z h
   rintro⟨ct,cu,cv,cx,cy,cz,da,db,dc,de⟩ h;exact Wg .z h
  rintro⟨cd,cf,cg,ch,cj,ck,cm,cn,cp,cq⟩ h;exact Fh (.swap 104 67 rfl rfl rfl (.swap 105 65 rfl rfl rfl (.swap 106 64 rfl rfl rfl wk))) h
 rintro⟨v2,v3,v4,v5,v6,v7,v8,v9,ak,al,an⟩ h;refine Al ?_;refine CY h ?_ ?_<;>intro h
 ·exact fin h
 refine⟨v1.length,X1 _,?_⟩;refine Ag h (λay=>⟨X::X::yr 2 0::X::yr 4 0::dd 63 ([]),N::N::yB gH.zv::N::yB [yi v2,yO 64 r8.cW ak,yb v3,yu v4,yu v5,yi v6,yi v7,yi v8,yO 65 oF.cW al,yO 67 iX.cW an,yO 56 gL.cW ay]::nn 51 (yR 143 3 gL.cW ay::nn 7 (yR 176 2 r8.cW ak::yR 206 2 oF.cW al::N::yR 208 3 iX.cW an::nn 166 ([])))⟩) ?_ ?_
 ·intro _ h;exact Wg (.y 68 234 (.f 21 3 gL.cW (λc5 bc=>⟨[(2,yr 2 0),(4,yr 4 0),(21,y7 v1),(22,yi (v1.length:Int)),(23,yi (c5:Int))],[(2,yB gH.zv),(4,yB [yi v2,yO 64 r8.cW ak,yb v3,yu v4,yu v5,yi v6,yi v7,yi v8,yO 65 oF.cW al,yO 67 iX.cW an,yO 56 gL.cW bc]),(56,yR 143 3 gL.cW bc),(64,yR 176 2 r8.cW ak),(65,yR 206 2 oF.cW al),(67,yR 208 3 iX.cW an)]⟩) (λbc c5 eu=>.g (.d (λc6=>⟨[(7,yr 7 0),(46,yb c6)],[(7,yB (gL.av eu))]⟩) λc6=>.k (λc7=>⟨[(7,X),(46,X)],[(4,yB [yi v2,yO 64 r8.cW ak,yb v3,yu v4,yu v5,yi v6,yi v7,yi v8,yO 65 oF.cW al,yO 67 iX.cW an,yO 56 gL.cW c7]),(7,N),(56,yR 143 3 gL.cW c7)]⟩))))) h
 rintro ay h;refine⟨ay.length,EW,?_⟩;refine Al ?_;refine CY h ?_ ?_<;>intro h
 ·exact fin h
 obtain⟨gp,c8,h⟩:=AM h;have gh:=Mc c8;refine⟨_,_,some [],Ym (f:=gL.cW) (enters_of Tryz.func124 (by kernel_rfl) rfl) (λh=>M7.ok h) c8,?_⟩;exact Wg .z h
instance {a0:O S}:CK (E3 a0) 83 [ed a0] [] ed oN:=Wf 0 Tryz.f83 λh=>by unfold E3 at h;exact Wg .z h
instance {a0:O S}:CK (HH a0) 110 [ed a0] [] e3 oN:=Wf 0 Tryz.f110 λh=>by unfold HH at h;exact Wg (.y 26 26 (.k (λv1=>⟨[(0,y0 a0),(16,yb v1)],[]⟩))) h
instance {a0:O S}:CK (Ef a0) 111 [ed a0] [] e2 oN:=Wf 0 Tryz.f111 λh=>by unfold Ef at h;exact Wg (.y 58 58 (.a (.w (u2 λv2 F=>⟨[(0,y0 v2),(4,yO 4 gL.cW F)],[(4,yR 143 3 gL.cW F)]⟩) (u2 λv2 F=>.b (.g (.d (λH=>⟨[(5,yi H)],[]⟩) λH=>.k (λJ=>⟨[(29,yb J)],[]⟩))) .z)) (λv1=>⟨[(4,yO 4 gL.cW v1)],[(4,yR 143 3 gL.cW v1)]⟩))) h
instance {a0:Addr}:CK (Ii a0) 175 [ed a0] [] ed oN:=Wf 0 Tryz.f175 λh=>by unfold Ii at h;exact Wg (.y 15 15 (.k (λv1=>⟨[(2,yb v1)],[]⟩))) h
instance {a0:Addr}:CK (CG a0) 176 [ed a0] [] ed oN:=Wf 0 Tryz.f176 λh=>by unfold CG at h;exact Wg .z h
instance {a0:Int}:CK (FS a0) 197 [ed a0] [] e2 oN:=Wf 0 Tryz.f197 λh=>by unfold FS at h;exact Wg .z h
instance {a0:Addr} {a1:Int}:CK (EP a0 a1) 177 [ed a0,ed a1] [] ed oN:=Wf 0 Tryz.f177 λh=>by unfold EP at h;exact Wg .z h
instance {a0:Addr} {a1:Int}:CK (H4 a0 a1) 150 [ed a0,ed a1] [] e2 oN:=Wf 0 Tryz.f150 λh=>by unfold H4 at h;exact Wg (.b .z (.y 26 26 (.k (λv1=>⟨[(1,yi a1),(2,yr 2 0),(4,yr 4 0),(11,yb v1)],[(2,yB (Addr.av a0)),(4,yB fI.zv)]⟩)))) h
instance {a0:O S} {a1:I}:CK (BY a0 a1) 113 [ed a0,ed a1] [] e2 oN:=Wf 0 Tryz.f113 λh=>by
 refine⟨rfl,?_⟩;unfold BY at h;(conv=>whnf);refine Ag h (λv1=>⟨y0 a0::dd 5 (yi v1::dd 58 ([])),nn 65 ([])⟩) ?_ ?_
 ·intro _ h;exact Wg .z h
 rintro v1 h;refine Ag h (λv2=>⟨dd 7 (yO 7 fI.cW v2::dd 57 ([])),nn 7 (yR 67 4 fI.cW v2::nn 57 ([]))⟩) ?_ ?_
 ·intro _ h;revert h;refine BO (λ(H,F)=>⟨y0 H::dd 5 (yi v1::yO 7 fI.cW F::dd 57 ([])),nn 7 (yR 67 4 fI.cW F::nn 57 ([]))⟩) ?_ ?_
  ·exact wk
  rintro _ ⟨H,F⟩ _ h Q;refine⟨H.length,X1 _,?_⟩;refine Al ?_;refine HY h λh=>?_;refine Al ?_;(conv=>whnf);refine Hq h (λ_=>rfl) λJ h=>?_;refine⟨_,QC J,?_⟩;refine⟨_,rfl,?_⟩;refine⟨by decide,_,rfl,?_⟩;refine Ag h (λK=>⟨y0 H::dd 5 (yi v1::yO 7 fI.cW F::yi (J.toNat:Int)::AV.d (D.i (AG (Xd7 (AG ((J.toNat:Int)+7)) 8)))::dd 25 (yb K::dd 29 ([]))),nn 7 (yR 67 4 fI.cW F::nn 57 ([]))⟩) ?_ ?_
  ·intro _ h;exact Wg .z h
  rintro K h;refine Al ?_;refine CY h ?_ ?_<;>intro h
  ·exact Wg .z h
  refine⟨by decide,_,rfl,?_⟩;obtain⟨_,P,h⟩:=AM h;refine⟨dT P (X26 rfl),D.u8 (0:S),rfl,(Xa5 D.u8 (Xaa (Xa0 (AG (Xd7 v1 8))) (0:S))),List.map_replicate.symm,?_⟩;refine⟨_,rfl,?_⟩;(conv=>whnf);refine uh (f:=D.u8) h λM h=>?_;refine⟨rfl,Xa5 D.u8 (Qt (Xaa (Xa0 (AG (Xd7 v1 8))) (0:S)) 0 (Xaa (Xa0 (AG (Xd7 v1 8))) (0:S)).length M),ul,(min M.length (Xaa (Xa0 (AG (Xd7 v1 8))) (0:S)).length),uz,?_⟩;exact Wg (.m .z) h
 rintro v2 h;exact Wg .z h
instance {a0:O S} {a1:O S}:CK (Cp a0 a1) 174 [ed a0,ed a1] [] ed oN:=Wf 0 Tryz.f174 λh=>by unfold Cp at h;exact Wg (.y 18 18 (.k (λv1=>⟨[(4,yb v1)],[]⟩))) h
instance {a0:O S} {a1:O S}:CK (Cq a0 a1) 148 [ed a0,ed a1] [] e2 oN:=Wf 0 Tryz.f148 λh=>by unfold Cq at h;exact Wg .z h
instance {a0:Er}:CK (CJ a0) 112 [.ref 0 0] [.box (Er.av a0)] (λr=>.d (D.b r.1)) (λr=>[.box (Er.av r.2)]):=Wf 0 Tryz.f112 λh=>by unfold CJ at h;exact Wg (.y 95 96 (.c (.f 13 3 gL.cW (λi3=>u2 λF H=>⟨[(0,yr 0 0),(3,AV.mp 10),(13,AV.d (D.l 3 gL.cW a0.zY)),(14,yi (a0.zY.length:Int)),(15,yi (i3:Int))],[(0,yB (Er.av F)),(10,some (OB.map 3 3 (BK D.i D.i H)))]⟩) (u2 λF H i3 J=>.v λK=>.v λM=>.v λ_=>.g (.a (.b (.k (λP=>⟨[(6,y0 M),(54,yb P)],[(10,some (OB.map 3 3 (BK D.i D.i (A3 H J.gE (AG (K+1))))))]⟩)) (.a (.b (.k (u2 λQ U=>⟨[(8,yb Q)],[(0,yB [AV.d (D.l 3 gL.cW F.zY),AV.d (D.b F.next.V6),AV.d (D.u64 F.next.Hi),AV.d (D.u64 F.next.Lo),AV.d (D.l 4 fI.cW F.Fy),y1 U,AV.d (D.l 4 fI.cW F.Kj),AV.d (D.l 4 fI.cW F.F0)]),(10,some (OB.map 3 3 (BK D.i D.i (A3 H J.gE (AG (K+1))))))]⟩)) .z) (u2 λV Y=>⟨[(8,yb V)],[(0,yB [AV.d (D.l 3 gL.cW F.zY),AV.d (D.b F.next.V6),AV.d (D.u64 F.next.Hi),AV.d (D.u64 F.next.Lo),AV.d (D.l 4 fI.cW F.Fy),y1 Y,AV.d (D.l 4 fI.cW F.Kj),AV.d (D.l 4 fI.cW F.F0)]),(10,some (OB.map 3 3 (BK D.i D.i (A3 H J.gE (AG (K+1))))))]⟩))) (u2 λZ a6=>⟨[(8,yb Z)],[(0,yB (Er.av a6)),(10,some (OB.map 3 3 (BK D.i D.i (A3 H J.gE (AG (K+1))))))]⟩)))) (u2 λv1 v2=>⟨[(3,AV.mp 10)],[(0,yB (Er.av v1)),(10,some (OB.map 3 3 (BK D.i D.i v2)))]⟩) (u2 λv1 v2=>.k (λa7=>⟨[(2,yb a7),(3,X)],[(10,N)]⟩)))) h
instance Ht {a0:Er}{a1:O S}:CK (BQ a0 a1) 82 [.ref 0 0,ed a1] [.box (Er.av a0)] (λr=>.d (D.b r.1)) (λr=>[.box (Er.av r.2)]):=Wf 0 Tryz.f82 λh=>by unfold BQ at h;exact Wg (.v λv1=>.v λ_=>.v λ_=>.b .z (.v λ_=>.v λv2=>.v λ_=>.b .z (.y 117 118 (.d (u2 λH F=>⟨[(0,yr 0 0),(1,y0 v2),(5,y0 v1),(40,yb H)],[(0,yB (Er.av F))]⟩) (u2 λH F=>.b .z (.v λJ=>.v λ_=>.v λK=>.v λ_=>.k (λM=>⟨[(1,X),(5,X),(40,X),(106,yb M)],[(0,yB [AV.d (D.l 3 gL.cW F.zY),AV.d (D.b F.next.V6),AV.d (D.u64 F.next.Hi),AV.d (D.u64 F.next.Lo),y1 J,AV.d (D.l 4 fI.cW F.CD),y1 K,AV.d (D.l 4 fI.cW F.F0)])]⟩))))))) h
instance {a0:gL} {a1:Int}:CK (CO a0 a1) 115 [ed a0,.ref 0 0] [.box [.d (D.i a1)]] (λr=>.d (D.b r.1)) (λr=>[.box [.d (D.i r.2)]]):=Wf 0 Tryz.f115 λh=>by unfold CO at h;exact Wg .z h
instance {a0:O gL} {F:Int}:CK (Aa a0 F) 151 [ed a0,AV.fn 115 [.ref 0 0]] [.box [.d (D.i F)]] (λr=>.d (D.i r.1)) (λr=>[.box [.d (D.i r.2)]]):=Wf 0 Tryz.f151 λh=>by unfold Aa at h;exact Wg (.y 19 20 (.a (.f0 6 3 gL.cW (λH J=>⟨[(0,y7 a0),(1,AV.fn 115 [yr 0 0]),(6,y7 a0),(7,yi (a0.length:Int)),(8,yi (H:Int))],[(0,yB [yi J])]⟩)) (λv1=>⟨[],[(0,yB [yi v1])]⟩))) h
instance {a0:O gL} {F:Int}:CK (AY a0 F) 114 [ed a0,AV.fn 115 [.ref 0 0]] [.box [.d (D.i F)]] (λr=>.d (D.b r.1)) (λr=>[.box [.d (D.i r.2)]]):=Wf 0 Tryz.f114 λh=>by unfold AY at h;exact Wg .z h
instance {a0:Er} {a1:Int}:CK (Bc a0 a1) 84 [.ref 0 0,ed a1] [.box (Er.av a0)] (λr=>.d (D.b r.1)) (λr=>[.box (Er.av r.2)]):=Wf 0 Tryz.f84 λh=>by unfold Bc at h;exact Wg .z h
instance {a0:O S}:CK (IG a0) 47 [ed a0] [] e2 oN:=Wf 0 Tryz.f47 λh=>by
 refine⟨rfl,?_⟩;unfold IG at h;obtain⟨_,F,h⟩:=AM h;refine⟨dT F (X26 rfl),D.u8 (0:S),rfl,(Xa5 D.u8 (Xaa (Xa0 4) (0:S))),List.map_replicate.symm,?_⟩;refine⟨rfl,?_⟩;refine lu h (λ_=>SL.ok) λ_ h=>?_;refine Al ?_;refine CY h ?_ ?_<;>intro h
 ·exact fin h
 refine Ag h (λv2=>⟨dd 48 (yb v2::[]),nn 49 ([])⟩) ?_ ?_
 ·intro _ h;obtain⟨⟨J,K⟩,H,h⟩:=AM h;refine⟨_,_,some [],(Ht.ok H).box1 ⟨.inr ⟨_,rfl,rfl⟩,.inl rfl,.inl rfl,.inl rfl,.inr ⟨_,rfl,rfl⟩,.inr ⟨_,rfl,rfl⟩,.inr ⟨_,rfl,rfl⟩,.inr ⟨_,rfl,rfl⟩,True.intro⟩,?_⟩;exact Wg .z h
 rintro v2 h;exact Wg .z h
instance {a0:O (O fI)}:CK (An a0) 85 [AV.d (D.l 1 (D.l 4 fI.cW) a0)] [] (λr=>AV.own 0 (Xa5 fI.cW r).length) (λr=>[.row 67 4 (Xa5 fI.cW r) .no]):=Wf 27 Tryz.f85 λh=>by
 refine⟨rfl,?_⟩;unfold An at h;refine⟨a0.length,X1 _,?_⟩;refine Ag h (λv1=>⟨AV.d (D.l 1 (D.l 4 fI.cW) a0)::X::X::yi v1::dd 32 ([]),nn 63 ([])⟩) ?_ ?_
 ·intro _ h;revert h;refine Cj 9 1 (D.l 4 fI.cW) rfl (λZ M=>⟨AV.d (D.l 1 (D.l 4 fI.cW) a0)::X::X::yi M::dd 5 (AV.d (D.l 1 (D.l 4 fI.cW) a0)::yi (a0.length:Int)::yi (Z:Int)::dd 24 ([])),nn 63 ([])⟩) ?_ ?_ ?_
  ·exact wk
  ·rintro M K4 h;exact Wg (.e .z) h
  rintro _ Z x5 M K4 b2 c2 e2 h p6;refine Al ?_;refine HA (K6 b2) ?_;refine Al ?_;refine⟨Fv (f:=(D.l 4 fI.cW)) b2,(D.l 4 fI.cW) x5,c2,rfl,?_⟩;refine⟨x5.length,X1 _,?_⟩;refine⟨_,rfl,?_⟩;refine Al ?_;refine CY h ?_ ?_<;>intro h
  ·exact nomatch h
  exact Wg .z h
 rintro v1 h;refine Ag h (λP=>⟨AV.d (D.l 1 (D.l 4 fI.cW) a0)::dd 23 (yO 35 fI.cW P::dd 11 ([])),nn 35 (yR 67 4 fI.cW P::nn 27 ([]))⟩) ?_ ?_
 ·intro _ h;(conv=>whnf);refine inl Tryz.f116 36 (by kernel_rfl) (by kernel_rfl) ⟨rfl,?_⟩;refine Al ?_;refine CY h ?_ ?_<;>intro h
  ·exact nomatch h
  refine⟨_,rfl,?_⟩;refine⟨_,rfl,?_⟩;refine Ag h (λQ=>⟨yO 61 fI.cW Q::dd 26 ([]),nn 61 (yR 67 4 fI.cW Q::N::[])⟩) ?_ ?_
  ·intro _ h;refine HY h λh=>?_;(conv=>whnf);refine .inr ?_;refine⟨⟨rfl,rfl⟩,?_⟩;obtain⟨_,g9,h⟩:=AM h;refine⟨xF g9 (X26 rfl),fI.cW (⟨(⟨false,(0:j),(0:j)⟩:Addr),0⟩:fI),rfl,(Xa5 fI.cW (Xaa (Xa0 (AG (v1-(AG (0-0))))) (⟨(⟨false,(0:j),(0:j)⟩:Addr),0⟩:fI))),List.map_replicate.symm,?_⟩;(conv=>whnf);refine .inr (.inr ?_);obtain⟨a6,J,h⟩:=AM h;refine⟨QB (f:=fI.cW) J,rfl,_,Ko (f:=fI.cW) J,?_⟩;exact CI h
  rintro Q h;exact Wg (.x 61 35) h
 rintro P h;refine⟨a0.length,X1 _,?_⟩;refine Ag h (λH=>⟨dd 6 (yO 35 fI.cW H::dd 29 ([])),nn 35 (yR 67 4 fI.cW H::nn 27 ([]))⟩) ?_ ?_
 ·intro _ h;revert h;refine Cj 25 1 (D.l 4 fI.cW) rfl (λK F=>⟨dd 6 (yO 35 fI.cW F::dd 18 (AV.d (D.l 1 (D.l 4 fI.cW) a0)::yi (a0.length:Int)::yi (K:Int)::dd 8 ([]))),nn 35 (yR 67 4 fI.cW F::nn 27 ([]))⟩) ?_ ?_ ?_
  ·exact wk
  ·rintro F U h;exact Wg (.e .z) h
  rintro _ K V F U b13 Y a7 h a8;refine Al ?_;refine HA (K6 b13) ?_;refine Al ?_;refine⟨Fv (f:=(D.l 4 fI.cW)) b13,(D.l 4 fI.cW) V,Y,rfl,?_⟩;exact Wg .z h
 rintro H h;exact Wg (.l (.r .z)) h
instance {a0:gL}:CK (BV a0) 126 [ed a0] [] ed oN:=Wf 0 Tryz.f126 λh=>by unfold BV at h;exact Wg (.y 17 17 (.k (λv1=>⟨[(2,yb v1)],[]⟩))) h
instance {a0:O gL}:CK (Ah a0) 151 [ed a0,AV.fn 126 []] [] ed oN:=Wf 0 Tryz.f151 λh=>by unfold Ah at h;exact Wg (.y 19 19 (.a (.f0 6 3 gL.cW (λF _=>⟨[(0,y7 a0),(1,AV.fn 126 []),(6,y7 a0),(7,yi (a0.length:Int)),(8,yi (F:Int))],[]⟩)) (λ_=>⟨[],[]⟩))) h
instance {a0:O gL}:CK (AU a0) 114 [ed a0,AV.fn 126 []] [] ed oN:=Wf 0 Tryz.f114 λh=>by unfold AU at h;exact Wg .z h
instance {a0:Er} {a1:gH} {F:Int}:CK (Ce a0 a1 F) 88 [.ref 0 0,ed a1,ed F] [.box (Er.av a0)] (λr=>.d (D.b r.1)) (λr=>[.box (Er.av r.2)]):=Wf 0 Tryz.f88 λh=>by unfold Ce at h;exact Wg (.y 42 43 (.k (u2 λv1 v2=>⟨[(6,yb v1)],[(0,yB (Er.av v2))]⟩))) h
instance {a0:O S}:CK (Fj a0) 48 [ed a0] [] e2 oN:=Wf 0 Tryz.f48 λh=>by refine⟨rfl,?_⟩;unfold Fj at h;obtain⟨⟨v1,v2⟩,K,h⟩:=AM h;refine⟨_,_,some [],(Ht.ok K).box1 ⟨.inr ⟨_,rfl,rfl⟩,.inl rfl,.inl rfl,.inl rfl,.inr ⟨_,rfl,rfl⟩,.inr ⟨_,rfl,rfl⟩,.inr ⟨_,rfl,rfl⟩,.inr ⟨_,rfl,rfl⟩,True.intro⟩,?_⟩;exact Wg (.b .z (.m (.v λH=>.v λ(F:gH)=>.m (.v λJ=>.b .z (.b .z (.y 76 76 (.k (λM=>⟨[(2,yr 2 0),(5,yr 5 0),(6,yO 37 fI.cW J),(7,yr 7 0)],[(2,yB zl.zv),(5,yB [yO 25 fI.cW H,AV.d (D.i F.o3),AV.d (D.l 2 r8.cW F.Path),AV.d (D.b F.Next.V6),AV.d (D.u64 F.Next.Hi),AV.d (D.u64 F.Next.Lo),AV.d (D.i F.AF),AV.d (D.i F.xL),AV.d (D.i F.zy),AV.d (D.l 2 oF.cW F.fT),AV.d (D.l 3 iX.cW F.iX),AV.d (D.l 3 gL.cW F.oE),AV.d (D.nil 4)]),(7,yB (gH.av M)),(25,yR 67 4 fI.cW H),(37,yR 67 4 fI.cW J)]⟩)))))))) h
instance {a0:O S} {a1:Int} {F:Int}:CK (EV a0 a1 F) 25 [ed a0,ed a1,ed F] [] (λr=>AV.own 0 (Xa5 zO.cW r).length) (λr=>[.row 87 24 (Xa5 zO.cW r) .no]):=Wf 0 Tryz.f25 λh=>by unfold EV at h;exact Wg (.b (.y 39 39 (.d (λv1=>⟨[(9,yr 9 0)],[(9,yB [yi 5,yi a1,yi 0,yi v1,AV.d (D.nil 4),yi 0,AV.d (D.nil 2),yb false,yu (0:j),yu (0:j),yi 0,yi 0,yi 0,AV.d (D.nil 2),AV.d (D.nil 3),AV.d (D.nil 3),AV.d (D.nil 4),yi 0,yb false,yb false,yb false,yi 0,AV.d (D.nil 1),AV.d (D.nil 2)])]⟩) λv1=>.l (.r .z))) (.b (.l (.r .z)) (.l (.r .z)))) h
instance I0 {a0:JN}{a1:JN}{J:N0}{F:Int}{H:Int}:CK (As a0 a1 J F H) 10 [ed a0,ed a1,ed J,ed F,ed H] [] (λr=>AV.own 0 (Xa5 zO.cW r).length) (λr=>[.row 87 24 (Xa5 zO.cW r) .no]):=Wf 0 Tryz.f10 λh=>by unfold As at h;exact Wg (.b (.l (.r .z)) (.b (.y 49 49 (.d (λv1=>⟨[(3,yi F),(4,yi H),(11,yi v1)],[]⟩) λv1=>.l (.r .z))) (.y 49 49 (.c (.b (.b (.n [48] (.l (.r .z))) .z) .z) (λ_=>⟨[],[]⟩) λ_=>.l (.r .z))))) h
instance {a0:rv} {a1:Int}:CK (Lx a0 a1) 21 [ed a0,ed a1] [] ed oN:=Wf 0 Tryz.f21 λh=>by unfold Lx at h;exact Wg (.y 14 14 (.k (λv1=>⟨[(4,yb v1)],[]⟩))) h
instance:CK (H3) 8 [] [] ed oN:=Wf 0 Tryz.f8 λh=>by unfold H3 at h;exact Wg (.n [9] (.y 43 43 (.k (λv2=>⟨[(0,yb v2)],[]⟩)))) h
instance {a0:zl}:CK (FP a0) 11 [ed a0] [] e2 oN:=Wf 0 Tryz.f11 λh=>by unfold FP at h;exact Wg .z h
instance {a0:tF} {a1:tF}:CK (I5 a0 a1) 68 [ed a0,ed a1] [] ed oN:=Wf 0 Tryz.f68 λh=>by unfold I5 at h;exact Wg (.y 74 74 (.d (λv1=>⟨[(2,yr 2 0),(3,yr 3 0),(55,yb v1)],[(2,yB (tF.av a0)),(3,yB (tF.av a1))]⟩) λv1=>.b .z (.a (.f0 57 2 B4.cW (λF _=>⟨[(55,X),(57,AV.d (D.l 2 B4.cW a0.B4)),(58,yi (a0.B4.length:Int)),(59,yi (F:Int))],[]⟩)) (λ_=>⟨[(2,X),(3,X),(55,X)],[(2,N),(3,N)]⟩)))) h
instance {a0:th} {a1:th}:CK (FH a0 a1) 104 [ed a0,ed a1] [] ed oN:=Wf 0 Tryz.f104 λh=>by unfold FH at h;exact Wg (.y 59 59 (.d (λv1=>⟨[(2,yr 2 0),(3,yr 3 0),(40,yb v1)],[(2,yB (th.av a0)),(3,yB (th.av a1))]⟩) λv1=>.b .z (.a (.f0 42 3 Addr.cW (λF _=>⟨[(40,X),(42,AV.d (D.l 3 Addr.cW a0.zd)),(43,yi (a0.zd.length:Int)),(44,yi (F:Int))],[]⟩)) (λ_=>⟨[(2,X),(3,X),(40,X)],[(2,N),(3,N)]⟩)))) h
instance {a0:rv} {a1:rv}:CK (I7 a0 a1) 69 [ed a0,ed a1] [] ed oN:=Wf 0 Tryz.f69 λh=>by unfold I7 at h;exact Wg (.y 86 86 (.d (λv1=>⟨[(2,yr 2 0),(3,yr 3 0),(34,yb v1)],[(2,yB (rv.av a0)),(3,yB (rv.av a1))]⟩) λv1=>.b .z (.a (.f 36 18 gT.cW (λF _=>⟨[(34,X),(36,AV.d (D.l 18 gT.cW a0.gT)),(37,yi (a0.gT.length:Int)),(38,yi (F:Int))],[]⟩) (λ_ F J=>.g (.k (λH=>⟨[(84,yb H)],[]⟩)))) (λ_=>⟨[(2,X),(3,X),(34,X)],[(2,N),(3,N)]⟩)))) h
instance {a0:ur} {a1:ur}:CK (Ip a0 a1) 35 [ed a0,ed a1] [] ed oN:=Wf 0 Tryz.f35 λh=>by unfold Ip at h;exact Wg (.y 115 115 (.d (λv1=>⟨[(2,yr 2 0),(3,yr 3 0),(76,yb v1)],[(2,yB (ur.av a0)),(3,yB (ur.av a1))]⟩) λv1=>.b .z (.c (.f0 78 7 tF.cW (λF _=>⟨[(76,X),(78,AV.d (D.l 7 tF.cW a0.gD)),(79,yi (a0.gD.length:Int)),(80,yi (F:Int))],[]⟩)) (λ_=>⟨[(76,X)],[]⟩) λ_=>.a (.f0 97 8 rv.cW (λH _=>⟨[(97,AV.d (D.l 8 rv.cW a0.oT)),(98,yi (a0.oT.length:Int)),(99,yi (H:Int))],[]⟩)) (λ_=>⟨[(2,X),(3,X)],[(2,N),(3,N)]⟩)))) h
instance {a0:O mu} {a1:O mu}:CK (D3 a0 a1) 36 [ed a0,ed a1] [] ed oN:=Wf 0 Tryz.f36 λh=>by unfold D3 at h;exact Wg (.b .z (.y 27 27 (.a (.f0 11 16 mu.cW (λF _=>⟨[(0,y6 a0),(1,y6 a1),(11,y6 a0),(12,yi (a0.length:Int)),(13,yi (F:Int))],[]⟩)) (λ_=>⟨[],[]⟩)))) h
instance {a0:Ct} {a1:Ct}:CK (Il a0 a1) 13 [ed a0,ed a1] [] ed oN:=Wf 0 Tryz.f13 λh=>by
 refine⟨rfl,?_⟩;unfold Il at h;(conv=>whnf);refine Ag h (λv1=>⟨X::X::yr 2 0::yr 3 0::dd 16 (yb v1::dd 19 ([])),N::N::yB (Ct.av a0)::yB (Ct.av a1)::nn 36 ([])⟩) ?_ ?_
 ·intro _ h;exact Wg .z h
 rintro v1 h;refine Al ?_;refine CY h ?_ ?_<;>intro h
 ·exact fin h
 refine⟨a0.Cl.length,X1 _,?_⟩;refine Ag h (λ_=>⟨dd 40 ([]),nn 40 ([])⟩) ?_ ?_
 ·intro _ h;revert h;refine Cj 22 1 (D.l 16 mu.cW) rfl (λF _=>⟨X::X::yr 2 0::yr 3 0::dd 18 (AV.d (D.l 1 (D.l 16 mu.cW) a0.Cl)::yi (a0.Cl.length:Int)::yi (F:Int)::dd 15 ([])),N::N::yB (Ct.av a0)::yB (Ct.av a1)::nn 36 ([])⟩) ?_ ?_ ?_
  ·exact wk
  ·rintro _ H h;exact Wg (.e .z) h
  rintro _ F J _ H b2 c2 e2 h K;refine Al ?_;refine HA (K6 b2) ?_;refine Al ?_;refine .inl (dO ?_);refine⟨Fv (f:=(D.l 16 mu.cW)) b2,(D.l 16 mu.cW) J,c2,rfl,?_⟩;exact Wg .z h
 rintro _ h;exact fin h
instance Fu {a0:O Int}{a1:Int}:CK (Dn a0 a1) 3 [ed a0,ed a1] [] ed oN:=Wf 0 Tryz.f3 λh=>by
 refine⟨rfl,?_⟩;unfold Dn at h;(conv=>whnf);refine RJ [29] h (λ_=>Yv.ok) λ_ h=>?_;refine Bv h (λ_=>Ns.ok) ?_;rintro⟨v1,_,_,_⟩ h;refine⟨v1.ur.oT.length,X1 _,?_⟩;refine Bv h (λ_=>YW.ok) λ_ h=>?_;(conv=>whnf);refine Hq h (λ_=>rfl) λ_ h=>?_;refine Bv h (λ_=>Ue.ok) λv2 h=>?_;refine Al ?_;refine CY h ?_ ?_<;>intro h
 ·exact Wg .z h
 refine Sp (f:=rv.cW) h λ_ h=>?_;obtain⟨v3,g4,h⟩:=AM h;refine⟨rfl,Dw (f:=rv.cW) g4,?_⟩;obtain⟨v5,g6,h⟩:=AM h;have ab:=Zo g6;refine⟨rfl,rfl,rv.cW v3,(FY (f:=rv.cW) g4),?_⟩;refine⟨_,oj (f:=rv.cW) g6,?_⟩;refine⟨EW,?_⟩;refine Bv h (λ_=>UF.ok) ?_;rintro⟨K,_⟩ h;refine Al ?_;refine CY h ?_ ?_<;>intro h
 ·exact fin h
 refine .inl (dO ?_);refine Z8 h (λ_=>I0.ok) rfl λ_ h=>?_;refine Z8 h (λ_=>I0.ok) rfl λ_ h=>?_;refine⟨rfl,?_⟩;refine apO (f:=zO.cW) h rfl λ_ h=>?_;refine cO ?_;refine⟨v2.gT.length,X1 _,?_⟩;refine Ag h (λU=>⟨dd 10 (yr 10 0::yr 11 0::X::yr 13 0::AV.d (D.i v2.th.tb)::yO 84 zO.cW U::dd 155 ([])),nn 10 (yB (rv.av v2)::yB (Ct.av K)::N::yB [yi 3,yi 0,yi 0,yi 0,yi 0,yi 50,yb false,yi 0,yi 0,yi 0,yi 0,yi 0,yi 70,yb false,yi 0,yi 0]::nn 70 (yR 87 24 zO.cW U::nn 86 ([])))⟩) ?_ ?_
 ·intro _ h;exact Wg (.y 171 171 (.f 92 18 gT.cW (λi9 J=>⟨[(10,yr 10 0),(11,yr 11 0),(13,yr 13 0),(14,AV.d (D.i v2.th.tb)),(15,yO 84 zO.cW J),(92,AV.d (D.l 18 gT.cW v2.gT)),(93,yi (v2.gT.length:Int)),(94,yi (i9:Int))],[(10,yB (rv.av v2)),(11,yB (Ct.av K)),(13,yB [yi 3,yi 0,yi 0,yi 0,yi 0,yi 50,yb false,yi 0,yi 0,yi 0,yi 0,yi 0,yi 70,yb false,yi 0,yi 0]),(84,yR 87 24 zO.cW J)]⟩) (λJ i9 ae=>.b .z (.n [118] .z)))) h
 rintro U h;obtain⟨_,V,h⟩:=AM h;refine⟨dT V (X26 rfl),D.u8 (0:S),rfl,(Xa5 D.u8 (Xaa (Xa0 4) (0:S))),List.map_replicate.symm,?_⟩;refine⟨rfl,?_⟩;refine⟨rfl,?_⟩;refine⟨([(Xaa (Xa0 4) (0:S)),([(0:S),(0:S),(0:S),(6:S),(128:S),(15:S),(3:S),(0:S),(2:S),(1:S)]:O S)]:O (O S)).length,EW,?_⟩;refine Ag h (λF=>⟨dd 10 (yr 10 0::yr 11 0::X::X::X::yO 84 zO.cW F::dd 155 ([])),nn 10 (yB (rv.av v2)::yB (Ct.av K)::nn 72 (yR 87 24 zO.cW F::nn 86 ([])))⟩) ?_ ?_
 ·intro _ h;revert h;refine O1 123 60 1 .no (D.l 1 D.u8) rfl (λM H=>⟨dd 10 (yr 10 0::yr 11 0::X::yr 13 0::AV.d (D.i v2.th.tb)::yO 84 zO.cW H::dd 107 (AV.own 123 (Xa5 (D.l 1 D.u8) ([(Xaa (Xa0 4) (0:S)),([(0:S),(0:S),(0:S),(6:S),(128:S),(15:S),(3:S),(0:S),(2:S),(1:S)]:O S)]:O (O S))).length::AV.d (D.i (([(Xaa (Xa0 4) (0:S)),([(0:S),(0:S),(0:S),(6:S),(128:S),(15:S),(3:S),(0:S),(2:S),(1:S)]:O S)]:O (O S)).length:Int))::yi (M:Int)::dd 45 ([]))),nn 10 (yB (rv.av v2)::yB (Ct.av K)::N::yB [yi 3,yi 0,yi 0,yi 0,yi 0,yi 50,yb false,yi 0,yi 0,yi 0,yi 0,yi 0,yi 70,yb false,yi 0,yi 0]::nn 70 (yR 87 24 zO.cW H::nn 38 (some (OB.row 60 1 (Xa5 (D.l 1 D.u8) ([(Xaa (Xa0 4) (0:S)),([(0:S),(0:S),(0:S),(6:S),(128:S),(15:S),(3:S),(0:S),(2:S),(1:S)]:O S)]:O (O S))) .no)::nn 47 ([]))))⟩) ?_ ?_ ?_
  ·exact wk
  ·rintro H Y h;exact Wg .z h
  rintro _ M Z H Y P a6 af h ag;refine Al ?_;refine HA (K6 P) ?_;refine Al ?_;refine⟨rfl,Fv (f:=(D.l 1 D.u8)) P,?_⟩;refine⟨rfl,(D.l 1 D.u8) Z,a6,?_⟩;exact Wg (.n [135] .z) h
 rintro F h;exact Wg (.y 171 171 (.c (.o0 84 87 24 zO.cW (λa7 a8=>⟨[(10,yr 10 0),(11,yr 11 0),(15,yO 84 zO.cW F),(22,yr 22 0),(139,yO 84 zO.cW F),(140,yi (F.length:Int)),(141,yi (a7:Int))],[(10,yB (rv.av v2)),(11,yB (Ct.av K)),(22,yB (Ct.av a8)),(84,yR 87 24 zO.cW F)]⟩)) (λQ=>⟨[(10,yr 10 0),(11,yr 11 0),(15,yO 84 zO.cW F),(22,yr 22 0)],[(10,yB (rv.av v2)),(11,yB (Ct.av K)),(22,yB (Ct.av Q)),(84,yR 87 24 zO.cW F)]⟩) λQ=>.k (λaa=>⟨[(4,yb aa),(10,X),(11,X),(15,X),(22,X)],[(10,N),(11,N),(22,N),(84,N)]⟩))) h
end Go.AX.Q33
end
