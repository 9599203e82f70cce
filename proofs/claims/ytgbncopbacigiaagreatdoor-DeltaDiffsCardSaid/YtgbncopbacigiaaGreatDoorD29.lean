/-
  Texts of one proof, packed.
-/
import Derived.Test.YtgbncopbacigiaaGreatDoorD17
import Derived.Test.YtgbncopbacigiaaGreatDoorD27
import Derived.Test.YtgbncopbacigiaaGreatDoorD28
set_option linter.all false
set_option maxRecDepth 100000
set_option maxHeartbeats 4000000
open List renaming length_map→X10,length_append→X11,length_drop→X17,length_take→X18,length_replicate→X20,length_set→X21
open Int renaming toNat→Xi
open List renaming map→Wr,take→Xaq,drop→Xat
open And renaming intro→Xar
section
namespace Go.AX.Q29
open Go Go.AX Go.Proofs
variable {wl:Prop}
instance {a0:oX} {a1:Int} {Q:I}:CK (D6 a0 a1 Q) 124 [.ref 0 0,ed a1,ed Q] [.box (oX.av a0)] (λr=>.d (gH.cW r.1)) (λr=>[.box (oX.av r.2)]):=Wf 0 Tryz.f124 λh=>by
 refine⟨rfl,?_⟩;unfold D6 at h;(conv=>whnf);refine B1 h (λ_=>Jt.ok) λv1 h=>?_;refine B1 h (λ_=>Ad.ok) ?_;rintro⟨v2,_⟩ h;refine B1 h (λ_=>Ad.ok) ?_;rintro⟨_,_⟩ h;refine Ar h (λ(v3,P)=>⟨yr 0 0::yi a1::yb Q::X::X::X::yr 7 0::yr 8 0::yO 16 D.i P::dd 117 ([]),yB (oX.av v3)::nn 6 (yB gH.zv::yB [yi v2,AV.d (D.l 2 oF.cW v1.Path),AV.d (D.b v1.Next.V6),AV.d (D.u64 v1.Next.Hi),AV.d (D.u64 v1.Next.Lo),AV.d (D.i v1.sd),AV.d (D.i v1.rh),AV.d (D.i v1.rX),AV.d (D.l 2 r8.cW v1.fT),AV.d (D.l 3 n8.cW v1.n8),AV.d (D.l 3 kI.cW v1.lf)]::nn 7 (yR 3 1 D.i P::nn 110 ([])))⟩) ?_ ?_
 ·intro _ h;exact Wg (.y 126 127 (.w0 (u3 λv5 v6 v7=>⟨[(0,yr 0 0),(1,yi a1),(2,yb Q),(6,yr 7 0),(7,yr 8 0),(8,yO 16 D.i v7),(9,yi v5)],[(0,yB (oX.av v6)),(7,yB gH.zv),(8,yB [yi v2,AV.d (D.l 2 oF.cW v1.Path),AV.d (D.b v1.Next.V6),AV.d (D.u64 v1.Next.Hi),AV.d (D.u64 v1.Next.Lo),AV.d (D.i v1.sd),AV.d (D.i v1.rh),AV.d (D.i v1.rX),AV.d (D.l 2 r8.cW v1.fT),AV.d (D.l 3 n8.cW v1.n8),AV.d (D.l 3 kI.cW v1.lf)]),(16,yR 3 1 D.i v7)]⟩))) h
 rintro⟨v3,P⟩ h;(conv=>whnf);refine .inr (.inl ?_);refine B1 h (λ_=>T8.ok) λF h=>?_;refine B1 h (λ_=>Ad.ok) ?_;rintro⟨_,_⟩ h;refine Ar h (λ(U,H)=>⟨yr 0 0::X::yb Q::X::X::X::yr 7 0::yr 8 0::dd 118 ([]),yB (oX.av U)::nn 6 (yB gH.zv::yB [yi v2,AV.own 34 1,AV.d (D.b F.V6),AV.d (D.u64 F.Hi),AV.d (D.u64 F.Lo),yi H,AV.d (D.i v1.rh),AV.d (D.i v1.rX),AV.d (D.l 2 r8.cW v1.fT),AV.d (D.l 3 n8.cW v1.n8),AV.d (D.l 3 kI.cW v1.lf)]::nn 7 (yR 3 1 D.i P::nn 17 (yB [yb false,yO 16 D.i P]::nn 92 ([]))))⟩) ?_ ?_
 ·intro _ h;exact Wg .z h
 rintro⟨U,H⟩ h;refine B1 h (λ_=>Ad.ok) ?_;rintro⟨_,_⟩ h;refine Ar h (λ(V,J)=>⟨yr 0 0::X::yb Q::X::X::X::yr 7 0::yr 8 0::dd 118 ([]),yB (oX.av V)::nn 6 (yB gH.zv::yB [yi v2,AV.own 34 1,AV.d (D.b F.V6),AV.d (D.u64 F.Hi),AV.d (D.u64 F.Lo),yi H,yi J,AV.d (D.i v1.rX),AV.d (D.l 2 r8.cW v1.fT),AV.d (D.l 3 n8.cW v1.n8),AV.d (D.l 3 kI.cW v1.lf)]::nn 7 (yR 3 1 D.i P::nn 17 (yB [yb false,yO 16 D.i P]::nn 92 ([]))))⟩) ?_ ?_
 ·intro _ h;exact Wg .z h
 rintro⟨V,J⟩ h;refine B1 h (λ_=>IM.ok) ?_;rintro⟨K,_⟩ h;refine B1 h (λ_=>LZ.ok) ?_;rintro⟨M,_⟩ h;refine B1 h (λ_=>Ad.ok) ?_;rintro⟨_,_⟩ h;refine sI ?_;refine Ar h (λ(Y,Z,a6,a7,a8,aa,ab)=>⟨dd 6 (yr 7 0::yr 8 0::dd 118 ([])),yB (oX.av Y)::nn 6 (yB gH.zv::yB [yi v2,y3 Z,yb a6,yu a7,yu a8,yi H,yi J,yi aa,y4 K,y5 M,y7 ab]::nn 118 ([]))⟩) ?_ ?_
 ·intro _ h;refine Ce h ?_ ?_<;>intro h
  ·exact Wg .z h
  refine Ar h (λ(ae,af,ag,ah,ai,aj)=>⟨dd 6 (yr 7 0::yr 8 0::dd 118 ([])),yB (oX.av ae)::nn 6 (yB gH.zv::yB [yi v2,y3 af,yb ag,yu ah,yu ai,yi H,yi J,AV.d (D.i v1.rX),y4 K,y5 M,y7 aj]::nn 118 ([]))⟩) ?_ ?_
  ·intro _ h;refine Ce h ?_ ?_<;>intro h
   ·exact Wg .z h
   refine Ar h (λ(ak,al,an,ao,ap,aq)=>⟨dd 6 (yr 7 0::yr 8 0::dd 118 ([])),yB (oX.av ak)::nn 6 (yB gH.zv::yB [yi v2,y3 al,yb an,yu ao,yu ap,yi H,yi J,AV.d (D.i v1.rX),y4 K,y5 M,y7 aq]::nn 118 ([]))⟩) ?_ ?_
   ·intro _ h;refine Ce h ?_ ?_<;>intro h
    ·(conv=>whnf);refine .inl ?_;refine⟨rfl,?_⟩;refine⟨rfl,?_⟩;refine⟨by simp,?_⟩;exact Wg .z h
    exact Wg (.y 126 127 (.a (.b .z (.a (.b .z (.a (.b .z (.a (.b .z (.a (.b (.r .z) .z) (u2 λar au=>⟨[(6,yr 7 0),(7,yr 8 0)],[(0,yB (oX.av ar)),(7,yB gH.zv),(8,yB [yi v2,AV.own 34 1,AV.d (D.b F.V6),AV.d (D.u64 F.Hi),AV.d (D.u64 F.Lo),yi H,yi J,AV.d (D.i v1.rX),y4 K,y5 M,y7 au]),(16,yR 3 1 D.i P),(34,yB [yb false,yO 16 D.i P])]⟩))) (u3 λax ay az=>⟨[(6,yr 7 0),(7,yr 8 0)],[(0,yB (oX.av ax)),(7,yB gH.zv),(8,yB [yi v2,y3 ay,AV.d (D.b F.V6),AV.d (D.u64 F.Hi),AV.d (D.u64 F.Lo),yi H,yi J,AV.d (D.i v1.rX),y4 K,y5 M,y7 az])]⟩))) (u3 λb0 ba bb=>⟨[(6,yr 7 0),(7,yr 8 0)],[(0,yB (oX.av b0)),(7,yB gH.zv),(8,yB [yi v2,y3 ba,AV.d (D.b F.V6),AV.d (D.u64 F.Hi),AV.d (D.u64 F.Lo),yi H,yi J,AV.d (D.i v1.rX),y4 K,y5 M,y7 bb])]⟩))) (u6 λbc bd be bf bg bh=>⟨[(6,yr 7 0),(7,yr 8 0)],[(0,yB (oX.av bc)),(7,yB gH.zv),(8,yB [yi v2,y3 bd,yb be,yu bf,yu bg,yi H,yi J,AV.d (D.i v1.rX),y4 K,y5 M,y7 bh])]⟩))) (u6 λbi bj bk bl bm bn=>⟨[(6,yr 7 0),(7,yr 8 0)],[(0,yB (oX.av bi)),(7,yB gH.zv),(8,yB [yi v2,y3 bj,yb bk,yu bl,yu bm,yi H,yi J,AV.d (D.i v1.rX),y4 K,y5 M,y7 bn])]⟩))) h
   rintro⟨ak,al,an,ao,ap,aq⟩ h;exact sj h
  rintro⟨ae,af,ag,ah,ai,aj⟩ h;exact sj h
 rintro⟨Y,Z,a6,a7,a8,aa,ab⟩ h;exact fin h
instance {F:oX} {H:Int}:CK (D5 F H) 73 [.ref 0 0,ed H] [.box (oX.av F)] (λr=>.d (gD.cW r.1)) (λr=>[.box (oX.av r.2)]):=Wf 0 Tryz.f73 λh=>by unfold D5 at h;exact Wg .z h
instance {a0:oX} {a1:Int}:CK (DV a0 a1) 44 [.ref 0 0,ed a1] [.box (oX.av a0)] (λr=>.d (rZ.cW r.1)) (λr=>[.box (oX.av r.2)]):=Wf 0 Tryz.f44 λh=>by
 refine⟨rfl,?_⟩;unfold DV at h;(conv=>whnf);refine B1 h (λ_=>Jt.ok) λv1 h=>?_;refine B1 h (λ_=>Ad.ok) ?_;rintro⟨_,_⟩ h;refine Ar h (λ(v2,H)=>⟨yr 0 0::yi a1::X::X::yr 5 0::yr 6 0::dd 60 ([]),yB (oX.av v2)::nn 4 (yB rZ.zv::yB [yO 29 fv.cW H,AV.d (D.i v1.gS),AV.d (D.l 2 oF.cW v1.Path),AV.d (D.b v1.Next.V6),AV.d (D.u64 v1.Next.Hi),AV.d (D.u64 v1.Next.Lo),AV.d (D.i v1.sd),AV.d (D.i v1.rh),AV.d (D.i v1.rX),AV.d (D.l 2 r8.cW v1.fT),AV.d (D.l 3 n8.cW v1.n8),AV.d (D.l 3 kI.cW v1.lf),AV.d (D.nil 4)]::nn 22 (yR 80 4 fv.cW H::nn 37 ([])))⟩) ?_ ?_
 ·intro _ h;exact Wg (.y 66 67 (.w (u3 λv4 v5 v6=>⟨[(0,yr 0 0),(1,yi a1),(4,yr 5 0),(5,yr 6 0),(6,yi v4)],[(0,yB (oX.av v5)),(5,yB rZ.zv),(6,yB [yO 29 fv.cW v6,AV.d (D.i v1.gS),AV.d (D.l 2 oF.cW v1.Path),AV.d (D.b v1.Next.V6),AV.d (D.u64 v1.Next.Hi),AV.d (D.u64 v1.Next.Lo),AV.d (D.i v1.sd),AV.d (D.i v1.rh),AV.d (D.i v1.rX),AV.d (D.l 2 r8.cW v1.fT),AV.d (D.l 3 n8.cW v1.n8),AV.d (D.l 3 kI.cW v1.lf),AV.d (D.nil 4)]),(29,yR 80 4 fv.cW v6)]⟩) (u3 λv4 v5 v6=>.k (u2 λv8 v9=>⟨[(20,yb v8)],[(0,yB (oX.av v9))]⟩)))) h
 rintro⟨v2,H⟩ h;refine B1 h (λ_=>Ad.ok) ?_;rintro⟨_,_⟩ h;refine Ar h (λ(M,P,Q,U,V,Y,Z,a6,a7,a8,aa,ab,J)=>⟨dd 4 (yr 5 0::yr 6 0::dd 60 ([])),yB (oX.av M)::nn 4 (yB rZ.zv::yB [yO 29 fv.cW H,yi P,y3 Q,yb U,yu V,yu Y,yi Z,yi a6,yi a7,y4 a8,y5 aa,y7 ab,yO 42 fv.cW J]::nn 22 (yR 80 4 fv.cW H::nn 12 (yR 80 4 fv.cW J::nn 24 ([]))))⟩) ?_ ?_
 ·intro _ h;exact Wg (.b (.v λ(F:gD)=>.v λ_=>.y 66 67 (.a (.w (u3 λae af K=>⟨[(0,yr 0 0),(4,yr 5 0),(5,yr 6 0),(7,yr 8 0),(8,yi ae)],[(0,yB (oX.av af)),(5,yB rZ.zv),(6,yB [yO 29 fv.cW H,AV.d (D.i F.gH.gS),AV.d (D.l 2 oF.cW F.gH.Path),AV.d (D.b F.gH.Next.V6),AV.d (D.u64 F.gH.Next.Hi),AV.d (D.u64 F.gH.Next.Lo),AV.d (D.i F.gH.sd),AV.d (D.i F.gH.rh),AV.d (D.i F.gH.rX),AV.d (D.l 2 r8.cW F.gH.fT),AV.d (D.l 3 n8.cW F.gH.n8),AV.d (D.l 3 kI.cW F.gH.lf),yO 42 fv.cW K]),(8,yB (gD.av F)),(29,yR 80 4 fv.cW H),(42,yR 80 4 fv.cW K)]⟩) (u3 λae af K=>.b (.v λ_=>.v λai=>.k (λag=>⟨[],[(0,yB (oX.av ai)),(6,yB [yO 29 fv.cW H,AV.d (D.i F.gH.gS),AV.d (D.l 2 oF.cW F.gH.Path),AV.d (D.b F.gH.Next.V6),AV.d (D.u64 F.gH.Next.Hi),AV.d (D.u64 F.gH.Next.Lo),AV.d (D.i F.gH.sd),AV.d (D.i F.gH.rh),AV.d (D.i F.gH.rX),AV.d (D.l 2 r8.cW F.gH.fT),AV.d (D.l 3 n8.cW F.gH.n8),AV.d (D.l 3 kI.cW F.gH.lf),yO 42 fv.cW ag]),(42,yR 80 4 fv.cW ag)]⟩)) .z)) (u2 λaj ah=>⟨[(4,yr 5 0),(5,yr 6 0)],[(0,yB (oX.av aj)),(5,yB rZ.zv),(6,yB [yO 29 fv.cW H,AV.d (D.i F.gH.gS),AV.d (D.l 2 oF.cW F.gH.Path),AV.d (D.b F.gH.Next.V6),AV.d (D.u64 F.gH.Next.Hi),AV.d (D.u64 F.gH.Next.Lo),AV.d (D.i F.gH.sd),AV.d (D.i F.gH.rh),AV.d (D.i F.gH.rX),AV.d (D.l 2 r8.cW F.gH.fT),AV.d (D.l 3 n8.cW F.gH.n8),AV.d (D.l 3 kI.cW F.gH.lf),yO 42 fv.cW ah]),(29,yR 80 4 fv.cW H),(42,yR 80 4 fv.cW ah)]⟩))) .z) h
 rintro⟨M,P,Q,U,V,Y,Z,a6,a7,a8,aa,ab,J⟩ h;exact Wg .z h
instance {a0:oX} {a1:re}:CK (DY a0 a1) 18 [.ref 0 0,ed a1] [.box (oX.av a0)] (λr=>.d (sX.cW r.1)) (λr=>[.box (oX.av r.2)]):=Wf 0 Tryz.f18 λh=>by
 refine⟨rfl,?_⟩;unfold DY at h;refine⟨a1.fI.length,X10 _,?_⟩;refine⟨_,rfl,?_⟩;refine B1 h (λ_=>Ad.ok) ?_;rintro⟨v1,_⟩ h;refine⟨_,rfl,?_⟩;refine B1 h (λ_=>Ad.ok) ?_;rintro⟨_,_⟩ h;obtain⟨v2,g3,h⟩:=Aa h;refine⟨rfl,I5 (f:=D.i) g3,?_⟩;refine⟨rfl,D.i v2,(Nk (f:=D.i) g3),?_⟩;refine sI ?_;refine Ar h (λ(v4,v5)=>⟨dd 4 (yr 5 0::X::yr 7 0::dd 45 ([])),yB (oX.av v4)::nn 4 (yB sX.zv::N::yB (sX.av v5)::nn 45 ([]))⟩) ?_ ?_
 ·intro _ h;refine Ce h ?_ ?_<;>intro h
  ·exact Wg .z h
  refine Ar h (λ(v6,v7,v8,v9,F,H,J,K,M,P)=>⟨dd 4 (yr 5 0::X::yr 7 0::dd 45 ([])),yB (oX.av v6)::nn 4 (yB sX.zv::N::yB [yi v2,yi (AQ (101+v1)),yi v7,yi v8,AV.d (D.nil 4),yi 0,AV.d (D.nil 2),yb false,yu (0:j),yu (0:j),yi 0,yi 0,yi 0,AV.d (D.nil 2),AV.d (D.nil 3),AV.d (D.nil 3),AV.d (D.nil 4),yi v9,yb F,yb H,yb J,yi K,y0 M,y8 P]::nn 45 ([]))⟩) ?_ ?_
  ·intro _ h;refine Ce h ?_ ?_<;>intro h
   ·exact Wg .z h
   refine Ar h (λ(Q,U,V,Y,Z,a6,a7,a8,aa)=>⟨dd 4 (yr 5 0::X::yr 7 0::dd 45 ([])),yB (oX.av Q)::nn 4 (yB sX.zv::N::yB [yi v2,yi (AQ (101+v1)),yi 0,yi U,AV.d (D.nil 4),yi 0,AV.d (D.nil 2),yb false,yu (0:j),yu (0:j),yi 0,yi 0,yi 0,AV.d (D.nil 2),AV.d (D.nil 3),AV.d (D.nil 3),AV.d (D.nil 4),yi V,yb Y,yb Z,yb a6,yi a7,y0 a8,y8 aa]::nn 45 ([]))⟩) ?_ ?_
   ·intro _ h;exact Wg (.b .z (.y 52 53 (.k (u2 λab ae=>⟨[(4,yr 5 0),(6,yr 7 0)],[(0,yB (oX.av ab)),(5,yB sX.zv),(7,yB [yi v2,yi (AQ (101+v1)),yi 0,yi ae,AV.d (D.nil 4),yi 0,AV.d (D.nil 2),yb false,yu (0:j),yu (0:j),yi 0,yi 0,yi 0,AV.d (D.nil 2),AV.d (D.nil 3),AV.d (D.nil 3),AV.d (D.nil 4),yi 0,yb false,yb false,yb false,yi 0,AV.d (D.nil 1),AV.d (D.nil 2)])]⟩)))) h
   rintro⟨Q,U,V,Y,Z,a6,a7,a8,aa⟩ h;exact sj h
  rintro⟨v6,v7,v8,v9,F,H,J,K,M,P⟩ h;exact sj h
 rintro⟨v4,v5⟩ h;exact fin h
instance {a0:O gD} {a1:O gD}:CK (Fe a0 a1) 20 [ed a0,ed a1] [] ed oN:=Wf 0 Tryz.f20 λh=>by
 refine⟨rfl,?_⟩;unfold Fe at h;(conv=>whnf);refine vH (f:=gD.cW) h λ_ h=>?_;refine xG (f:=gD.cW) h rfl λv1 h=>?_;refine⟨v1.length,MO,?_⟩;refine Ar h (λv2=>⟨dd 5 (yO 5 fv.cW v2::dd 57 ([])),nn 5 (yR 80 4 fv.cW v2::nn 57 ([]))⟩) ?_ ?_
 ·intro _ h;revert h;refine QY 11 82 16 .no gD.cW rfl (λH F=>⟨dd 5 (yO 5 fv.cW F::dd 7 (yO 11 gD.cW v1::yi (v1.length:Int)::yi (H:Int)::dd 47 ([]))),nn 5 (yR 80 4 fv.cW F::nn 5 (yR 82 16 gD.cW v1::nn 51 ([])))⟩) ?_ ?_ ?_
  ·exact wk
  ·rintro F K5 h;exact Wg (.e .z) h
  rintro _ H V F K5 b3 c3 e3 h p7;refine sI ?_;refine GH (JV b3) ?_;refine Ar h (λY=>⟨dd 5 (yO 54 fv.cW Y::dd 7 (yO 11 gD.cW v1::yi (v1.length:Int)::yi (H:Int)::dd 47 ([]))),nn 11 (yR 82 16 gD.cW v1::nn 42 (yR 80 4 fv.cW Y::nn 8 ([])))⟩) ?_ ?_
  ·intro _ h;refine⟨rfl,Eo (f:=gD.cW) b3,?_⟩;refine⟨rfl,gD.cW V,c3,?_⟩;refine Ar h (λJ=>⟨dd 5 (yO 5 fv.cW F::X::yr 7 0::yi J::dd 4 (yO 11 gD.cW v1::yi (v1.length:Int)::yi (H:Int)::dd 47 ([]))),nn 5 (yR 80 4 fv.cW F::N::yB (gD.av V)::N::N::N::yR 82 16 gD.cW v1::nn 51 ([]))⟩) ?_ ?_
   ·intro _ h;exact Wg (.y 63 63 (.w (λM=>⟨[(5,yO 5 fv.cW F),(7,yr 7 0),(8,yi M),(13,yO 11 gD.cW v1),(14,yi (v1.length:Int)),(15,yi (H:Int))],[(5,yR 80 4 fv.cW F),(7,yB (gD.av V)),(11,yR 82 16 gD.cW v1)]⟩) (λM=>.k (λZ=>⟨[(32,yb Z)],[]⟩)))) h
   rintro J h;refine Ar h (λP=>⟨dd 5 (yO 5 fv.cW F::X::yr 7 0::yi J::dd 4 (yO 11 gD.cW v1::yi (v1.length:Int)::yi (H:Int)::dd 31 (yb P::dd 15 ([])))),nn 5 (yR 80 4 fv.cW F::N::yB (gD.av V)::N::N::N::yR 82 16 gD.cW v1::nn 51 ([]))⟩) ?_ ?_
   ·intro _ h;exact Wg .z h
   rintro P h;refine Ar h (λK=>⟨dd 5 (yO 54 fv.cW K::dd 7 (yO 11 gD.cW v1::yi (v1.length:Int)::yi (H:Int)::dd 47 ([]))),nn 11 (yR 82 16 gD.cW v1::nn 42 (yR 80 4 fv.cW K::nn 8 ([])))⟩) ?_ ?_
   ·intro _ h;refine Ce h ?_ ?_<;>intro h
    ·(conv=>whnf);refine .inr (.inl ?_);obtain⟨_,Q,h⟩:=Aa h;have a6:=Ew Q;refine⟨Kp (f:=fv.cW) Q,rfl,(Xi J),(Xi (F.length:Int)-Xi J),rfl,(by rw[X10]),?_⟩;refine⟨MO,Wr fv.cW (Xaq (Xi (F.length:Int)-Xi J) (Xat (Xi J) F)),LK,?_⟩;refine vH (f:=fv.cW) h λ_ h=>?_;refine .inl (dO ?_);(conv=>whnf);refine .inr (.inr ?_);obtain⟨a7,U,h⟩:=Aa h;refine⟨XW (f:=fv.cW) U,rfl,_,Lh (f:=fv.cW) U,?_⟩;exact Wg .z h
    exact Wg (.x 5 54) h
   rintro K h;exact sj h
  rintro Y h;exact Wg (.x 54 5) h
 rintro v2 h;exact Wg .z h
instance {F:O gD} {H:fv}:CK (EK F H) 21 [ed F,ed H] [] e2 oN:=Wf 0 Tryz.f21 λh=>by unfold EK at h;exact Wg (.y 21 21 (.a (.f0 8 16 gD.cW (λJ _=>⟨[(3,yr 3 0),(4,yr 4 0),(8,y6 F),(9,yi (F.length:Int)),(10,yi (J:Int))],[(3,yB (fv.av H)),(4,yB gD.zv)]⟩)) (λ_=>⟨[(4,yr 4 0)],[(4,yB gD.zv)]⟩))) h
instance {F:O Int} {H:O Int}:CK (EM F H) 80 [ed F,ed H] [] ed oN:=Wf 0 Tryz.f80 λh=>by unfold EM at h;exact Wg (.b .z (.y 26 26 (.a (.f0 11 1 D.i (λJ _=>⟨[(0,y0 F),(1,y0 H),(11,y0 F),(12,yi (F.length:Int)),(13,yi (J:Int))],[]⟩)) (λ_=>⟨[],[]⟩)))) h
instance {F:gH} {H:gH}:CK (B6 F H) 52 [ed F,ed H] [] ed oN:=Wf 0 Tryz.f52 λh=>by
 refine⟨rfl,?_⟩;unfold B6 at h;(conv=>whnf);refine Ar h (λv1=>⟨X::X::yr 2 0::yr 3 0::dd 73 (yb v1::dd 124 ([])),Z9 F H⟩) ?_ ?_
 ·intro _ h;exact Wg .z h
 rintro v1 h;refine sI ?_;refine Ce h ?_ ?_<;>intro h
 ·exact fin h
 refine⟨F.Path.length,X10 _,?_⟩;refine Ar h (λ_=>⟨X::X::yr 2 0::yr 3 0::dd 198 ([]),Z9 F H⟩) ?_ ?_
 ·intro _ h;exact Wg (.y 202 202 (.f 79 2 oF.cW (λZ _=>⟨[(2,yr 2 0),(3,yr 3 0),(79,AV.d (D.l 2 oF.cW F.Path)),(80,yi (F.Path.length:Int)),(81,yi (Z:Int))],[(2,yB (gH.av F)),(3,yB (gH.av H))]⟩) (λ_ Z x4=>.g (.k (λv6=>⟨[(112,yb v6)],[]⟩))))) h
 rintro _ h;refine⟨F.fT.length,X10 _,?_⟩;refine Ar h (λ_=>⟨X::X::yr 2 0::yr 3 0::dd 198 ([]),Z9 F H⟩) ?_ ?_
 ·intro _ h;exact Wg (.y 202 202 (.f0 115 2 r8.cW (λi7 _=>⟨[(2,yr 2 0),(3,yr 3 0),(115,AV.d (D.l 2 r8.cW F.fT)),(116,yi (F.fT.length:Int)),(117,yi (i7:Int))],[(2,yB (gH.av F)),(3,yB (gH.av H))]⟩))) h
 rintro _ h;refine⟨F.n8.length,X10 _,?_⟩;refine Ar h (λ_=>⟨X::X::yr 2 0::yr 3 0::dd 198 ([]),Z9 F H⟩) ?_ ?_
 ·intro _ h;exact Wg (.y 202 202 (.f0 133 3 n8.cW (λU _=>⟨[(2,yr 2 0),(3,yr 3 0),(133,AV.d (D.l 3 n8.cW F.n8)),(134,yi (F.n8.length:Int)),(135,yi (U:Int))],[(2,yB (gH.av F)),(3,yB (gH.av H))]⟩))) h
 rintro _ h;refine⟨F.lf.length,X10 _,?_⟩;refine Ar h (λ_=>⟨dd 202 ([]),nn 202 ([])⟩) ?_ ?_
 ·intro _ h;revert h;refine By 151 3 kI.cW rfl (λM _=>⟨X::X::yr 2 0::yr 3 0::dd 147 (AV.d (D.l 3 kI.cW F.lf)::yi (F.lf.length:Int)::yi (M:Int)::dd 48 ([])),Z9 F H⟩) ?_ ?_ ?_
  ·exact wk
  ·rintro _ V h;exact Wg (.e .z) h
  rintro _ M J _ V K P a6 h a7;refine sI ?_;refine GH (JV K) ?_;refine sI ?_;refine Ar h (λQ=>⟨X::X::yr 2 0::yr 3 0::dd 147 (AV.d (D.l 3 kI.cW F.lf)::yi (F.lf.length:Int)::yi (M:Int)::dd 46 (yb Q::X::[])),Z9 F H⟩) ?_ ?_
  ·intro _ h;refine .inl (dO ?_);refine⟨Eo (f:=kI.cW) K,kI.cW J,P,rfl,?_⟩;(conv=>whnf);refine Fq h (λ_=>rfl) λ_ h=>?_;refine Ce h ?_ ?_<;>intro h
   ·exact Wg .z h
   refine⟨Eo (f:=kI.cW) K,kI.cW J,P,rfl,?_⟩;(conv=>whnf);refine Fq h (λ_=>rfl) λ_ h=>?_;refine Ce h ?_ ?_<;>intro h
   ·exact Wg .z h
   refine⟨Eo (f:=kI.cW) K,kI.cW J,P,rfl,?_⟩;refine⟨J.Data,rfl,?_⟩;(conv=>whnf);refine Fq h (λ_=>rfl) λY h=>?_;refine⟨Y.Data,rfl,?_⟩;exact Wg .z h
  rintro Q h;exact Wg .z h
 rintro _ h;exact fin h
instance {F:gD} {H:gD}:CK (Aw F H) 22 [ed F,ed H] [] ed oN:=Wf 0 Tryz.f22 λh=>by unfold Aw at h;exact Wg (.y 24 24 (.k (λv1=>⟨[(4,yb v1)],[]⟩))) h
instance Kv {F:O gD}:CK (Az F) 23 [ed F] [] ed oN:=Wf 0 Tryz.f23 λh=>by unfold Az at h;exact Wg (.y 25 25 (.a (.f0 6 16 gD.cW (λJ H=>⟨[(3,yO 3 gD.cW H),(6,y6 F),(7,yi (F.length:Int)),(8,yi (J:Int))],[(3,yR 82 16 gD.cW H)]⟩)) (λv1=>⟨[(3,yO 3 gD.cW v1)],[(3,yR 82 16 gD.cW v1)]⟩))) h
instance {H:Int} {J:O gD} {K:O gD}:CK (EU H J K) 6 [ed H,ed J,ed K] [] ed oN:=Wf 0 Tryz.f6 λh=>by unfold EU at h;exact Wg (.v λ(v1:O fv)=>.y 60 60 (.a (.f 17 4 fv.cW (λU M=>⟨[(0,yi H),(1,y6 J),(2,y6 K),(7,yO 7 rG.cW M),(17,y2 v1),(18,yi (v1.length:Int)),(19,yi (U:Int))],[(7,yR 87 22 rG.cW M)]⟩) (λM U Y=>.a (.v λ_=>.v λ_=>.v λZ=>.v λP=>.d (λF=>⟨[(9,yr 9 0),(12,yr 12 0),(13,yb P),(42,yb F)],[(9,yB (fv.av Y)),(12,yB (gD.av Z))]⟩) λF=>.b .z (.k (λQ=>⟨[(9,X),(12,X),(13,X),(14,yr 14 0),(42,X)],[(9,N),(12,N),(14,yB (rG.av Q))]⟩))) (λV=>⟨[(7,yO 7 rG.cW V)],[(7,yR 87 22 rG.cW V)]⟩))) (λv2=>⟨[(7,yO 7 rG.cW v2)],[(7,yR 87 22 rG.cW v2)]⟩))) h
instance {F:O oF} {H:O oF}:CK (Dw F H) 173 [ed F,ed H] [] ed oN:=Wf 0 Tryz.f173 λh=>by unfold Dw at h;exact Wg (.b .z (.y 61 61 (.a (.f 14 2 oF.cW (λJ _=>⟨[(1,y3 H),(14,y3 F),(15,yi (F.length:Int)),(16,yi (J:Int))],[]⟩) (λ_ J K=>.a (.d (λM=>⟨[(5,yi (J:Int)),(6,yr 6 0),(40,yb M)],[(6,yB (oF.av K))]⟩) λM=>.b .z (.a (.f0 42 1 D.i (λP _=>⟨[(6,X),(40,X),(42,AV.d (D.l 1 D.i K.n7)),(43,yi (K.n7.length:Int)),(44,yi (P:Int))],[(6,N)]⟩)) (λ_=>⟨[(5,X),(6,X),(40,X)],[(6,N)]⟩))) (λ_=>⟨[],[]⟩))) (λ_=>⟨[],[]⟩)))) h
instance {F:O r8} {H:O r8}:CK (Dy F H) 174 [ed F,ed H] [] ed oN:=Wf 0 Tryz.f174 λh=>by unfold Dy at h;exact Wg (.b .z (.y 26 26 (.a (.f0 12 2 r8.cW (λJ _=>⟨[(1,y4 H),(12,y4 F),(13,yi (F.length:Int)),(14,yi (J:Int))],[]⟩)) (λ_=>⟨[],[]⟩)))) h
instance {F:O n8} {H:O n8}:CK (BJ F H) 175 [ed F,ed H] [] ed oN:=Wf 0 Tryz.f175 λh=>by unfold BJ at h;exact Wg (.b .z (.y 26 26 (.a (.f0 12 3 n8.cW (λJ _=>⟨[(1,y5 H),(12,y5 F),(13,yi (F.length:Int)),(14,yi (J:Int))],[]⟩)) (λ_=>⟨[],[]⟩)))) h
instance {F:O kI} {H:O kI}:CK (BY F H) 176 [ed F,ed H] [] ed oN:=Wf 0 Tryz.f176 λh=>by
 refine⟨rfl,?_⟩;unfold BY at h;refine⟨F.length,X10 _,?_⟩;refine⟨H.length,X10 _,?_⟩;refine sI ?_;refine Ce h ?_ ?_<;>intro h
 ·exact fin h
 refine⟨F.length,X10 _,?_⟩;refine Ar h (λ_=>⟨dd 50 ([]),nn 50 ([])⟩) ?_ ?_
 ·intro _ h;revert h;refine By 12 3 kI.cW rfl (λJ _=>⟨X::y7 H::dd 10 (y7 F::yi (F.length:Int)::yi (J:Int)::dd 35 ([])),nn 50 ([])⟩) ?_ ?_ ?_
  ·exact wk
  ·rintro _ P h;exact Wg (.e .z) h
  rintro _ J K _ P b1 Q e1 h V;refine sI ?_;refine GH (JV b1) ?_;refine sI ?_;refine⟨Eo (f:=kI.cW) b1,kI.cW K,Q,rfl,?_⟩;refine Ar h (λM=>⟨X::y7 H::dd 10 (y7 F::yi (F.length:Int)::yi (J:Int)::dd 33 (yb M::X::[])),nn 50 ([])⟩) ?_ ?_
  ·intro _ h;refine .inl (dO ?_);(conv=>whnf);refine Fq h (λ_=>rfl) λ_ h=>?_;refine Ce h ?_ ?_<;>intro h
   ·exact Wg .z h
   (conv=>whnf);refine Fq h (λ_=>rfl) λ_ h=>?_;refine Ce h ?_ ?_<;>intro h
   ·exact Wg .z h
   refine⟨K.Data,rfl,?_⟩;(conv=>whnf);refine Fq h (λ_=>rfl) λU h=>?_;refine⟨U.Data,rfl,?_⟩;exact Wg .z h
  rintro M h;exact Wg .z h
 rintro _ h;exact fin h
instance {F:gH} {H:gH}:CK (CQ F H) 125 [ed F,ed H] [] ed oN:=Wf 0 Tryz.f125 λh=>by unfold CQ at h;exact Wg (.y 66 66 (.k (λv1=>⟨[(4,yb v1)],[]⟩))) h
instance {F:Int} {H:Int}:CK (AP F H) 227 [ed F,ed H] [] ed oN:=Wf 0 Tryz.f227 λh=>by unfold AP at h;exact Wg (.y 23 23 (.a (.w0 (u2 λv2 J=>⟨[(0,yi F),(5,yO 5 D.u8 J),(6,yi v2)],[(5,yR 5 1 D.u8 J)]⟩)) (λv1=>⟨[(5,yO 5 D.u8 v1)],[(5,yR 5 1 D.u8 v1)]⟩))) h
instance {F:gH}:CK (FX F) 177 [ed F] [] e2 oN:=Wf 0 Tryz.f177 λh=>by
 refine⟨rfl,?_⟩;unfold FX at h;(conv=>whnf);refine B1 h (λ_=>QT.ok) λ_ h=>?_;refine sI ?_;refine Ce h ?_ ?_<;>intro h
 ·exact fin h
 refine Ar h (λv1=>⟨wL,N::yB (gH.av F)::N::N::some (OB.row 162 3 (Wr kI.cW []) .no)::nn 19 (some (OB.map 3 160 (BS D.i (D.l 1 D.u8) v1))::nn 170 ([]))⟩) ?_ ?_
 ·intro _ h;refine Oz h λh=>?_;refine⟨_,Tj _,?_⟩;(conv=>whnf);refine .inl ?_;refine⟨rfl,?_⟩;refine⟨_,NZ (ek:=D.i) (ev:=(D.l 1 D.u8)) (l:=[]) (k:=1) (v:=([(BF F.gS)]:O S)) H8,?_⟩;exact sj h
 rintro v1 h;refine Ar h (λv2=>⟨X::yr 1 0::X::X::AV.own 4 (Wr kI.cW []).length::AV.mp 24::dd 35 (yb v2::dd 153 ([])),N::yB (gH.av F)::N::N::some (OB.row 162 3 (Wr kI.cW []) .no)::nn 19 (some (OB.map 3 160 (BS D.i (D.l 1 D.u8) v1))::nn 170 ([]))⟩) ?_ ?_
 ·intro _ h;exact Wg .z h
 rintro v2 h;refine Ar h (λv3=>⟨wL,N::yB (gH.av F)::N::N::some (OB.row 162 3 (Wr kI.cW []) .no)::nn 19 (some (OB.map 3 160 (BS D.i (D.l 1 D.u8) v3))::nn 170 ([]))⟩) ?_ ?_
 ·intro _ h;exact Wg (.b (.y 195 195 (.a (.f 44 2 oF.cW (λi5 v6=>⟨[(1,yr 1 0),(4,AV.own 4 (Wr kI.cW []).length),(5,AV.mp 24),(6,yO 42 D.u8 v6),(44,AV.d (D.l 2 oF.cW F.Path)),(45,yi (F.Path.length:Int)),(46,yi (i5:Int))],[(1,yB (gH.av F)),(4,some (OB.row 162 3 (Wr kI.cW []) .no)),(24,some (OB.map 3 160 (BS D.i (D.l 1 D.u8) v1))),(42,yR 5 1 D.u8 v6)]⟩) (λv6 i5 x8=>.a (.d (λa1=>⟨[(8,yr 8 0),(9,yv a1)],[(8,yB (oF.av x8))]⟩) λa1=>.a (.f0 61 1 D.i (λax a6=>⟨[(6,yO 42 D.u8 a6),(8,X),(9,X),(61,AV.d (D.l 1 D.i x8.n7)),(62,yi (x8.n7.length:Int)),(63,yi (ax:Int))],[(8,N),(42,yR 5 1 D.u8 a6)]⟩)) (λa7=>⟨[(6,yO 42 D.u8 a7),(8,X),(9,X)],[(8,N),(42,yR 5 1 D.u8 a7)]⟩)) (λa8=>⟨[(6,yO 42 D.u8 a8)],[(42,yR 5 1 D.u8 a8)]⟩))) (λv4=>⟨[(1,yr 1 0),(4,AV.own 4 (Wr kI.cW []).length),(5,AV.mp 24),(6,yO 42 D.u8 v4)],[(1,yB (gH.av F)),(4,some (OB.row 162 3 (Wr kI.cW []) .no)),(24,some (OB.map 3 160 (BS D.i (D.l 1 D.u8) v1))),(42,yR 5 1 D.u8 v4)]⟩))) .z) h
 rintro v3 h;refine Ar h (λaa=>⟨X::yr 1 0::X::X::AV.own 4 (Wr kI.cW []).length::AV.mp 24::dd 78 (yb aa::dd 110 ([])),N::yB (gH.av F)::N::N::some (OB.row 162 3 (Wr kI.cW []) .no)::nn 19 (some (OB.map 3 160 (BS D.i (D.l 1 D.u8) v3))::nn 170 ([]))⟩) ?_ ?_
 ·intro _ h;exact Wg .z h
 rintro aa h;refine Ar h (λab=>⟨wL,N::yB (gH.av F)::N::N::some (OB.row 162 3 (Wr kI.cW []) .no)::nn 19 (some (OB.map 3 160 (BS D.i (D.l 1 D.u8) ab))::nn 170 ([]))⟩) ?_ ?_
 ·intro _ h;exact Wg (.b (.n [88] .z) .z) h
 rintro ab h;refine Ar h (λae=>⟨wL,N::yB (gH.av F)::N::N::some (OB.row 162 3 (Wr kI.cW []) .no)::nn 19 (some (OB.map 3 160 (BS D.i (D.l 1 D.u8) ae))::nn 170 ([]))⟩) ?_ ?_
 ·intro _ h;exact Wg .z h
 rintro ae h;refine Ar h (λaf=>⟨wL,N::yB (gH.av F)::N::N::some (OB.row 162 3 (Wr kI.cW []) .no)::nn 19 (some (OB.map 3 160 (BS D.i (D.l 1 D.u8) af))::nn 170 ([]))⟩) ?_ ?_
 ·intro _ h;exact Wg .z h
 rintro af h;refine⟨F.fT.length,X10 _,?_⟩;refine Ar h (λ(ag,P)=>⟨wL,N::yB (gH.av F)::N::N::some (OB.row 162 3 (Wr kI.cW []) .no)::nn 19 (some (OB.rK 3 160 (BS D.i (D.l 1 D.u8) ag) (.int .i64 8) 112 (Wr D.u8 P).length)::nn 87 (some (OB.row 5 1 (Wr D.u8 P) .sQ)::nn 82 ([])))⟩) ?_ ?_
 ·intro _ h;obtain⟨_,ay,h⟩:=Aa h;revert h;refine By 104 2 r8.cW rfl (λah (H,J)=>⟨X::yr 1 0::X::X::AV.own 4 (Wr kI.cW []).length::AV.mp 24::dd 98 (AV.d (D.l 2 r8.cW F.fT)::yi (F.fT.length:Int)::yi (ah:Int)::dd 88 ([])),N::yB (gH.av F)::N::N::some (OB.row 162 3 (Wr kI.cW []) .no)::nn 19 (some (OB.rK 3 160 (BS D.i (D.l 1 D.u8) H) (.int .i64 8) 112 (Wr D.u8 J).length)::nn 87 (some (OB.row 5 1 (Wr D.u8 J) .sQ)::nn 82 ([])))⟩) ?_ ?_ ?_
  ·exact (.mk rfl (Xar (.refl _) (Xar (.refl _) (Xar (.refl _) (Xar (.refl _) (Xar (.refl _) (Xar (.refl _) True.intro)))))) (Xar ⟨_,rfl,Xar ⟨rfl,.refl _⟩ (Xar ⟨rfl,.refl _⟩ (Xar ⟨rfl,.refl _⟩ (Xar ⟨rfl,.refl _⟩ (Xar ⟨rfl,.refl _⟩ (Xar ⟨rfl,.refl _⟩ (Xar ⟨rfl,.refl _⟩ (Xar ⟨rfl,.refl _⟩ (Xar ⟨rfl,.refl _⟩ (Xar ⟨rfl,.refl _⟩ (Xar ⟨rfl,.refl _⟩ (True.intro)))))))))))⟩ (Xar (.inl ⟨_,rfl,⟨id,trivial⟩⟩) (Xar (.inr ⟨.inl rfl,⟨_,Oa H8 ay⟩,rfl,rfl,_,_,_,rfl⟩) (Xar (.inr ⟨rfl,rfl,by decide⟩) (True.intro))))) rfl)
  ·rintro⟨H,J⟩ az h;exact Wg (.e .z) h
  rintro _ ah b0 ⟨H,J⟩ az ai ba bf h bg;refine sI ?_;refine GH (JV ai) ?_;refine sI ?_;refine⟨Eo (f:=r8.cW) ai,r8.cW b0,ba,rfl,?_⟩;refine .inl (dO ?_);(conv=>whnf);refine .inr ⟨rfl,rfl,⟨_,HD (ek:=D.i) (ev:=(D.l 1 D.u8)) (l:=H) (k:=8) H8⟩,rfl,?_⟩;exact Wg (.r .z) h
 rintro⟨ag,P⟩ h;refine⟨F.n8.length,X10 _,?_⟩;refine Ar h (λ(aj,Q)=>⟨wL,N::yB (gH.av F)::N::N::some (OB.row 162 3 (Wr kI.cW []) .no)::nn 19 (some (OB.rK 3 160 (BS D.i (D.l 1 D.u8) aj) (.int .i64 32) 131 (Wr D.u8 Q).length)::nn 106 (some (OB.row 5 1 (Wr D.u8 Q) .sQ)::nn 63 ([])))⟩) ?_ ?_
 ·intro _ h;obtain⟨_,bb,h⟩:=Aa h;revert h;refine By 123 3 n8.cW rfl (λak (K,M)=>⟨X::yr 1 0::X::X::AV.own 4 (Wr kI.cW []).length::AV.mp 24::dd 117 (AV.d (D.l 3 n8.cW F.n8)::yi (F.n8.length:Int)::yi (ak:Int)::dd 69 ([])),N::yB (gH.av F)::N::N::some (OB.row 162 3 (Wr kI.cW []) .no)::nn 19 (some (OB.rK 3 160 (BS D.i (D.l 1 D.u8) K) (.int .i64 32) 131 (Wr D.u8 M).length)::nn 106 (some (OB.row 5 1 (Wr D.u8 M) .sQ)::nn 63 ([])))⟩) ?_ ?_ ?_
  ·exact (.mk rfl (Xar (.refl _) (Xar (.refl _) (Xar (.refl _) (Xar (.refl _) (Xar (.refl _) (Xar (.refl _) True.intro)))))) (Xar ⟨_,rfl,Xar ⟨rfl,.refl _⟩ (Xar ⟨rfl,.refl _⟩ (Xar ⟨rfl,.refl _⟩ (Xar ⟨rfl,.refl _⟩ (Xar ⟨rfl,.refl _⟩ (Xar ⟨rfl,.refl _⟩ (Xar ⟨rfl,.refl _⟩ (Xar ⟨rfl,.refl _⟩ (Xar ⟨rfl,.refl _⟩ (Xar ⟨rfl,.refl _⟩ (Xar ⟨rfl,.refl _⟩ (True.intro)))))))))))⟩ (Xar (.inl ⟨_,rfl,⟨id,trivial⟩⟩) (Xar (.inr ⟨.inr ⟨_,_,_,rfl⟩,⟨_,Oa H8 bb⟩,rfl,rfl,_,_,_,rfl⟩) (Xar (.inr ⟨rfl,rfl,by decide⟩) (True.intro))))) rfl)
  ·rintro⟨K,M⟩ bc h;exact Wg (.e .z) h
  rintro _ ak bd ⟨K,M⟩ bc al be bh h bi;refine sI ?_;refine GH (JV al) ?_;refine sI ?_;refine⟨Eo (f:=n8.cW) al,n8.cW bd,be,rfl,?_⟩;refine .inl (dO ?_);(conv=>whnf);refine .inr ⟨rfl,rfl,⟨_,HD (ek:=D.i) (ev:=(D.l 1 D.u8)) (l:=K) (k:=32) H8⟩,rfl,?_⟩;exact Wg (.r .z) h
 rintro⟨aj,Q⟩ h;exact Wg (.y 195 195 (.d (λan=>⟨[(1,yr 1 0),(4,AV.own 4 (Wr kI.cW []).length),(5,AV.mp 24)],[(1,yB (gH.av F)),(4,some (OB.row 162 3 (Wr kI.cW []) .no)),(24,some (OB.map 3 160 (BS D.i (D.l 1 D.u8) an)))]⟩) λan=>.a (.w (u2 λU V=>⟨[(4,yO 4 kI.cW V),(152,yi U)],[(4,yR 162 3 kI.cW V)]⟩) (u2 λU V=>.b (.a (.d (λY=>⟨[(4,yO 4 kI.cW Y),(16,yi U)],[(4,yR 162 3 kI.cW Y)]⟩) λY=>.a (.f 172 3 kI.cW (λao Z=>⟨[(4,yO 4 kI.cW Z),(172,AV.d (D.l 3 kI.cW F.lf)),(173,yi (F.lf.length:Int)),(174,yi (ao:Int))],[(4,yR 162 3 kI.cW Z)]⟩) (λZ ao bj=>.g (.k (λap=>⟨[(4,yO 4 kI.cW ap)],[(4,yR 162 3 kI.cW ap)]⟩)))) (λaq=>⟨[(4,yO 4 kI.cW aq),(16,X)],[(4,yR 162 3 kI.cW aq)]⟩)) (λar=>⟨[(4,yO 4 kI.cW ar)],[(4,yR 162 3 kI.cW ar)]⟩)) .z)) (λau=>⟨[(1,X),(4,yO 4 kI.cW au),(5,X)],[(1,N),(4,yR 162 3 kI.cW au),(24,N)]⟩))) h
instance {F:O fv} {H:I}:CK (Dn F H) 178 [ed F,ed H] [] ed oN:=Wf 0 Tryz.f178 λh=>by
 refine⟨rfl,?_⟩;unfold Dn at h;refine⟨F.length,X10 _,?_⟩;refine Ar h (λv1=>⟨dd 5 (yO 5 D.u8 v1::dd 30 ([])),nn 5 (yR 5 1 D.u8 v1::nn 30 ([]))⟩) ?_ ?_
 ·intro _ h;revert h;refine By 8 4 fv.cW rfl (λK J=>⟨X::yb H::X::X::X::yO 5 D.u8 J::X::X::y2 F::yi (F.length:Int)::yi (K:Int)::dd 25 ([]),nn 5 (yR 5 1 D.u8 J::nn 30 ([]))⟩) ?_ ?_ ?_
  ·exact wk
  ·rintro J V h;exact Wg (.e .z) h
  rintro _ K M J V b2 Y e2 h p6;refine sI ?_;refine GH (JV b2) ?_;refine sI ?_;refine⟨Eo (f:=fv.cW) b2,fv.cW M,Y,rfl,?_⟩;refine Ar h (λP=>⟨X::yb H::X::X::X::yO 5 D.u8 P::X::X::y2 F::yi (F.length:Int)::yi (K:Int)::dd 25 ([]),nn 5 (yR 5 1 D.u8 P::nn 30 ([]))⟩) ?_ ?_
  ·intro _ h;refine Oz h λh=>?_;refine .inl (dO ?_);refine⟨_,Tj _,?_⟩;refine⟨rfl,?_⟩;refine xG (f:=D.u8) h rfl λ_ h=>?_;refine lR h (λ_=>JW.ok) rfl λZ h=>?_;refine⟨_,rfl,?_⟩;refine⟨by decide,_,rfl,?_⟩;(conv=>whnf);refine .inr (.inl ?_);obtain⟨_,Q,h⟩:=Aa h;have U:=Ew Q;refine⟨eh (f:=D.u8) Q,rfl,(Xi 0),(Xi (AQ (Int.tdiv (AQ (M.rL+7)) 8))-Xi 0),rfl,rfl,?_⟩;refine⟨MO,Wr D.u8 (Xaq (Xi (AQ (Int.tdiv (AQ (M.rL+7)) 8))-Xi 0) (Xat (Xi 0) Z)),LK,?_⟩;exact Wg .z h
  rintro P h;exact Wg .z h
 rintro v1 h;exact Wg .z h
instance {F:O kI} {H:kI}:CK (FK F H) 179 [ed F,ed H] [] ed oN:=Wf 0 Tryz.f179 λh=>by unfold FK at h;exact Wg (.y 33 33 (.a (.w (λv2=>⟨[(0,y7 F),(3,yr 3 0),(5,yi v2)],[(3,yB (kI.av H))]⟩) (λv2=>.k (λJ=>⟨[(19,yb J)],[]⟩))) (λv1=>⟨[(0,y7 F),(3,yr 3 0),(5,yi v1)],[(3,yB (kI.av H))]⟩))) h
instance {F:O kI}:CK (Hf F) 181 [ed F] [] e2 oN:=Wf 0 Tryz.f181 λh=>by unfold Hf at h;exact Wg (.y 89 89 (.c (.f 10 3 kI.cW (λM _=>⟨[(0,y7 F),(10,y7 F),(11,yi (F.length:Int)),(12,yi (M:Int))],[]⟩) (λ_ M V=>.g (.k (λU=>⟨[(39,yb U)],[]⟩)))) (λ_=>⟨[(0,y7 F)],[]⟩) λ_=>.a (.f 41 3 kI.cW (λP J=>⟨[(0,X),(6,yO 6 D.u8 J),(41,y7 F),(42,yi (F.length:Int)),(43,yi (P:Int))],[(6,yR 5 1 D.u8 J)]⟩) (λJ P K=>.g (.k (λH=>⟨[(6,yO 6 D.u8 H),(8,yr 8 0)],[(6,yR 5 1 D.u8 H),(8,yB (kI.av K))]⟩)))) (λQ=>⟨[(0,X),(6,yO 6 D.u8 Q)],[(6,yR 5 1 D.u8 Q)]⟩))) h
instance {F:rZ}:CK (FO F) 126 [ed F] [] e2 oN:=Wf 0 Tryz.f126 λh=>by unfold FO at h;exact Wg (.y 96 96 (.d (λv1=>⟨[(1,yr 1 0),(4,y7 v1)],[(1,yB (rZ.av F))]⟩) λv1=>.c (.b (.n [38] .z) .z) (λH=>⟨[(4,y7 H)],[]⟩) λH=>.k (λJ=>⟨[(4,y7 J)],[]⟩))) h
instance eg {F:rZ}:CK (Gq F) 74 [ed F] [] ed oN:=Wf 0 Tryz.f74 λh=>by unfold Gq at h;exact Wg (.y 92 92 (.d (λv1=>⟨[(1,yr 1 0),(18,yb v1)],[(1,yB (rZ.av F))]⟩) λv1=>.b .z (.v λ_=>.v λv2=>.c (.o0 21 80 4 fv.cW (λP _=>⟨[(18,X),(24,yO 21 fv.cW v2),(25,yi (v2.length:Int)),(26,yi (P:Int))],[(21,yR 80 4 fv.cW v2)]⟩)) (λ_=>⟨[(18,X)],[]⟩) λ_=>.d (λK=>⟨[(44,yb K)],[]⟩) λK=>.b .z (.c (.f 46 4 fv.cW (λM _=>⟨[(44,X),(46,AV.d (D.l 4 fv.cW F.gT)),(47,yi (F.gT.length:Int)),(48,yi (M:Int))],[]⟩) (λ_ M Q=>.g (.k (λH=>⟨[(78,yb H)],[]⟩)))) (λ_=>⟨[(44,X)],[]⟩) λ_=>.k (λJ=>⟨[(1,X),(2,yb J)],[(1,N)]⟩))))) h
instance Nx {F:O gN}{H:fv}:CK (DJ F H) 75 [ed F,ed H] [] (λr=>AV.own 0 (Wr gN.cW r).length) (λr=>[.row 143 18 (Wr gN.cW r) .no]):=Wf 0 Tryz.f75 λh=>by unfold DJ at h;exact Wg (.y 25 25 (.c (.f 8 18 gN.cW (λK J=>⟨[(3,yr 3 0),(5,yO 5 gN.cW J),(8,y9 F),(9,yi (F.length:Int)),(10,yi (K:Int))],[(3,yB (fv.av H)),(5,yR 143 18 gN.cW J)]⟩) (λJ K P=>.g (.k (λM=>⟨[(5,yO 5 gN.cW M)],[(5,yR 143 18 gN.cW M)]⟩)))) (λv1=>⟨[(5,yO 5 gN.cW v1)],[(5,yR 143 18 gN.cW v1)]⟩) λv1=>.l (.r .z))) h
instance {F:gD}:CK (IV F) 182 [ed F] [] ed oN:=Wf 0 Tryz.f182 λh=>by unfold IV at h;exact Wg (.y 42 42 (.k (λv1=>⟨[(2,yb v1)],[]⟩))) h
instance {F:O oF}:CK (Gt F) 228 [ed F] [] e2 oN:=Wf 0 Tryz.f228 λh=>by unfold Gt at h;exact Wg (.y 24 24 (.k (λv1=>⟨[(0,y3 F),(17,yb v1)],[]⟩))) h
instance {F:O Int} {H:Int}:CK (FS F H) 231 [ed F,ed H] [] ed oN:=Wf 0 Tryz.f231 λh=>by unfold FS at h;exact Wg (.y 17 17 (.a (.f0 7 1 D.i (λJ _=>⟨[(1,yi H),(7,y0 F),(8,yi (F.length:Int)),(9,yi (J:Int))],[]⟩)) (λ_=>⟨[],[]⟩))) h
instance {H:Int} {J:Int} {F:gH}:CK (Ep H J F) 232 [ed H,ed J,ed F] [] e2 oN:=Wf 0 Tryz.f232 λh=>by unfold Ep at h;exact Wg (.b .z (.y 50 50 (.d (λv1=>⟨[(0,yi H),(1,yi J),(5,yr 5 0),(6,yr 6 0),(8,yb v1)],[(5,yB (gH.av F)),(6,yB gH.zv)]⟩) λv1=>.d (λv2=>⟨[(35,yb v2)],[]⟩) λv2=>.b .z (.d (λK=>⟨[(0,X),(8,X),(35,X),(46,yb K)],[]⟩) λK=>.k (λM=>⟨[(1,X),(46,X)],[(5,yB [AV.d (D.i F.gS),AV.d (D.l 2 oF.cW F.Path),AV.d (D.b F.Next.V6),AV.d (D.u64 F.Next.Hi),AV.d (D.u64 F.Next.Lo),AV.d (D.i F.sd),AV.d (D.i F.rh),yi M,AV.d (D.l 2 r8.cW F.fT),AV.d (D.l 3 n8.cW F.n8),AV.d (D.l 3 kI.cW F.lf)])]⟩))))) h
instance {U:mu} {V:r6} {Y:gH}:CK (Fj U V Y) 183 [ed U,ed V,ed Y] [] (λr=>AV.own 0 (Wr D.i r).length) (λr=>[.row 3 1 (Wr D.i r) .no]):=Wf 0 Tryz.f183 λh=>by unfold Fj at h;exact Wg (.y 167 167 (.d (λv1=>⟨[(3,yr 3 0),(4,yr 4 0),(5,yr 5 0),(7,AV.own 7 (Wr D.i []).length),(37,yb v1)],[(3,yB (mu.av U)),(4,yB (r6.av V)),(5,yB (gH.av Y)),(7,some (OB.row 3 1 (Wr D.i []) .no))]⟩) λv1=>.d (λv2=>⟨[(7,yO 7 D.i v2),(37,X)],[(7,yR 3 1 D.i v2)]⟩) λv2=>.c (.f 42 3 Addr.cW (λi4 v5=>⟨[(10,yb v5),(42,AV.d (D.l 3 Addr.cW V.rz)),(43,yi (V.rz.length:Int)),(44,yi (i4:Int))],[]⟩) (λv5 i4 x7=>.g (.k (λv9=>⟨[(10,yb v9)],[]⟩)))) (λv3=>⟨[(10,yb v3)],[]⟩) λv3=>.d (λF=>⟨[(7,yO 7 D.i F),(10,X)],[(7,yR 3 1 D.i F)]⟩) λF=>.d (λH=>⟨[(7,yO 7 D.i H)],[(7,yR 3 1 D.i H)]⟩) λH=>.d (λJ=>⟨[(7,yO 7 D.i J)],[(7,yR 3 1 D.i J)]⟩) λJ=>.c (.f 79 2 oF.cW (λZ a6=>⟨[(13,yb a6),(14,yb false),(15,yb false),(79,AV.d (D.l 2 oF.cW Y.Path)),(80,yi (Y.Path.length:Int)),(81,yi (Z:Int))],[]⟩) (λa6 Z ar=>.g (.k (λal=>⟨[(13,yb al)],[]⟩)))) (λa7=>⟨[(13,yb a7),(14,yb false),(15,yb false)],[]⟩) λa7=>.v λ(a8:O Int)=>.c (.f 93 1 D.i (λaa=>u2 λab ae=>⟨[(14,yb ab),(15,yb ae),(93,y0 a8),(94,yi (a8.length:Int)),(95,yi (aa:Int))],[]⟩) (u2 λab ae aa af=>.a (.c (.f 100 2 s8.cW (λag ah=>⟨[(14,yb ah),(19,yi af),(100,AV.d (D.l 2 s8.cW U.oE)),(101,yi (U.oE.length:Int)),(102,yi (ag:Int))],[]⟩) (λah ag au=>.g (.k (λan=>⟨[(14,yb an)],[]⟩)))) (λai=>⟨[(14,yb ai),(19,yi af)],[]⟩) λai=>.k (λao=>⟨[(15,yb ao),(19,X)],[]⟩)) (u2 λap aq=>⟨[(14,yb ap),(15,yb aq)],[]⟩))) (u2 λaj ak=>⟨[(3,X),(14,yb aj),(15,yb ak)],[(3,N)]⟩) (u2 λaj ak=>.d (λK=>⟨[(7,yO 7 D.i K),(13,X)],[(7,yR 3 1 D.i K)]⟩) λK=>.d (λM=>⟨[(7,yO 7 D.i M),(14,X)],[(7,yR 3 1 D.i M)]⟩) λM=>.d (λP=>⟨[(7,yO 7 D.i P),(15,X)],[(7,yR 3 1 D.i P)]⟩) λP=>.d (λQ=>⟨[(4,X),(5,X),(7,yO 7 D.i Q)],[(4,N),(5,N),(7,yR 3 1 D.i Q)]⟩) λQ=>.l (.r .z)))) h
instance {F:fv} {H:Addr}:CK (CU F H) 233 [ed F,ed H] [] ed oN:=Wf 0 Tryz.f233 λh=>by unfold CU at h;exact Wg (.y 21 21 (.k (λv1=>⟨[(4,yb v1)],[]⟩))) h
instance {F:fv} {H:fv}:CK (A7 F H) 184 [ed F,ed H] [] ed oN:=Wf 0 Tryz.f184 λh=>by unfold A7 at h;exact Wg (.y 16 16 (.k (λv1=>⟨[(4,yb v1)],[]⟩))) h
instance {H:mu} {F:gD}:CK (HT H F) 185 [ed H,ed F] [] ed oN:=Wf 0 Tryz.f185 λh=>by unfold HT at h;exact Wg (.y 44 44 (.d (u3 λv1 v2 J=>⟨[(3,yr 3 0),(5,yi v1),(6,yi v2),(7,yi J)],[(3,yB (gD.av F))]⟩) (u3 λv1 v2 J=>.b .z (.k (λK=>⟨[(3,X),(4,yb K),(5,X),(6,X),(7,X)],[(3,N)]⟩))))) h
instance {F:O oB}:CK (Dm F) 187 [ed F] [] ed oN:=Wf 0 Tryz.f187 λh=>by unfold Dm at h;exact Wg (.y 24 24 (.a (.f0 6 6 oB.cW (λJ H=>⟨[(3,yO 3 oB.cW H),(6,uE F),(7,yi (F.length:Int)),(8,yi (J:Int))],[(3,yR 134 6 oB.cW H)]⟩)) (λv1=>⟨[(3,yO 3 oB.cW v1)],[(3,yR 134 6 oB.cW v1)]⟩))) h
instance {F:O oF}:CK (F6 F) 188 [ed F] [] e2 oN:=Wf 0 Tryz.f188 λh=>by unfold F6 at h;exact Wg (.y 30 30 (.k (λv1=>⟨[(0,y3 F),(21,yb v1)],[]⟩))) h
instance LA {F:ry}{H:T}:CK (E4 F H) 271 [ed F,ed H] [] e2 oN:=Wf 0 Tryz.f271 λh=>by unfold E4 at h;exact Wg (.y 22 22 (.a (.f0 9 3 Set.cW (λJ _=>⟨[(1,ys H),(4,yr 4 0),(9,AV.d (D.l 3 Set.cW F.oT)),(10,yi (F.oT.length:Int)),(11,yi (J:Int))],[(4,yB Set.zv)]⟩)) (λ_=>⟨[(4,yr 4 0)],[(4,yB Set.zv)]⟩))) h
instance {F:O T} {H:T}:CK (Br F H) 272 [ed F,ed H] [] ed oN:=Wf 0 Tryz.f272 λh=>by unfold Br at h;exact Wg (.y 44 44 (.c (.w (λv2=>⟨[(0,we F),(1,ys H),(5,yi v2)],[]⟩) (λv2=>.k (λJ=>⟨[(17,yb J)],[]⟩))) (λv1=>⟨[(0,we F),(1,ys H),(5,yi v1)],[]⟩) λv1=>.k (λK=>⟨[(31,yb K)],[]⟩))) h
instance {F:O Int} {H:Int}:CK (Dx F H) 273 [ed F,ed H] [] ed oN:=Wf 0 Tryz.f273 λh=>by unfold Dx at h;exact Wg (.y 44 44 (.c (.w (λv2=>⟨[(0,y0 F),(1,yi H),(5,yi v2)],[]⟩) (λv2=>.k (λJ=>⟨[(17,yb J)],[]⟩))) (λv1=>⟨[(0,y0 F),(1,yi H),(5,yi v1)],[]⟩) λv1=>.k (λK=>⟨[(31,yb K)],[]⟩))) h
instance {K:ry} {a1:T}:CK (Ft K a1) 235 [ed K,ed a1] [] e3 oN:=Wf 0 Tryz.f235 λh=>by
 refine⟨rfl,?_⟩;unfold Ft at h;(conv=>whnf);refine B1 h (λ_=>RD.ok) λ_ h=>?_;refine sI ?_;refine Ce h ?_ ?_<;>intro h
 ·exact fin h
 refine B1 h (λ_=>LA.ok) ?_;rintro⟨_,_⟩ h;refine sI ?_;refine Ce h ?_ ?_<;>intro h
 ·exact fin h
 refine⟨_,NZ (ek:=D.s) (ev:=D.b) (l:=[]) (k:=a1) (v:=true) PD,?_⟩;refine Ar h (λ(v1,v2)=>⟨dd 9 (y0 v1::we v2::dd 75 ([])),nn 86 ([])⟩) ?_ ?_
 ·intro _ h;revert h;refine E3 (λ(v3,v4,U,Q)=>⟨X::X::yr 2 0::dd 6 (y0 v3::we v4::AV.mp 30::yO 34 D.s Q::dd 73 ([])),N::N::yB (ry.av K)::nn 27 (some (OB.map 9 4 (BS D.s D.b U))::N::N::N::yR 9 1 D.s Q::nn 51 ([]))⟩) ?_ ?_
  ·exact wk
  rintro _ ⟨v3,v4,U,Q⟩ _ h p7;refine⟨Q.length,MO,?_⟩;refine sI ?_;refine Oz h λh=>?_;refine Ar h (λ(v8,v9,V,M)=>⟨X::X::yr 2 0::dd 6 (y0 v8::we v9::AV.mp 30::yO 54 D.s M::dd 73 ([])),N::N::yB (ry.av K)::nn 27 (some (OB.map 9 4 (BS D.s D.b V))::nn 23 (yR 9 1 D.s M::nn 31 ([])))⟩) ?_ ?_
  ·intro _ h;refine .inl (dO ?_);obtain⟨ae,Y,h⟩:=Aa h;refine⟨rfl,I5 (f:=D.s) Y,?_⟩;refine⟨rfl,D.s ae,(Nk (f:=D.s) Y),?_⟩;refine IZ h (λ_=>LA.ok) (λ_=>rfl) ?_;rintro⟨F,_⟩ h;refine cO ?_;refine Ar h (λH=>⟨X::X::yr 2 0::dd 6 (y0 v3::we H::AV.mp 30::yO 34 D.s Q::yr 13 0::dd 72 ([])),N::N::yB (ry.av K)::nn 10 (yB (Set.av F)::nn 16 (some (OB.map 9 4 (BS D.s D.b U))::N::N::N::yR 9 1 D.s Q::nn 51 ([])))⟩) ?_ ?_
   ·intro _ h;exact Wg .z h
   rintro H h;(conv=>whnf);refine .inr (.inr ?_);obtain⟨J,Z,h⟩:=Aa h;refine⟨kZ (f:=D.s) Z,rfl,_,Y5 (f:=D.s) Z,?_⟩;exact Wg (.y 86 86 (.c (.f0 56 1 D.i (λaf ag=>⟨[(2,yr 2 0),(9,y0 ag),(10,we H),(11,AV.mp 30),(12,yO 54 D.s J),(13,yr 13 0),(56,AV.d (D.l 1 D.i F.n7)),(57,yi (F.n7.length:Int)),(58,yi (af:Int))],[(2,yB (ry.av K)),(13,yB (Set.av F)),(30,some (OB.map 9 4 (BS D.s D.b U))),(54,yR 9 1 D.s J)]⟩)) (λa6=>⟨[(2,yr 2 0),(9,y0 a6),(10,we H),(11,AV.mp 30),(12,yO 54 D.s J),(13,yr 13 0)],[(2,yB (ry.av K)),(13,yB (Set.av F)),(30,some (OB.map 9 4 (BS D.s D.b U))),(54,yR 9 1 D.s J)]⟩) λa6=>.a (.f 67 1 D.s (λa7=>u2 λa8 P=>⟨[(12,yO 54 D.s P),(13,X),(67,AV.d (D.l 1 D.s F.oT)),(68,yi (F.oT.length:Int)),(69,yi (a7:Int))],[(13,N),(30,some (OB.map 9 4 (BS D.s D.b a8))),(54,yR 9 1 D.s P)]⟩) (u2 λa8 P a7 aj=>.g (.k (u2 λah aa=>⟨[(12,yO 54 D.s aa)],[(30,some (OB.map 9 4 (BS D.s D.b ah))),(54,yR 9 1 D.s aa)]⟩)))) (u2 λai ab=>⟨[(12,yO 54 D.s ab),(13,X)],[(13,N),(30,some (OB.map 9 4 (BS D.s D.b ai))),(54,yR 9 1 D.s ab)]⟩))) h
  rintro⟨v8,v9,V,M⟩ h;exact p7 _ _ (.swap 54 34 rfl rfl rfl wk) h
 rintro⟨v1,v2⟩ h;exact fin h
instance {F:O Int} {H:Int}:CK (GT F H) 236 [ed F,ed H] [] ed oN:=Wf 0 Tryz.f236 λh=>by unfold GT at h;exact Wg (.y 17 17 (.a (.f0 7 1 D.i (λJ _=>⟨[(1,yi H),(7,y0 F),(8,yi (F.length:Int)),(9,yi (J:Int))],[]⟩)) (λ_=>⟨[],[]⟩))) h
instance aE {F:O oB}{H:fv}{J:Int}:CK (CG F H J) 237 [ed F,ed H,ed J] [] ed oN:=Wf 0 Tryz.f237 λh=>by unfold CG at h;exact Wg (.b .z (.y 40 40 (.a (.f 13 6 oB.cW (λK M=>⟨[(2,yi J),(4,yr 4 0),(7,yi M),(13,uE F),(14,yi (F.length:Int)),(15,yi (K:Int))],[(4,yB (fv.av H))]⟩) (λM K V=>.g (.g (.a (.b .z (.a (.b (.k (λP=>⟨[(7,yi P)],[]⟩)) .z) (λQ=>⟨[(7,yi Q)],[]⟩))) (λU=>⟨[(7,yi U)],[]⟩))))) (λv1=>⟨[(7,yi v1)],[]⟩)))) h
instance {F:oB} {H:oB}:CK (HL F H) 298 [ed F,ed H] [] ed oN:=Wf 0 Tryz.f298 λh=>by unfold HL at h;exact Wg (.b .z (.g (.y 38 38 (.k (λv1=>⟨[(2,yr 2 0),(3,yr 3 0),(14,yb v1)],[(2,yB (oB.av F)),(3,yB (oB.av H))]⟩))))) h
instance {H:O oB}:CK (Fh H) 274 [ed H] [] ed oN:=Wf 0 Tryz.f274 λh=>by
 refine⟨rfl,?_⟩;unfold Fh at h;refine⟨H.length,X10 _,?_⟩;refine Ar h (λv1=>⟨X::X::X::yO 3 oB.cW v1::dd 49 ([]),N::N::N::yR 134 6 oB.cW v1::nn 49 ([])⟩) ?_ ?_
 ·intro _ h;revert h;refine By 7 6 oB.cW rfl (λK F=>⟨X::X::X::yO 3 oB.cW F::X::X::X::uE H::yi (H.length:Int)::yi (K:Int)::dd 43 ([]),N::N::N::yR 134 6 oB.cW F::nn 49 ([])⟩) ?_ ?_ ?_
  ·exact wk
  ·rintro F K4 h;exact Wg (.e .z) h
  rintro _ K U F K4 b2 c2 e2 h p6;refine sI ?_;refine GH (JV b2) ?_;refine Ar h (λV=>⟨X::X::X::yO 3 oB.cW V::X::X::X::uE H::yi (H.length:Int)::yi (K:Int)::dd 43 ([]),N::N::N::yR 134 6 oB.cW V::nn 49 ([])⟩) ?_ ?_
  ·intro _ h;refine⟨Eo (f:=oB.cW) b2,oB.cW U,c2,rfl,?_⟩;refine Ar h (λJ=>⟨X::X::X::yO 3 oB.cW F::X::yr 5 0::yi J::uE H::yi (H.length:Int)::yi (K:Int)::dd 43 ([]),N::N::N::yR 134 6 oB.cW F::N::yB (oB.av U)::nn 47 ([])⟩) ?_ ?_
   ·intro _ h;exact Wg (.y 53 53 (.w (λZ=>⟨[(3,yO 3 oB.cW F),(5,yr 5 0),(6,yi Z),(7,uE H),(8,yi (H.length:Int)),(9,yi (K:Int))],[(3,yR 134 6 oB.cW F),(5,yB (oB.av U))]⟩) (λZ=>.k (λY=>⟨[(25,yb Y)],[]⟩)))) h
   rintro J h;refine Ar h (λM=>⟨X::X::X::yO 3 oB.cW F::X::yr 5 0::yi J::uE H::yi (H.length:Int)::yi (K:Int)::dd 29 (yb M::dd 13 ([])),N::N::N::yR 134 6 oB.cW F::N::yB (oB.av U)::nn 47 ([])⟩) ?_ ?_
   ·intro _ h;exact Wg .z h
   rintro M h;refine sI ?_;refine VZ h λh=>?_;refine .inl (dO ?_);(conv=>whnf);refine .inr (.inl ?_);obtain⟨_,P,h⟩:=Aa h;have a1:=Ew P;refine⟨eh (f:=oB.cW) P,rfl,(Xi 0),(Xi J-Xi 0),rfl,rfl,?_⟩;refine⟨MO,Wr oB.cW (Xaq (Xi J-Xi 0) (Xat (Xi 0) F)),LK,?_⟩;refine vH (f:=oB.cW) h λ_ h=>?_;refine⟨rfl,?_⟩;refine xG (f:=oB.cW) h rfl λ_ h=>?_;(conv=>whnf);refine .inr (.inl ?_);obtain⟨_,Q,h⟩:=Aa h;have a6:=Ew Q;refine⟨Kp (f:=oB.cW) Q,rfl,(Xi J),(Xi (F.length:Int)-Xi J),rfl,(by rw[X10]),?_⟩;refine⟨MO,Wr oB.cW (Xaq (Xi (F.length:Int)-Xi J) (Xat (Xi J) F)),LK,?_⟩;exact Wg (.x 43 3) h
  rintro V h;exact Wg .z h
 rintro v1 h;exact Wg .z h
instance {F:ry} {H:O Int}:CK (HJ F H) 238 [ed F,ed H] [] ed oN:=Wf 0 Tryz.f238 λh=>by unfold HJ at h;exact Wg (.y 26 26 (.a (.f 9 6 oB.cW (λK J=>⟨[(1,y0 H),(5,yO 5 oB.cW J),(9,AV.d (D.l 6 oB.cW F.n5)),(10,yi (F.n5.length:Int)),(11,yi (K:Int))],[(5,yR 134 6 oB.cW J)]⟩) (λJ K P=>.g (.k (λM=>⟨[(5,yO 5 oB.cW M)],[(5,yR 134 6 oB.cW M)]⟩)))) (λv1=>⟨[(5,yO 5 oB.cW v1)],[(5,yR 134 6 oB.cW v1)]⟩))) h
instance {F:ry} {K:Int} {M:T} {H:fv} {J:Int}:CK (Bg F K M H J) 189 [ed F,ed K,ed M,ed H,ed J] [] ed oN:=Wf 0 Tryz.f189 λh=>by unfold Bg at h;exact Wg (.b .z (.y 45 45 (.d (λv1=>⟨[(4,yi J),(5,yr 5 0),(8,yr 8 0),(11,yO 19 D.i v1)],[(5,yB (ry.av F)),(8,yB (fv.av H)),(19,yR 3 1 D.i v1)]⟩) λv1=>.m .z))) h
end Go.AX.Q29
end
