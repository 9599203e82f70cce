/-
  Texts of one proof, packed.
-/
import Derived.Test.YtppcmaidcgimpaaGreatDoorU18
import Derived.Test.YtppcmaidcgimpaaGreatDoorU28
import Derived.Test.YtppcmaidcgimpaaGreatDoorU29
import Derived.Test.YtppcmaidcgimpaaGreatDoorU30
import Derived.Test.YtppcmaidcgimpaaGreatDoorU31
import Derived.Test.YtppcmaidcgimpaaGreatDoorU32
set_option linter.all false
set_option maxRecDepth 100000
set_option maxHeartbeats 4000000
open List renaming length_map→X10,length_append→X11,length_drop→X17,length_take→X18,length_replicate→X20,length_set→X21
open Nat renaming le_of_ble_eq_true→X29
open Int renaming toNat→Wo
open List renaming map→Xa1,take→Xbx,drop→Xc2
open Go.Proofs.Tryz renaming prog→Xa9
open And renaming intro→Xb6
section
namespace Go.AX.Q25
open Go Go.AX Go.Proofs
variable {wl:Prop}
def Ei {H:vV}{J:ls}{F:tT}{r:ls×Int}(h:Dm H J F=some r):Ao (Wl True) Xa9 15 [AV.d (vV.fv H),AV.d (ls.fv J),AV.d (tT.fv F)] [] (.wx [.d (ls.fv r.1),.d (D.i r.2)]) []:=by
 refine oK Tryz.f15 ⟨rfl,?_⟩;unfold Dm at h;(conv=>whnf);refine Ap h (λv1=>⟨X::X::X::yr 3 0::yr 4 0::yr 5 0::yr 6 0::dd 24 (yb v1::dd 79 ([])),N::N::N::yB (vV.av H)::yB (ls.av J)::yB (tT.av F)::yB ls.zv::nn 104 ([])⟩) ?_ ?_
 ·intro _ h;refine Ah h (λ_=>T8.ok) λ_ h=>?_;refine Jx h λh=>?_;refine Ah h (λ_=>Nz.ok) λ_ h=>?_;refine Jx h λh=>?_;refine Ah h (λ_=>Ta.ok) λ_ h=>?_;exact vu h
 rintro v1 h;refine vX ?_;refine CN h ?_ ?_<;>intro h
 ·exact fin h
 refine vX ?_;refine CN h ?_ ?_<;>intro h
 ·exact fin h
 refine NC [38] h (λ_=>Xs.ok) λv2 h=>?_;refine⟨F.gS.length,X10 _,?_⟩;refine Ap h (λv3=>⟨X::X::X::yr 3 0::yr 4 0::yr 5 0::yr 6 0::X::yr 8 0::dd 102 ([]),Kb v3 v2.lf.tS v2.lf.Set v2.lf.tb v2.lf.tv v2.Up v2.oX v2.lf.oT H J F⟩) ?_ ?_
 ·intro _ h;revert h;refine Bi 40 4 fI.fv rfl (λY Z=>⟨sf (F.gS.length:Int) (Y:Int) F.gS,Kb Z v2.lf.tS v2.lf.Set v2.lf.tb v2.lf.tv v2.Up v2.oX v2.lf.oT H J F⟩) ?_ ?_ ?_
  ·exact wk
  ·rintro Z K6 h;refine vX ?_;refine M8 Tv ?_;exact vu h
  rintro _ Y x7 Z K6 b4 c4 e4 h p8;refine vX ?_;refine Ea (IC b4) ?_;refine vX ?_;refine⟨D6 (f:=fI.fv) b4,fI.fv x7,c4,rfl,?_⟩;refine⟨rfl,?_⟩;refine ZE h (λ_=>Oq.ok) ?_;rintro⟨_,_⟩ h;refine Ap h (λv9=>⟨sf (F.gS.length:Int) (Y:Int) F.gS,N::N::N::yB (vV.av H)::yB (ls.av J)::yB (tT.av F)::yB ls.zv::N::yB [AV.d (D.i v2.lf.tS),AV.d (D.s v2.lf.Set),AV.d (D.i v2.lf.tb),AV.d (D.i v2.lf.tv),AV.d (D.l 3 Addr.fv v2.lf.oT),AV.d (D.b v2.Up),yO 59 gD.fv v9,AV.d (D.i v2.oX)]::nn 50 (yR 71 18 gD.fv v9::nn 51 ([]))⟩) ?_ ?_
  ·intro _ h;refine CN h ?_ ?_<;>intro h
   ·refine⟨_,rfl,?_⟩;obtain⟨ai,a6,h⟩:=AY h;refine⟨_,_,some [59],Zp (f:=gD.fv) a6,?_⟩;exact vu h
   exact Gn (.swap 38 59 rfl rfl rfl wk) h
  rintro v9 h;refine⟨_,e4,?_⟩;exact p8 _ _ (.swap 59 38 rfl rfl rfl wk) h
 rintro v3 h;refine⟨F.fT.length,X10 _,?_⟩;refine Ap h (λK=>⟨dd 6 (yr 6 0::X::yr 8 0::dd 102 ([])),nn 6 (yB ls.zv::N::LB K v2.lf.tS v2.lf.Set v2.lf.tb v2.lf.tv v2.Up v2.oX v2.lf.oT::nn 29 (yR 71 18 gD.fv K::nn 72 ([])))⟩) ?_ ?_
 ·intro _ h;revert h;refine Bi 63 4 fI.fv rfl (λM P=>⟨sd (F.fT.length:Int) (M:Int) F.fT,Kb P v2.lf.tS v2.lf.Set v2.lf.tb v2.lf.tv v2.Up v2.oX v2.lf.oT H J F⟩) ?_ ?_ ?_
  ·exact wk
  ·rintro P a7 h;refine vX ?_;refine M8 Tv ?_;exact vu h
  rintro _ M a8 P a7 zp aa ab h ae;refine vX ?_;refine Ea (IC zp) ?_;refine vX ?_;refine⟨D6 (f:=fI.fv) zp,fI.fv a8,aa,rfl,?_⟩;refine .inl (dO ?_);refine Db h (λ_=>Vg.ok) (λ_=>rfl) λ_ h=>?_;refine cO ?_;refine .inl (dO ?_);refine Db h (λ_=>Tz) (λ_=>rfl) λ_ h=>?_;refine cO ?_;refine⟨rfl,?_⟩;refine ZE h (λ_=>Oq.ok) ?_;rintro⟨_,_⟩ h;refine Ap h (λQ=>⟨sd (F.fT.length:Int) (M:Int) F.fT,Kb Q v2.lf.tS v2.lf.Set v2.lf.tb v2.lf.tv v2.Up v2.oX v2.lf.oT H J F⟩) ?_ ?_
  ·intro _ h;refine CN h ?_ ?_<;>intro h
   ·obtain⟨af,U,h⟩:=AY h;refine⟨rfl,MP (f:=gD.fv) U,?_⟩;obtain⟨aj,V,h⟩:=AY h;have ah:=Z9 V;refine⟨rfl,rfl,gD.fv af,(Kt (f:=gD.fv) U),?_⟩;refine⟨_,mS (f:=gD.fv) V,?_⟩;exact vu h
   obtain⟨ak,ag,h⟩:=AY h;refine⟨_,_,some [],ZK (f:=gD.fv) ag,?_⟩;exact vu h
  rintro Q h;refine⟨_,ab,?_⟩;exact ae _ _ wk h
 rintro K h;refine⟨rfl,?_⟩;refine ZE h (λ_=>WT.ok) λ_ h=>?_;refine vX ?_;refine CN h ?_ ?_<;>intro h
 ·exact fin h
 refine⟨rfl,?_⟩;refine Ah h (λ_=>Rn.ok) λ_ h=>?_;exact fin h
instance QM {F:lf}:CK (Ji F) 30 [ed F] [] ed oN:=Wf 0 Tryz.f30 λh=>by unfold Ji at h;exact Wg .z h
instance Nu {F:ls}:CK (HG F) 34 [ed F] [] e2 oN:=Wf 0 Tryz.f34 λh=>by unfold HG at h;exact Wg (.b .z (.b .z (.n [13] .z))) h
def C5 {r:C}(h:C4=some r):Ao (Wl True) Xa9 10 [] [] (.d (D.b r)) []:=by
 refine oK Tryz.f10 ⟨rfl,?_⟩;unfold C4 at h;(conv=>whnf);refine Ah h (λ_=>QM.ok) λ_ h=>?_;refine Ah h (λ_=>Nu.ok) ?_;rintro⟨_,_⟩ h;(conv=>whnf);refine .inl ?_;refine⟨rfl,?_⟩;refine⟨rfl,?_⟩;refine⟨rfl,?_⟩;refine Ah h (λ_=>Ei) ?_;rintro⟨v1,_⟩ h;refine⟨rfl,?_⟩;refine Ev (f:=fI.fv) h rfl λ_ h=>?_;refine⟨rfl,?_⟩;refine⟨rfl,?_⟩;refine Ah h (λ_=>Ei) ?_;rintro⟨_,_⟩ h;refine Ap h (λv2=>⟨yb v2::dd 69 ([]),nn 70 ([])⟩) ?_ ?_
 ·intro _ h;refine G9 h λh=>?_;refine G9 h λh=>?_;refine G9 h λh=>?_;refine⟨v1.gD.length,X10 _,?_⟩;refine G9 h λh=>?_;(conv=>whnf);refine QD h (λ_=>rfl) λ_ h=>?_;exact vu h
 rintro v2 h;exact fin h
instance KQ {F:I Int}:CK (Gp F) 11 [ed F] [] (λr=>.ref 0 0) (λr=>[.box (r9.av r)]):=Wf 0 Tryz.f11 λh=>by unfold Gp at h;exact Wg .z h
instance {F:Int} {H:Int}:CK (FR F H) 37 [ed F,ed H] [] ed oN:=Wf 0 Tryz.f37 λh=>by unfold FR at h;exact Wg (.y 15 15 (.k (λv2=>⟨[(5,yi v2)],[]⟩))) h
instance CP {F:r9}{H:Int}:CK (AL F H) 43 [.ref 0 0,ed H] [.box (r9.av F)] (λr=>.d (D.i r.1)) (λr=>[.box (r9.av r.2)]):=Wf 0 Tryz.f43 λh=>by unfold AL at h;exact Wg .z h
instance {F:Int}:CK (G3 F) 78 [ed F] [] ed oN:=Wf 0 Tryz.f78 λh=>by unfold G3 at h;exact Wg .z h
instance JQ {F:r9}:CK (Bz F) 27 [.ref 0 0] [.box (r9.av F)] (λr=>.d (fI.fv r.1)) (λr=>[.box (r9.av r.2)]):=Wf 0 Tryz.f27 λh=>by unfold Bz at h;exact Wg (.v λ_=>.v λ_=>.v λ(v1:fI)=>.v λ_=>.v λv2=>.g (.y 33 34 (.a (.b (.k (λH=>⟨[(2,yr 3 0),(3,yr 4 0)],[(0,yB (r9.av v2)),(3,yB fI.zv),(4,yB [AV.d (D.b v1.Addr.V6),AV.d (D.u64 v1.Addr.Hi),AV.d (D.u64 v1.Addr.Lo),yi H])]⟩)) (.a (.b (.k (λJ=>⟨[(0,yr 0 0),(2,yr 3 0),(3,yr 4 0)],[(0,yB (r9.av v2)),(3,yB fI.zv),(4,yB [AV.d (D.b v1.Addr.V6),AV.d (D.u64 v1.Addr.Hi),AV.d (D.u64 v1.Addr.Lo),yi J])]⟩)) .z) (u2 λK M=>⟨[(2,yr 3 0),(3,yr 4 0)],[(0,yB (r9.av K)),(3,yB fI.zv),(4,yB (fI.av M))]⟩))) (u2 λP Q=>⟨[(2,yr 3 0),(3,yr 4 0)],[(0,yB (r9.av P)),(3,yB fI.zv),(4,yB (fI.av Q))]⟩)))) h
instance Nk:CK (EJ) 46 [] [] ed oN:=Wf 0 Tryz.f46 λh=>by unfold EJ at h;exact Wg .z h
instance X6 {F:Int}{H:C}:CK (FS F H) 87 [ed F,ed H] [] ed oN:=Wf 0 Tryz.f87 λh=>by unfold FS at h;exact Wg .z h
instance K1 {M:r9}:CK (Bh M) 164 [.ref 0 0] [.box (r9.av M)] (λr=>.d (D.l 2 qv.fv r.1)) (λr=>[.box (r9.av r.2)]):=Wf 0 Tryz.f164 λh=>by unfold Bh at h;exact Wg (.v λv1=>.v λ_=>.y 48 49 (.a (.o 17 125 2 qv.fv (λP=>u2 λQ K=>⟨[(0,yr 0 0),(4,yO 5 qv.fv K),(5,yi v1),(19,yO 17 qv.fv ([(⟨0,99⟩:qv),(⟨0,101⟩:qv),(⟨0,102⟩:qv),(⟨99,101⟩:qv),(⟨99,103⟩:qv),(⟨500,1⟩:qv),(⟨65535,666⟩:qv),(⟨65535,65282⟩:qv)]:I qv)),(20,yi (([(⟨0,99⟩:qv),(⟨0,101⟩:qv),(⟨0,102⟩:qv),(⟨99,101⟩:qv),(⟨99,103⟩:qv),(⟨500,1⟩:qv),(⟨65535,666⟩:qv),(⟨65535,65282⟩:qv)]:I qv).length:Int)),(21,yi (P:Int))],[(0,yB (r9.av Q)),(5,yR 125 2 qv.fv K),(17,yR 125 2 qv.fv ([(⟨0,99⟩:qv),(⟨0,101⟩:qv),(⟨0,102⟩:qv),(⟨99,101⟩:qv),(⟨99,103⟩:qv),(⟨500,1⟩:qv),(⟨65535,666⟩:qv),(⟨65535,65282⟩:qv)]:I qv))]⟩) (u2 λQ K P V=>.g (.d (u2 λF H=>⟨[(7,yr 8 0),(41,yb F)],[(0,yB (r9.av H)),(8,yB (qv.av V))]⟩) (u2 λF H=>.k (λJ=>⟨[(4,yO 5 qv.fv J),(7,X),(41,X)],[(5,yR 125 2 qv.fv J),(8,N)]⟩))))) (u2 λv2 U=>⟨[(4,yO 5 qv.fv U)],[(0,yB (r9.av v2)),(5,yR 125 2 qv.fv U)]⟩))) h
instance PW {H:r9}:CK (DI H) 165 [.ref 0 0] [.box (r9.av H)] (λr=>.d (D.l 3 oB.fv r.1)) (λr=>[.box (r9.av r.2)]):=Wf 0 Tryz.f165 λh=>by unfold DI at h;exact Wg (.v λv1=>.v λv2=>.y 38 39 (.a (.o 16 127 3 oB.fv (λJ F=>⟨[(4,yO 5 oB.fv F),(5,yi v1),(18,yO 16 oB.fv ([(⟨5,5,5⟩:oB),(⟨99,0,0⟩:oB),(⟨99,0,103⟩:oB),(⟨99,1,102⟩:oB),(⟨99,101,0⟩:oB),(⟨99,102,104⟩:oB),(⟨99,103,101⟩:oB)]:I oB)),(19,yi (([(⟨5,5,5⟩:oB),(⟨99,0,0⟩:oB),(⟨99,0,103⟩:oB),(⟨99,1,102⟩:oB),(⟨99,101,0⟩:oB),(⟨99,102,104⟩:oB),(⟨99,103,101⟩:oB)]:I oB).length:Int)),(20,yi (J:Int))],[(0,yB (r9.av v2)),(5,yR 127 3 oB.fv F),(16,yR 127 3 oB.fv ([(⟨5,5,5⟩:oB),(⟨99,0,0⟩:oB),(⟨99,0,103⟩:oB),(⟨99,1,102⟩:oB),(⟨99,101,0⟩:oB),(⟨99,102,104⟩:oB),(⟨99,103,101⟩:oB)]:I oB))]⟩) (λF J P=>.g (.k (λK=>⟨[(4,yO 5 oB.fv K)],[(5,yR 127 3 oB.fv K)]⟩)))) (λM=>⟨[(4,yO 5 oB.fv M)],[(0,yB (r9.av v2)),(5,yR 127 3 oB.fv M)]⟩))) h
instance {a0:r9} {a1:Int} {Q:C}:CK (DO a0 a1 Q) 88 [.ref 0 0,ed a1,ed Q] [.box (r9.av a0)] (λr=>.d (gE.fv r.1)) (λr=>[.box (r9.av r.2)]):=Wf 0 Tryz.f88 λh=>by
 refine⟨rfl,?_⟩;unfold DO at h;(conv=>whnf);refine Ah h (λ_=>Nk.ok) λv1 h=>?_;refine Ah h (λ_=>CP.ok) ?_;rintro⟨v2,_⟩ h;refine Ah h (λ_=>CP.ok) ?_;rintro⟨_,_⟩ h;refine Ap h (λ(v3,P)=>⟨yr 0 0::yi a1::yb Q::X::X::X::yr 7 0::yr 8 0::yO 16 D.i P::dd 117 ([]),yB (r9.av v3)::nn 6 (yB gE.zv::yB [yi v2,AV.d (D.l 2 oF.fv v1.Path),AV.d (D.b v1.Next.V6),AV.d (D.u64 v1.Next.Hi),AV.d (D.u64 v1.Next.Lo),AV.d (D.i v1.wo),AV.d (D.i v1.th),AV.d (D.i v1.vS),AV.d (D.l 2 qv.fv v1.cW),AV.d (D.l 3 oB.fv v1.oB),AV.d (D.l 3 gH.fv v1.iX)]::nn 7 (yR 3 1 D.i P::nn 110 ([])))⟩) ?_ ?_
 ·intro _ h;exact Wg (.y 126 127 (.w0 (u3 λv5 v6 v7=>⟨[(0,yr 0 0),(1,yi a1),(2,yb Q),(6,yr 7 0),(7,yr 8 0),(8,yO 16 D.i v7),(9,yi v5)],[(0,yB (r9.av v6)),(7,yB gE.zv),(8,yB [yi v2,AV.d (D.l 2 oF.fv v1.Path),AV.d (D.b v1.Next.V6),AV.d (D.u64 v1.Next.Hi),AV.d (D.u64 v1.Next.Lo),AV.d (D.i v1.wo),AV.d (D.i v1.th),AV.d (D.i v1.vS),AV.d (D.l 2 qv.fv v1.cW),AV.d (D.l 3 oB.fv v1.oB),AV.d (D.l 3 gH.fv v1.iX)]),(16,yR 3 1 D.i v7)]⟩))) h
 rintro⟨v3,P⟩ h;(conv=>whnf);refine .inr (.inl ?_);refine Ah h (λ_=>X6.ok) λF h=>?_;refine Ah h (λ_=>CP.ok) ?_;rintro⟨_,_⟩ h;refine Ap h (λ(U,H)=>⟨yr 0 0::X::yb Q::X::X::X::yr 7 0::yr 8 0::dd 118 ([]),yB (r9.av U)::nn 6 (yB gE.zv::yB [yi v2,AV.own 34 1,AV.d (D.b F.V6),AV.d (D.u64 F.Hi),AV.d (D.u64 F.Lo),yi H,AV.d (D.i v1.th),AV.d (D.i v1.vS),AV.d (D.l 2 qv.fv v1.cW),AV.d (D.l 3 oB.fv v1.oB),AV.d (D.l 3 gH.fv v1.iX)]::nn 7 (yR 3 1 D.i P::nn 17 (yB [yb false,yO 16 D.i P]::nn 92 ([]))))⟩) ?_ ?_
 ·intro _ h;exact Wg .z h
 rintro⟨U,H⟩ h;refine Ah h (λ_=>CP.ok) ?_;rintro⟨_,_⟩ h;refine Ap h (λ(V,J)=>⟨yr 0 0::X::yb Q::X::X::X::yr 7 0::yr 8 0::dd 118 ([]),yB (r9.av V)::nn 6 (yB gE.zv::yB [yi v2,AV.own 34 1,AV.d (D.b F.V6),AV.d (D.u64 F.Hi),AV.d (D.u64 F.Lo),yi H,yi J,AV.d (D.i v1.vS),AV.d (D.l 2 qv.fv v1.cW),AV.d (D.l 3 oB.fv v1.oB),AV.d (D.l 3 gH.fv v1.iX)]::nn 7 (yR 3 1 D.i P::nn 17 (yB [yb false,yO 16 D.i P]::nn 92 ([]))))⟩) ?_ ?_
 ·intro _ h;exact Wg .z h
 rintro⟨V,J⟩ h;refine Ah h (λ_=>K1.ok) ?_;rintro⟨K,_⟩ h;refine Ah h (λ_=>PW.ok) ?_;rintro⟨M,_⟩ h;refine Ah h (λ_=>CP.ok) ?_;rintro⟨_,_⟩ h;refine vX ?_;refine Ap h (λ(Y,Z,a6,a7,a8,aa,ab)=>⟨dd 6 (yr 7 0::yr 8 0::dd 118 ([])),yB (r9.av Y)::nn 6 (yB gE.zv::yB [yi v2,y3 Z,yb a6,yu a7,yu a8,yi H,yi J,yi aa,y4 K,y5 M,y6 ab]::nn 118 ([]))⟩) ?_ ?_
 ·intro _ h;refine CN h ?_ ?_<;>intro h
  ·exact Wg .z h
  refine Ap h (λ(ae,af,ag,ah,ai,aj)=>⟨dd 6 (yr 7 0::yr 8 0::dd 118 ([])),yB (r9.av ae)::nn 6 (yB gE.zv::yB [yi v2,y3 af,yb ag,yu ah,yu ai,yi H,yi J,AV.d (D.i v1.vS),y4 K,y5 M,y6 aj]::nn 118 ([]))⟩) ?_ ?_
  ·intro _ h;refine CN h ?_ ?_<;>intro h
   ·exact Wg .z h
   refine Ap h (λ(ak,al,an,ao,ap,aq)=>⟨dd 6 (yr 7 0::yr 8 0::dd 118 ([])),yB (r9.av ak)::nn 6 (yB gE.zv::yB [yi v2,y3 al,yb an,yu ao,yu ap,yi H,yi J,AV.d (D.i v1.vS),y4 K,y5 M,y6 aq]::nn 118 ([]))⟩) ?_ ?_
   ·intro _ h;refine CN h ?_ ?_<;>intro h
    ·(conv=>whnf);refine .inl ?_;refine⟨rfl,?_⟩;refine⟨rfl,?_⟩;refine⟨by simp,?_⟩;exact Wg .z h
    exact Wg (.y 126 127 (.a (.b .z (.a (.b .z (.a (.b .z (.a (.b .z (.a (.b (.r .z) .z) (u2 λar au=>⟨[(6,yr 7 0),(7,yr 8 0)],[(0,yB (r9.av ar)),(7,yB gE.zv),(8,yB [yi v2,AV.own 34 1,AV.d (D.b F.V6),AV.d (D.u64 F.Hi),AV.d (D.u64 F.Lo),yi H,yi J,AV.d (D.i v1.vS),y4 K,y5 M,y6 au]),(16,yR 3 1 D.i P),(34,yB [yb false,yO 16 D.i P])]⟩))) (u3 λax ay az=>⟨[(6,yr 7 0),(7,yr 8 0)],[(0,yB (r9.av ax)),(7,yB gE.zv),(8,yB [yi v2,y3 ay,AV.d (D.b F.V6),AV.d (D.u64 F.Hi),AV.d (D.u64 F.Lo),yi H,yi J,AV.d (D.i v1.vS),y4 K,y5 M,y6 az])]⟩))) (u3 λb0 ba bb=>⟨[(6,yr 7 0),(7,yr 8 0)],[(0,yB (r9.av b0)),(7,yB gE.zv),(8,yB [yi v2,y3 ba,AV.d (D.b F.V6),AV.d (D.u64 F.Hi),AV.d (D.u64 F.Lo),yi H,yi J,AV.d (D.i v1.vS),y4 K,y5 M,y6 bb])]⟩))) (u6 λbc bd be bf bg bh=>⟨[(6,yr 7 0),(7,yr 8 0)],[(0,yB (r9.av bc)),(7,yB gE.zv),(8,yB [yi v2,y3 bd,yb be,yu bf,yu bg,yi H,yi J,AV.d (D.i v1.vS),y4 K,y5 M,y6 bh])]⟩))) (u6 λbi bj bk bl bm bn=>⟨[(6,yr 7 0),(7,yr 8 0)],[(0,yB (r9.av bi)),(7,yB gE.zv),(8,yB [yi v2,y3 bj,yb bk,yu bl,yu bm,yi H,yi J,AV.d (D.i v1.vS),y4 K,y5 M,y6 bn])]⟩))) h
   rintro⟨ak,al,an,ao,ap,aq⟩ h;exact vu h
  rintro⟨ae,af,ag,ah,ai,aj⟩ h;exact vu h
 rintro⟨Y,Z,a6,a7,a8,aa,ab⟩ h;exact fin h
instance {F:r9} {H:Int}:CK (DL F H) 47 [.ref 0 0,ed H] [.box (r9.av F)] (λr=>.d (oA.fv r.1)) (λr=>[.box (r9.av r.2)]):=Wf 0 Tryz.f47 λh=>by unfold DL at h;exact Wg .z h
instance Gk {a0:r9}{a1:Int}:CK (Bf a0 a1) 14 [.ref 0 0,ed a1] [.box (r9.av a0)] (λr=>.d (tT.fv r.1)) (λr=>[.box (r9.av r.2)]):=Wf 0 Tryz.f14 λh=>by
 refine⟨rfl,?_⟩;unfold Bf at h;(conv=>whnf);refine Ah h (λ_=>Nk.ok) λv1 h=>?_;refine Ah h (λ_=>CP.ok) ?_;rintro⟨_,_⟩ h;refine Ap h (λ(v2,H)=>⟨yr 0 0::yi a1::X::X::yr 5 0::yr 6 0::dd 60 ([]),yB (r9.av v2)::nn 4 (yB tT.zv::yB [yO 29 fI.fv H,AV.d (D.i v1.gO),AV.d (D.l 2 oF.fv v1.Path),AV.d (D.b v1.Next.V6),AV.d (D.u64 v1.Next.Hi),AV.d (D.u64 v1.Next.Lo),AV.d (D.i v1.wo),AV.d (D.i v1.th),AV.d (D.i v1.vS),AV.d (D.l 2 qv.fv v1.cW),AV.d (D.l 3 oB.fv v1.oB),AV.d (D.l 3 gH.fv v1.iX),AV.d (D.nil 4)]::nn 22 (yR 67 4 fI.fv H::nn 37 ([])))⟩) ?_ ?_
 ·intro _ h;exact Wg (.y 66 67 (.w (u3 λv4 v5 v6=>⟨[(0,yr 0 0),(1,yi a1),(4,yr 5 0),(5,yr 6 0),(6,yi v4)],[(0,yB (r9.av v5)),(5,yB tT.zv),(6,yB [yO 29 fI.fv v6,AV.d (D.i v1.gO),AV.d (D.l 2 oF.fv v1.Path),AV.d (D.b v1.Next.V6),AV.d (D.u64 v1.Next.Hi),AV.d (D.u64 v1.Next.Lo),AV.d (D.i v1.wo),AV.d (D.i v1.th),AV.d (D.i v1.vS),AV.d (D.l 2 qv.fv v1.cW),AV.d (D.l 3 oB.fv v1.oB),AV.d (D.l 3 gH.fv v1.iX),AV.d (D.nil 4)]),(29,yR 67 4 fI.fv v6)]⟩) (u3 λv4 v5 v6=>.k (u2 λv8 v9=>⟨[(20,yb v8)],[(0,yB (r9.av v9))]⟩)))) h
 rintro⟨v2,H⟩ h;refine Ah h (λ_=>CP.ok) ?_;rintro⟨_,_⟩ h;refine Ap h (λ(M,P,Q,U,V,Y,Z,a6,a7,a8,aa,ab,J)=>⟨dd 4 (yr 5 0::yr 6 0::dd 60 ([])),yB (r9.av M)::nn 4 (yB tT.zv::yB [yO 29 fI.fv H,yi P,y3 Q,yb U,yu V,yu Y,yi Z,yi a6,yi a7,y4 a8,y5 aa,y6 ab,yO 42 fI.fv J]::nn 22 (yR 67 4 fI.fv H::nn 12 (yR 67 4 fI.fv J::nn 24 ([]))))⟩) ?_ ?_
 ·intro _ h;exact Wg (.b (.v λ(F:oA)=>.v λ_=>.y 66 67 (.a (.w (u3 λae af K=>⟨[(0,yr 0 0),(4,yr 5 0),(5,yr 6 0),(7,yr 8 0),(8,yi ae)],[(0,yB (r9.av af)),(5,yB tT.zv),(6,yB [yO 29 fI.fv H,AV.d (D.i F.gE.gO),AV.d (D.l 2 oF.fv F.gE.Path),AV.d (D.b F.gE.Next.V6),AV.d (D.u64 F.gE.Next.Hi),AV.d (D.u64 F.gE.Next.Lo),AV.d (D.i F.gE.wo),AV.d (D.i F.gE.th),AV.d (D.i F.gE.vS),AV.d (D.l 2 qv.fv F.gE.cW),AV.d (D.l 3 oB.fv F.gE.oB),AV.d (D.l 3 gH.fv F.gE.iX),yO 42 fI.fv K]),(8,yB (oA.av F)),(29,yR 67 4 fI.fv H),(42,yR 67 4 fI.fv K)]⟩) (u3 λae af K=>.b (.v λ_=>.v λai=>.k (λag=>⟨[],[(0,yB (r9.av ai)),(6,yB [yO 29 fI.fv H,AV.d (D.i F.gE.gO),AV.d (D.l 2 oF.fv F.gE.Path),AV.d (D.b F.gE.Next.V6),AV.d (D.u64 F.gE.Next.Hi),AV.d (D.u64 F.gE.Next.Lo),AV.d (D.i F.gE.wo),AV.d (D.i F.gE.th),AV.d (D.i F.gE.vS),AV.d (D.l 2 qv.fv F.gE.cW),AV.d (D.l 3 oB.fv F.gE.oB),AV.d (D.l 3 gH.fv F.gE.iX),yO 42 fI.fv ag]),(42,yR 67 4 fI.fv ag)]⟩)) .z)) (u2 λaj ah=>⟨[(4,yr 5 0),(5,yr 6 0)],[(0,yB (r9.av aj)),(5,yB tT.zv),(6,yB [yO 29 fI.fv H,AV.d (D.i F.gE.gO),AV.d (D.l 2 oF.fv F.gE.Path),AV.d (D.b F.gE.Next.V6),AV.d (D.u64 F.gE.Next.Hi),AV.d (D.u64 F.gE.Next.Lo),AV.d (D.i F.gE.wo),AV.d (D.i F.gE.th),AV.d (D.i F.gE.vS),AV.d (D.l 2 qv.fv F.gE.cW),AV.d (D.l 3 oB.fv F.gE.oB),AV.d (D.l 3 gH.fv F.gE.iX),yO 42 fI.fv ah]),(29,yR 67 4 fI.fv H),(42,yR 67 4 fI.fv ah)]⟩))) .z) h
 rintro⟨M,P,Q,U,V,Y,Z,a6,a7,a8,aa,ab,J⟩ h;exact Wg .z h
instance {F:Addr} {H:Addr}:CK (LZ F H) 116 [ed F,ed H] [] ed oN:=Wf 0 Tryz.f116 λh=>by unfold LZ at h;exact Wg (.b .z (.b .z (.y 37 37 (.k (λv1=>⟨[(17,yb v1)],[]⟩))))) h
instance {F:fI} {H:fI}:CK (EC F H) 61 [ed F,ed H] [] ed oN:=Wf 0 Tryz.f61 λh=>by unfold EC at h;exact Wg .z h
instance {F:ls}:CK (F7 F) 62 [ed F] [] e2 oN:=Wf 0 Tryz.f62 λh=>by unfold F7 at h;exact Wg (.y 27 27 (.a (.f 9 18 gD.fv (λJ=>u2 λK M=>⟨[(4,yi K),(5,yi M),(9,AV.d (D.l 18 gD.fv F.gD)),(10,yi (F.gD.length:Int)),(11,yi (J:Int))],[]⟩) (u2 λK M J Q=>.g (.k (u2 λP H=>⟨[(4,yi P),(5,yi H)],[]⟩)))) (u2 λv1 v2=>⟨[(4,yi v1),(5,yi v2)],[]⟩))) h
instance {F:Int}:CK (Jk F) 112 [ed F] [] ed oN:=Wf 0 Tryz.f112 λh=>by unfold Jk at h;exact Wg (.y 9 9 (.k (λv1=>⟨[(2,yb v1)],[]⟩))) h
instance Na {F:Addr}:CK (CX F) 117 [ed F] [] ed oN:=Wf 0 Tryz.f117 λh=>by unfold CX at h;exact Wg (.y 15 15 (.k (λv1=>⟨[(2,yb v1)],[]⟩))) h
instance {F:lf}:CK (EH F) 65 [ed F] [] ed oN:=Wf 0 Tryz.f65 λh=>by unfold EH at h;exact Wg (.y 45 45 (.c (.f0 6 3 Addr.fv (λH _=>⟨[(1,yr 1 0),(6,AV.d (D.l 3 Addr.fv F.oT)),(7,yi (F.oT.length:Int)),(8,yi (H:Int))],[(1,yB (lf.av F))]⟩)) (λ_=>⟨[(1,yr 1 0)],[(1,yB (lf.av F))]⟩) λ_=>.k (λJ=>⟨[(1,X),(2,yb J)],[(1,N)]⟩))) h
instance NM {F:Addr}:CK (Bq F) 130 [ed F] [] (λr=>AV.own 0 (Xa1 D.u8 r).length) (λr=>[.row 5 1 (Xa1 D.u8 r) .no]):=Wf 0 Tryz.f130 λh=>by
 refine⟨rfl,?_⟩;unfold Bq at h;(conv=>whnf);refine Ah h (λ_=>Na.ok) λ_ h=>?_;refine vX ?_;refine CN h ?_ ?_<;>intro h
 ·(conv=>whnf);refine .inr ⟨X29 rfl,5,?_⟩;exact fin h
 refine Ap h (λv1=>⟨X::yr 1 0::X::yi v1::dd 31 ([]),N::yB (Addr.av F)::nn 33 ([])⟩) ?_ ?_
 ·intro _ h;exact Wg .z h
 rintro v1 h;refine⟨_,rfl,?_⟩;refine Ap h (λv2=>⟨dd 4 (yO 4 D.u8 v2::dd 30 ([])),nn 4 (yR 5 1 D.u8 v2::nn 30 ([]))⟩) ?_ ?_
 ·intro _ h;revert h;refine F9 (λ(J,H)=>⟨X::yr 1 0::X::X::yO 4 D.u8 H::yi J::dd 29 ([]),N::yB (Addr.av F)::N::N::yR 5 1 D.u8 H::nn 30 ([])⟩) ?_ ?_
  ·exact wk
  rintro _ ⟨J,H⟩ _ h M;refine vX ?_;refine G9 h λh=>?_;refine vX ?_;refine Ap h (λK=>⟨X::yr 1 0::X::X::yO 4 D.u8 H::yi J::yu K::dd 28 ([]),N::yB (Addr.av F)::N::N::yR 5 1 D.u8 H::nn 30 ([])⟩) ?_ ?_
  ·intro _ h;exact Wg .z h
  rintro K h;refine⟨by decide,_,rfl,?_⟩;refine⟨_,LW _,?_⟩;refine⟨_,LW _,?_⟩;refine⟨Xc4 _,_,eQ K _,?_⟩;exact Wg .z h
 rintro v2 h;exact Wg (.l (.r .z)) h
instance {F:Addr}:CK (C6 F) 185 [ed F] [] ed oN:=Wf 0 Tryz.f185 λh=>by unfold C6 at h;exact Wg .z h
instance {F:I S}:CK (CE F) 186 [ed F] [] e2 oN:=Wf 0 Tryz.f186 λh=>by unfold CE at h;exact Wg (.y 43 43 (.d (λv1=>⟨[(0,Ma F),(2,yr 2 0),(14,yb v1)],[(2,yB Addr.zv)]⟩) λv1=>.b .z (.a (.f0 20 1 D.u8 (λH J=>⟨[(0,X),(4,yr 4 0),(14,X),(20,Ma F),(21,yi (F.length:Int)),(22,yi (H:Int))],[(4,yB (Addr.av J))]⟩)) (λv2=>⟨[(0,X),(4,yr 4 0),(14,X)],[(4,yB (Addr.av v2))]⟩)))) h
instance {J:Addr} {F:Int}:CK (D1 J F) 118 [ed J,ed F] [] e2 oN:=Wf 0 Tryz.f118 λh=>by
 refine⟨rfl,?_⟩;unfold D1 at h;(conv=>whnf);refine .go ?_;refine Ah h (λ_=>Na.ok) λ_ h=>?_;refine vX ?_;refine CN h ?_ ?_<;>intro h
 ·exact fin h
 refine Ap h (λv1=>⟨X::yi F::yr 2 0::X::yr 4 0::dd 10 (yb v1::dd 38 ([])),N::N::yB (Addr.av J)::N::yB fI.zv::nn 49 ([])⟩) ?_ ?_
 ·intro _ h;exact Wg .z h
 rintro v1 h;refine vX ?_;refine CN h ?_ ?_<;>intro h
 ·exact fin h
 refine NC [26] h (λ_=>NM.ok) λ_ h=>?_;refine Ap h (λv2=>⟨X::yi F::X::X::yr 4 0::X::yO 26 D.u8 v2::dd 47 ([]),nn 4 (yB fI.zv::nn 21 (yR 5 1 D.u8 v2::nn 27 ([])))⟩) ?_ ?_
 ·intro _ h;revert h;refine F9 (λ(K,H)=>⟨X::yi F::X::X::yr 4 0::X::yO 26 D.u8 H::yi K::dd 46 ([]),nn 4 (yB fI.zv::nn 21 (yR 5 1 D.u8 H::nn 27 ([])))⟩) ?_ ?_
  ·exact wk
  rintro _ ⟨K,H⟩ _ h Q;refine⟨H.length,JZ,?_⟩;refine⟨_,rfl,?_⟩;refine vX ?_;refine G9 h λh=>?_;refine vX ?_;refine⟨by decide,_,rfl,?_⟩;obtain⟨P,M,h⟩:=AY h;refine⟨rfl,MP (f:=D.u8) M,?_⟩;refine⟨rfl,D.u8 P,(Kt (f:=D.u8) M),?_⟩;refine⟨by decide,_,rfl,?_⟩;refine⟨_,LW _,?_⟩;refine⟨Xc4 _,_,kh (128:S) _,?_⟩;exact Wg .z h
 rintro v2 h;exact Wg (.m .z) h
instance {F:fI}:CK (A8 F) 66 [ed F] [] ed oN:=Wf 0 Tryz.f66 λh=>by unfold A8 at h;exact Wg (.y 20 20 (.k (λv1=>⟨[(2,yb v1)],[]⟩))) h
instance {F:Int}:CK (Bl F) 187 [ed F] [] ed oN:=Wf 0 Tryz.f187 λh=>by unfold Bl at h;exact Wg (.g (.y 15 15 (.c (.b .z (.a (.b .z (.k (λH=>⟨[(3,yi F),(4,yb H)],[]⟩))) (λv2=>⟨[(3,yi F),(4,yb v2)],[]⟩))) (λv1=>⟨[(3,yi F),(4,yb v1)],[]⟩) λv1=>.b .z (.b .z (.a (.b .z (.k (λJ=>⟨[(3,X),(4,X),(11,yb J)],[]⟩))) (λK=>⟨[(3,X),(4,X),(11,yb K)],[]⟩)))))) h
instance {F:Int}:CK (Di F) 119 [ed F] [] ed oN:=Wf 0 Tryz.f119 λh=>by unfold Di at h;exact Wg (.y 14 14 (.k (λv1=>⟨[(2,yb v1)],[]⟩))) h
instance {F:I oF}:CK (F3 F) 120 [ed F] [] ed oN:=Wf 0 Tryz.f120 λh=>by unfold F3 at h;exact Wg (.y 78 78 (.a (.f 8 2 oF.fv (λM J=>⟨[(0,y3 F),(3,yi J),(8,y3 F),(9,yi (F.length:Int)),(10,yi (M:Int))],[]⟩) (λJ M H=>.a (.d (λP=>⟨[(5,yr 5 0),(36,yb P)],[(5,yB (oF.av H))]⟩) λP=>.b .z (.a (.f 38 1 D.i (λQ _=>⟨[(36,X),(38,AV.d (D.l 1 D.i H.o3)),(39,yi (H.o3.length:Int)),(40,yi (Q:Int))],[]⟩) (λ_ Q U=>.g (.k (λK=>⟨[(68,yb K)],[]⟩)))) (λ_=>⟨[(36,X)],[]⟩))) (λ_=>⟨[(3,yi (AO (J+(H.o3.length:Int))))],[]⟩))) (λv1=>⟨[(3,yi v1)],[]⟩))) h
instance {F:qv}:CK (Fg F) 188 [ed F] [] ed oN:=Wf 0 Tryz.f188 λh=>by unfold Fg at h;exact Wg (.y 21 21 (.k (λv1=>⟨[(2,yb v1)],[]⟩))) h
instance {F:qv} {H:qv}:CK (G4 F H) 189 [ed F,ed H] [] ed oN:=Wf 0 Tryz.f189 λh=>by unfold G4 at h;exact Wg (.y 24 24 (.k (λv1=>⟨[(4,yb v1)],[]⟩))) h
instance {F:I qv}:CK (HO F) 121 [ed F] [] ed oN:=Wf 0 Tryz.f121 λh=>by unfold HO at h;exact Wg (.y 33 33 (.a (.f 5 2 qv.fv (λH _=>⟨[(0,y4 F),(5,y4 F),(6,yi (F.length:Int)),(7,yi (H:Int))],[]⟩) (λ_ H K=>.g (.k (λJ=>⟨[(28,yb J)],[]⟩)))) (λ_=>⟨[(0,y4 F)],[]⟩))) h
instance {F:oB}:CK (Ce F) 190 [ed F] [] ed oN:=Wf 0 Tryz.f190 λh=>by unfold Ce at h;exact Wg (.y 31 31 (.k (λv1=>⟨[(2,yb v1)],[]⟩))) h
instance {F:oB} {H:oB}:CK (DK F H) 191 [ed F,ed H] [] ed oN:=Wf 0 Tryz.f191 λh=>by unfold DK at h;exact Wg (.y 38 38 (.k (λv1=>⟨[(4,yb v1)],[]⟩))) h
instance {F:I oB}:CK (Ds F) 122 [ed F] [] ed oN:=Wf 0 Tryz.f122 λh=>by unfold Ds at h;exact Wg (.y 33 33 (.a (.f 5 3 oB.fv (λH _=>⟨[(0,y5 F),(5,y5 F),(6,yi (F.length:Int)),(7,yi (H:Int))],[]⟩) (λ_ H K=>.g (.k (λJ=>⟨[(28,yb J)],[]⟩)))) (λ_=>⟨[(0,y5 F)],[]⟩))) h
instance VT {F:gE}:CK (EK F) 67 [ed F] [] ed oN:=Wf 0 Tryz.f67 λh=>by unfold EK at h;exact Wg (.y 124 124 (.c (.f 6 3 gH.fv (λH _=>⟨[(1,yr 1 0),(6,AV.d (D.l 3 gH.fv F.iX)),(7,yi (F.iX.length:Int)),(8,yi (H:Int))],[(1,yB (gE.av F))]⟩) (λ_ H M=>.g (.k (λJ=>⟨[(53,yb J)],[]⟩)))) (λ_=>⟨[(1,yr 1 0)],[(1,yB (gE.av F))]⟩) λ_=>.k (λK=>⟨[(1,X),(2,yb K)],[(1,N)]⟩))) h
instance J8 {F:ls}:CK (Da F) 18 [ed F] [] ed oN:=Wf 0 Tryz.f18 λh=>by unfold Da at h;exact Wg (.y 126 126 (.d (λv1=>⟨[(1,yr 1 0),(27,yb v1)],[(1,yB (ls.av F))]⟩) λv1=>.b .z (.c (.f 29 18 gD.fv (λJ K=>⟨[(3,yb K),(27,X),(29,AV.d (D.l 18 gD.fv F.gD)),(30,yi (F.gD.length:Int)),(31,yi (J:Int))],[]⟩) (λK J P=>.g (.d (λM=>⟨[(5,yr 5 0),(95,yb M)],[(5,yB (gD.av P))]⟩) λM=>.b .z (.k (λQ=>⟨[(3,yb Q),(5,X),(95,X)],[(5,N)]⟩))))) (λv2=>⟨[(3,yb v2),(27,X)],[]⟩) λv2=>.k (λH=>⟨[(1,X),(2,yb H),(3,X)],[(1,N)]⟩)))) h
instance {F:I oF} {H:I oF}:CK (FH F H) 123 [ed F,ed H] [] ed oN:=Wf 0 Tryz.f123 λh=>by unfold FH at h;exact Wg (.b .z (.y 61 61 (.a (.f 14 2 oF.fv (λJ _=>⟨[(1,y3 H),(14,y3 F),(15,yi (F.length:Int)),(16,yi (J:Int))],[]⟩) (λ_ J K=>.a (.d (λM=>⟨[(5,yi (J:Int)),(6,yr 6 0),(40,yb M)],[(6,yB (oF.av K))]⟩) λM=>.b .z (.a (.f0 42 1 D.i (λP _=>⟨[(6,X),(40,X),(42,AV.d (D.l 1 D.i K.o3)),(43,yi (K.o3.length:Int)),(44,yi (P:Int))],[(6,N)]⟩)) (λ_=>⟨[(5,X),(6,X),(40,X)],[(6,N)]⟩))) (λ_=>⟨[],[]⟩))) (λ_=>⟨[],[]⟩)))) h
instance {F:I qv} {H:I qv}:CK (FM F H) 124 [ed F,ed H] [] ed oN:=Wf 0 Tryz.f124 λh=>by unfold FM at h;exact Wg (.b .z (.y 26 26 (.a (.f0 12 2 qv.fv (λJ _=>⟨[(1,y4 H),(12,y4 F),(13,yi (F.length:Int)),(14,yi (J:Int))],[]⟩)) (λ_=>⟨[],[]⟩)))) h
instance {F:I oB} {H:I oB}:CK (CC F H) 125 [ed F,ed H] [] ed oN:=Wf 0 Tryz.f125 λh=>by unfold CC at h;exact Wg (.b .z (.y 26 26 (.a (.f0 12 3 oB.fv (λJ _=>⟨[(1,y5 H),(12,y5 F),(13,yi (F.length:Int)),(14,yi (J:Int))],[]⟩)) (λ_=>⟨[],[]⟩)))) h
instance {F:I gH} {H:I gH}:CK (CS F H) 126 [ed F,ed H] [] ed oN:=Wf 0 Tryz.f126 λh=>by
 refine⟨rfl,?_⟩;unfold CS at h;refine⟨F.length,X10 _,?_⟩;refine⟨H.length,X10 _,?_⟩;refine vX ?_;refine CN h ?_ ?_<;>intro h
 ·exact fin h
 refine⟨F.length,X10 _,?_⟩;refine Ap h (λ_=>⟨dd 50 ([]),nn 50 ([])⟩) ?_ ?_
 ·intro _ h;revert h;refine Bi 12 3 gH.fv rfl (λJ _=>⟨X::y6 H::dd 10 (y6 F::yi (F.length:Int)::yi (J:Int)::dd 35 ([])),nn 50 ([])⟩) ?_ ?_ ?_
  ·exact wk
  ·rintro _ P h;exact Wg (.e .z) h
  rintro _ J K _ P b1 c1 e1 h U;refine vX ?_;refine Ea (IC b1) ?_;refine vX ?_;refine⟨D6 (f:=gH.fv) b1,gH.fv K,c1,rfl,?_⟩;refine Ap h (λM=>⟨X::y6 H::dd 10 (y6 F::yi (F.length:Int)::yi (J:Int)::dd 33 (yb M::X::[])),nn 50 ([])⟩) ?_ ?_
  ·intro _ h;refine .inl (dO ?_);(conv=>whnf);refine QD h (λ_=>rfl) λ_ h=>?_;refine CN h ?_ ?_<;>intro h
   ·exact Wg .z h
   (conv=>whnf);refine QD h (λ_=>rfl) λ_ h=>?_;refine CN h ?_ ?_<;>intro h
   ·exact Wg .z h
   refine⟨K.Data,rfl,?_⟩;(conv=>whnf);refine QD h (λ_=>rfl) λQ h=>?_;refine⟨Q.Data,rfl,?_⟩;exact Wg .z h
  rintro M h;exact Wg .z h
 rintro _ h;exact fin h
instance {F:gE} {H:gE}:CK (Dv F H) 68 [ed F,ed H] [] ed oN:=Wf 0 Tryz.f68 λh=>by unfold Dv at h;exact Wg (.y 66 66 (.k (λv1=>⟨[(4,yb v1)],[]⟩))) h
instance {F:Int} {H:Int}:CK (AQ F H) 192 [ed F,ed H] [] ed oN:=Wf 0 Tryz.f192 λh=>by unfold AQ at h;exact Wg (.y 23 23 (.a (.w0 (u2 λv2 J=>⟨[(0,yi F),(5,yO 5 D.u8 J),(6,yi v2)],[(5,yR 5 1 D.u8 J)]⟩)) (λv1=>⟨[(5,yO 5 D.u8 v1)],[(5,yR 5 1 D.u8 v1)]⟩))) h
instance {F:gE}:CK (Ha F) 127 [ed F] [] e2 oN:=Wf 0 Tryz.f127 λh=>by
 refine⟨rfl,?_⟩;unfold Ha at h;(conv=>whnf);refine Ah h (λ_=>VT.ok) λ_ h=>?_;refine vX ?_;refine CN h ?_ ?_<;>intro h
 ·exact fin h
 refine Ap h (λv1=>⟨DS,N::yB (gE.av F)::N::N::some (OB.row 96 3 (Xa1 gH.fv []) .no)::nn 19 (some (OB.map 3 94 (Am D.i (D.l 1 D.u8) v1))::nn 170 ([]))⟩) ?_ ?_
 ·intro _ h;refine G9 h λh=>?_;refine⟨_,UF _,?_⟩;(conv=>whnf);refine .inl ?_;refine⟨rfl,?_⟩;refine⟨_,IV (ek:=D.i) (ev:=(D.l 1 D.u8)) (l:=[]) (k:=1) (v:=([(A4 F.gO)]:I S)) Je,?_⟩;exact vu h
 rintro v1 h;refine Ap h (λv2=>⟨X::yr 1 0::X::X::AV.own 4 (Xa1 gH.fv []).length::AV.mp 24::dd 35 (yb v2::dd 153 ([])),N::yB (gE.av F)::N::N::some (OB.row 96 3 (Xa1 gH.fv []) .no)::nn 19 (some (OB.map 3 94 (Am D.i (D.l 1 D.u8) v1))::nn 170 ([]))⟩) ?_ ?_
 ·intro _ h;exact Wg .z h
 rintro v2 h;refine Ap h (λv3=>⟨DS,N::yB (gE.av F)::N::N::some (OB.row 96 3 (Xa1 gH.fv []) .no)::nn 19 (some (OB.map 3 94 (Am D.i (D.l 1 D.u8) v3))::nn 170 ([]))⟩) ?_ ?_
 ·intro _ h;exact Wg (.b (.y 195 195 (.a (.f 44 2 oF.fv (λi5 v6=>⟨[(1,yr 1 0),(4,AV.own 4 (Xa1 gH.fv []).length),(5,AV.mp 24),(6,yO 42 D.u8 v6),(44,AV.d (D.l 2 oF.fv F.Path)),(45,yi (F.Path.length:Int)),(46,yi (i5:Int))],[(1,yB (gE.av F)),(4,some (OB.row 96 3 (Xa1 gH.fv []) .no)),(24,some (OB.map 3 94 (Am D.i (D.l 1 D.u8) v1))),(42,yR 5 1 D.u8 v6)]⟩) (λv6 i5 x8=>.a (.d (λa1=>⟨[(8,yr 8 0),(9,yv a1)],[(8,yB (oF.av x8))]⟩) λa1=>.a (.f0 61 1 D.i (λax a6=>⟨[(6,yO 42 D.u8 a6),(8,X),(9,X),(61,AV.d (D.l 1 D.i x8.o3)),(62,yi (x8.o3.length:Int)),(63,yi (ax:Int))],[(8,N),(42,yR 5 1 D.u8 a6)]⟩)) (λa7=>⟨[(6,yO 42 D.u8 a7),(8,X),(9,X)],[(8,N),(42,yR 5 1 D.u8 a7)]⟩)) (λa8=>⟨[(6,yO 42 D.u8 a8)],[(42,yR 5 1 D.u8 a8)]⟩))) (λv4=>⟨[(1,yr 1 0),(4,AV.own 4 (Xa1 gH.fv []).length),(5,AV.mp 24),(6,yO 42 D.u8 v4)],[(1,yB (gE.av F)),(4,some (OB.row 96 3 (Xa1 gH.fv []) .no)),(24,some (OB.map 3 94 (Am D.i (D.l 1 D.u8) v1))),(42,yR 5 1 D.u8 v4)]⟩))) .z) h
 rintro v3 h;refine Ap h (λaa=>⟨X::yr 1 0::X::X::AV.own 4 (Xa1 gH.fv []).length::AV.mp 24::dd 78 (yb aa::dd 110 ([])),N::yB (gE.av F)::N::N::some (OB.row 96 3 (Xa1 gH.fv []) .no)::nn 19 (some (OB.map 3 94 (Am D.i (D.l 1 D.u8) v3))::nn 170 ([]))⟩) ?_ ?_
 ·intro _ h;exact Wg .z h
 rintro aa h;refine Ap h (λab=>⟨DS,N::yB (gE.av F)::N::N::some (OB.row 96 3 (Xa1 gH.fv []) .no)::nn 19 (some (OB.map 3 94 (Am D.i (D.l 1 D.u8) ab))::nn 170 ([]))⟩) ?_ ?_
 ·intro _ h;exact Wg (.b (.n [88] .z) .z) h
 rintro ab h;refine Ap h (λae=>⟨DS,N::yB (gE.av F)::N::N::some (OB.row 96 3 (Xa1 gH.fv []) .no)::nn 19 (some (OB.map 3 94 (Am D.i (D.l 1 D.u8) ae))::nn 170 ([]))⟩) ?_ ?_
 ·intro _ h;exact Wg .z h
 rintro ae h;refine Ap h (λaf=>⟨DS,N::yB (gE.av F)::N::N::some (OB.row 96 3 (Xa1 gH.fv []) .no)::nn 19 (some (OB.map 3 94 (Am D.i (D.l 1 D.u8) af))::nn 170 ([]))⟩) ?_ ?_
 ·intro _ h;exact Wg .z h
 rintro af h;refine⟨F.cW.length,X10 _,?_⟩;refine Ap h (λ(ag,P)=>⟨DS,N::yB (gE.av F)::N::N::some (OB.row 96 3 (Xa1 gH.fv []) .no)::nn 19 (some (OB.vz 3 94 (Am D.i (D.l 1 D.u8) ag) (.int .i64 8) 112 (Xa1 D.u8 P).length)::nn 87 (some (OB.row 5 1 (Xa1 D.u8 P) .wS)::nn 82 ([])))⟩) ?_ ?_
 ·intro _ h;obtain⟨_,ay,h⟩:=AY h;revert h;refine Bi 104 2 qv.fv rfl (λah (H,J)=>⟨X::yr 1 0::X::X::AV.own 4 (Xa1 gH.fv []).length::AV.mp 24::dd 98 (AV.d (D.l 2 qv.fv F.cW)::yi (F.cW.length:Int)::yi (ah:Int)::dd 88 ([])),N::yB (gE.av F)::N::N::some (OB.row 96 3 (Xa1 gH.fv []) .no)::nn 19 (some (OB.vz 3 94 (Am D.i (D.l 1 D.u8) H) (.int .i64 8) 112 (Xa1 D.u8 J).length)::nn 87 (some (OB.row 5 1 (Xa1 D.u8 J) .wS)::nn 82 ([])))⟩) ?_ ?_ ?_
  ·exact (.mk rfl (Xb6 (.refl _) (Xb6 (.refl _) (Xb6 (.refl _) (Xb6 (.refl _) (Xb6 (.refl _) (Xb6 (.refl _) True.intro)))))) (Xb6 ⟨_,rfl,Xb6 ⟨rfl,.refl _⟩ (Xb6 ⟨rfl,.refl _⟩ (Xb6 ⟨rfl,.refl _⟩ (Xb6 ⟨rfl,.refl _⟩ (Xb6 ⟨rfl,.refl _⟩ (Xb6 ⟨rfl,.refl _⟩ (Xb6 ⟨rfl,.refl _⟩ (Xb6 ⟨rfl,.refl _⟩ (Xb6 ⟨rfl,.refl _⟩ (Xb6 ⟨rfl,.refl _⟩ (Xb6 ⟨rfl,.refl _⟩ (True.intro)))))))))))⟩ (Xb6 (.inl ⟨_,rfl,⟨id,trivial⟩⟩) (Xb6 (.inr ⟨.inl rfl,⟨_,TN Je ay⟩,rfl,rfl,_,_,_,rfl⟩) (Xb6 (.inr ⟨rfl,rfl,by decide⟩) (True.intro))))) rfl)
  ·rintro⟨H,J⟩ az h;exact Wg (.e .z) h
  rintro _ ah b0 ⟨H,J⟩ az ai ba bf h bg;refine vX ?_;refine Ea (IC ai) ?_;refine vX ?_;refine⟨D6 (f:=qv.fv) ai,qv.fv b0,ba,rfl,?_⟩;refine .inl (dO ?_);(conv=>whnf);refine .inr ⟨rfl,rfl,⟨_,GT (ek:=D.i) (ev:=(D.l 1 D.u8)) (l:=H) (k:=8) Je⟩,rfl,?_⟩;exact Wg (.r .z) h
 rintro⟨ag,P⟩ h;refine⟨F.oB.length,X10 _,?_⟩;refine Ap h (λ(aj,Q)=>⟨DS,N::yB (gE.av F)::N::N::some (OB.row 96 3 (Xa1 gH.fv []) .no)::nn 19 (some (OB.vz 3 94 (Am D.i (D.l 1 D.u8) aj) (.int .i64 32) 131 (Xa1 D.u8 Q).length)::nn 106 (some (OB.row 5 1 (Xa1 D.u8 Q) .wS)::nn 63 ([])))⟩) ?_ ?_
 ·intro _ h;obtain⟨_,bb,h⟩:=AY h;revert h;refine Bi 123 3 oB.fv rfl (λak (K,M)=>⟨X::yr 1 0::X::X::AV.own 4 (Xa1 gH.fv []).length::AV.mp 24::dd 117 (AV.d (D.l 3 oB.fv F.oB)::yi (F.oB.length:Int)::yi (ak:Int)::dd 69 ([])),N::yB (gE.av F)::N::N::some (OB.row 96 3 (Xa1 gH.fv []) .no)::nn 19 (some (OB.vz 3 94 (Am D.i (D.l 1 D.u8) K) (.int .i64 32) 131 (Xa1 D.u8 M).length)::nn 106 (some (OB.row 5 1 (Xa1 D.u8 M) .wS)::nn 63 ([])))⟩) ?_ ?_ ?_
  ·exact (.mk rfl (Xb6 (.refl _) (Xb6 (.refl _) (Xb6 (.refl _) (Xb6 (.refl _) (Xb6 (.refl _) (Xb6 (.refl _) True.intro)))))) (Xb6 ⟨_,rfl,Xb6 ⟨rfl,.refl _⟩ (Xb6 ⟨rfl,.refl _⟩ (Xb6 ⟨rfl,.refl _⟩ (Xb6 ⟨rfl,.refl _⟩ (Xb6 ⟨rfl,.refl _⟩ (Xb6 ⟨rfl,.refl _⟩ (Xb6 ⟨rfl,.refl _⟩ (Xb6 ⟨rfl,.refl _⟩ (Xb6 ⟨rfl,.refl _⟩ (Xb6 ⟨rfl,.refl _⟩ (Xb6 ⟨rfl,.refl _⟩ (True.intro)))))))))))⟩ (Xb6 (.inl ⟨_,rfl,⟨id,trivial⟩⟩) (Xb6 (.inr ⟨.inr ⟨_,_,_,rfl⟩,⟨_,TN Je bb⟩,rfl,rfl,_,_,_,rfl⟩) (Xb6 (.inr ⟨rfl,rfl,by decide⟩) (True.intro))))) rfl)
  ·rintro⟨K,M⟩ bc h;exact Wg (.e .z) h
  rintro _ ak bd ⟨K,M⟩ bc al be bh h bi;refine vX ?_;refine Ea (IC al) ?_;refine vX ?_;refine⟨D6 (f:=oB.fv) al,oB.fv bd,be,rfl,?_⟩;refine .inl (dO ?_);(conv=>whnf);refine .inr ⟨rfl,rfl,⟨_,GT (ek:=D.i) (ev:=(D.l 1 D.u8)) (l:=K) (k:=32) Je⟩,rfl,?_⟩;exact Wg (.r .z) h
 rintro⟨aj,Q⟩ h;exact Wg (.y 195 195 (.d (λan=>⟨[(1,yr 1 0),(4,AV.own 4 (Xa1 gH.fv []).length),(5,AV.mp 24)],[(1,yB (gE.av F)),(4,some (OB.row 96 3 (Xa1 gH.fv []) .no)),(24,some (OB.map 3 94 (Am D.i (D.l 1 D.u8) an)))]⟩) λan=>.a (.w (u2 λU V=>⟨[(4,yO 4 gH.fv V),(152,yi U)],[(4,yR 96 3 gH.fv V)]⟩) (u2 λU V=>.b (.a (.d (λY=>⟨[(4,yO 4 gH.fv Y),(16,yi U)],[(4,yR 96 3 gH.fv Y)]⟩) λY=>.a (.f 172 3 gH.fv (λao Z=>⟨[(4,yO 4 gH.fv Z),(172,AV.d (D.l 3 gH.fv F.iX)),(173,yi (F.iX.length:Int)),(174,yi (ao:Int))],[(4,yR 96 3 gH.fv Z)]⟩) (λZ ao bj=>.g (.k (λap=>⟨[(4,yO 4 gH.fv ap)],[(4,yR 96 3 gH.fv ap)]⟩)))) (λaq=>⟨[(4,yO 4 gH.fv aq),(16,X)],[(4,yR 96 3 gH.fv aq)]⟩)) (λar=>⟨[(4,yO 4 gH.fv ar)],[(4,yR 96 3 gH.fv ar)]⟩)) .z)) (λau=>⟨[(1,X),(4,yO 4 gH.fv au),(5,X)],[(1,N),(4,yR 96 3 gH.fv au),(24,N)]⟩))) h
instance {F:I fI} {H:C}:CK (E3 F H) 128 [ed F,ed H] [] ed oN:=Wf 0 Tryz.f128 λh=>by
 refine⟨rfl,?_⟩;unfold E3 at h;refine⟨F.length,X10 _,?_⟩;refine Ap h (λv1=>⟨dd 5 (yO 5 D.u8 v1::dd 30 ([])),nn 5 (yR 5 1 D.u8 v1::nn 30 ([]))⟩) ?_ ?_
 ·intro _ h;revert h;refine Bi 8 4 fI.fv rfl (λK J=>⟨X::yb H::X::X::X::yO 5 D.u8 J::X::X::y8 F::yi (F.length:Int)::yi (K:Int)::dd 25 ([]),nn 5 (yR 5 1 D.u8 J::nn 30 ([]))⟩) ?_ ?_ ?_
  ·exact wk
  ·rintro J V h;exact Wg (.e .z) h
  rintro _ K M J V b2 c2 e2 h Z;refine vX ?_;refine Ea (IC b2) ?_;refine vX ?_;refine⟨D6 (f:=fI.fv) b2,fI.fv M,c2,rfl,?_⟩;refine Ap h (λP=>⟨X::yb H::X::X::X::yO 5 D.u8 P::X::X::y8 F::yi (F.length:Int)::yi (K:Int)::dd 25 ([]),nn 5 (yR 5 1 D.u8 P::nn 30 ([]))⟩) ?_ ?_
  ·intro _ h;refine G9 h λh=>?_;refine .inl (dO ?_);refine⟨_,UF _,?_⟩;refine⟨rfl,?_⟩;refine Ev (f:=D.u8) h rfl λ_ h=>?_;refine m7 h (λ_=>NM.ok) rfl λY h=>?_;refine⟨_,rfl,?_⟩;refine⟨by decide,_,rfl,?_⟩;(conv=>whnf);refine .inr (.inl ?_);obtain⟨_,Q,h⟩:=AY h;have U:=G0 Q;refine⟨lZ (f:=D.u8) Q,rfl,(Wo 0),(Wo (AO (Int.tdiv (AO (M.vg+7)) 8))-Wo 0),rfl,rfl,?_⟩;refine⟨JZ,Xa1 D.u8 (Xbx (Wo (AO (Int.tdiv (AO (M.vg+7)) 8))-Wo 0) (Xc2 (Wo 0) Y)),Xf,?_⟩;exact Wg .z h
  rintro P h;exact Wg .z h
 rintro v1 h;exact Wg .z h
instance {F:I gH} {H:gH}:CK (HL F H) 129 [ed F,ed H] [] ed oN:=Wf 0 Tryz.f129 λh=>by unfold HL at h;exact Wg (.y 33 33 (.a (.w (λv2=>⟨[(0,y6 F),(3,yr 3 0),(5,yi v2)],[(3,yB (gH.av H))]⟩) (λv2=>.k (λJ=>⟨[(19,yb J)],[]⟩))) (λv1=>⟨[(0,y6 F),(3,yr 3 0),(5,yi v1)],[(3,yB (gH.av H))]⟩))) h
instance {F:I gH}:CK (Jy F) 131 [ed F] [] e2 oN:=Wf 0 Tryz.f131 λh=>by unfold Jy at h;exact Wg (.y 89 89 (.c (.f 10 3 gH.fv (λM _=>⟨[(0,y6 F),(10,y6 F),(11,yi (F.length:Int)),(12,yi (M:Int))],[]⟩) (λ_ M V=>.g (.k (λU=>⟨[(39,yb U)],[]⟩)))) (λ_=>⟨[(0,y6 F)],[]⟩) λ_=>.a (.f 41 3 gH.fv (λP J=>⟨[(0,X),(6,yO 6 D.u8 J),(41,y6 F),(42,yi (F.length:Int)),(43,yi (P:Int))],[(6,yR 5 1 D.u8 J)]⟩) (λJ P K=>.g (.k (λH=>⟨[(6,yO 6 D.u8 H),(8,yr 8 0)],[(6,yR 5 1 D.u8 H),(8,yB (gH.av K))]⟩)))) (λQ=>⟨[(0,X),(6,yO 6 D.u8 Q)],[(6,yR 5 1 D.u8 Q)]⟩))) h
instance {F:tT}:CK (HT F) 69 [ed F] [] e2 oN:=Wf 0 Tryz.f69 λh=>by unfold HT at h;exact Wg (.y 96 96 (.d (λv1=>⟨[(1,yr 1 0),(4,y6 v1)],[(1,yB (tT.av F))]⟩) λv1=>.c (.b (.n [38] .z) .z) (λH=>⟨[(4,y6 H)],[]⟩) λH=>.k (λJ=>⟨[(4,y6 J)],[]⟩))) h
instance U7 {F:tT}:CK (HM F) 19 [ed F] [] ed oN:=Wf 0 Tryz.f19 λh=>by unfold HM at h;exact Wg (.y 92 92 (.d (λv1=>⟨[(1,yr 1 0),(18,yb v1)],[(1,yB (tT.av F))]⟩) λv1=>.b .z (.v λ_=>.v λv2=>.c (.o0 21 67 4 fI.fv (λP _=>⟨[(18,X),(24,yO 21 fI.fv v2),(25,yi (v2.length:Int)),(26,yi (P:Int))],[(21,yR 67 4 fI.fv v2)]⟩)) (λ_=>⟨[(18,X)],[]⟩) λ_=>.d (λK=>⟨[(44,yb K)],[]⟩) λK=>.b .z (.c (.f 46 4 fI.fv (λM _=>⟨[(44,X),(46,AV.d (D.l 4 fI.fv F.fT)),(47,yi (F.fT.length:Int)),(48,yi (M:Int))],[]⟩) (λ_ M Q=>.g (.k (λH=>⟨[(78,yb H)],[]⟩)))) (λ_=>⟨[(44,X)],[]⟩) λ_=>.k (λJ=>⟨[(1,X),(2,yb J)],[(1,N)]⟩))))) h
instance {F:oA}:CK (LN F) 133 [ed F] [] ed oN:=Wf 0 Tryz.f133 λh=>by unfold LN at h;exact Wg (.y 42 42 (.k (λv1=>⟨[(2,yb v1)],[]⟩))) h
instance {F:I oF}:CK (I4 F) 193 [ed F] [] e2 oN:=Wf 0 Tryz.f193 λh=>by unfold I4 at h;exact Wg (.y 24 24 (.k (λv1=>⟨[(0,y3 F),(17,yb v1)],[]⟩))) h
instance {F:I oF}:CK (Jf F) 194 [ed F] [] ed oN:=Wf 0 Tryz.f194 λh=>by unfold Jf at h;exact Wg (.y 23 23 (.a (.f 6 2 oF.fv (λH J=>⟨[(3,yi J),(6,y3 F),(7,yi (F.length:Int)),(8,yi (H:Int))],[]⟩) (λJ H M=>.g (.k (λK=>⟨[(3,yi K)],[]⟩)))) (λv1=>⟨[(3,yi v1)],[]⟩))) h
instance {F:I oF}:CK (G6 F) 196 [ed F] [] ed oN:=Wf 0 Tryz.f196 λh=>by unfold G6 at h;exact Wg (.y 18 18 (.a (.f0 6 2 oF.fv (λJ H=>⟨[(3,yO 3 D.i H),(6,y3 F),(7,yi (F.length:Int)),(8,yi (J:Int))],[(3,yR 3 1 D.i H)]⟩)) (λv1=>⟨[(3,yO 3 D.i v1)],[(3,yR 3 1 D.i v1)]⟩))) h
instance {H:I oF} {F:Int}:CK (Lp H F) 195 [ed H,ed F] [] ed oN:=Wf 0 Tryz.f195 λh=>by unfold Lp at h;exact Wg (.v λ(v1:I Int)=>.y 18 18 (.a (.f0 8 1 D.i (λJ _=>⟨[(1,yi F),(8,y2 v1),(9,yi (v1.length:Int)),(10,yi (J:Int))],[]⟩)) (λ_=>⟨[],[]⟩))) h
instance {F:I Int} {H:Int}:CK (HV F H) 197 [ed F,ed H] [] ed oN:=Wf 0 Tryz.f197 λh=>by unfold HV at h;exact Wg (.y 17 17 (.a (.f0 7 1 D.i (λJ _=>⟨[(1,yi H),(7,y2 F),(8,yi (F.length:Int)),(9,yi (J:Int))],[]⟩)) (λ_=>⟨[],[]⟩))) h
instance {F:Int}:CK (Is F) 309 [ed F] [] ed oN:=Wf 0 Tryz.f309 λh=>by unfold Is at h;exact Wg .z h
instance {F:Int} {H:Int}:CK (Lt F H) 272 [ed F,ed H] [] ed oN:=Wf 0 Tryz.f272 λh=>by unfold Lt at h;exact Wg (.y 16 16 (.k (λv1=>⟨[(4,yb v1)],[]⟩))) h
instance {H:Int} {J:Int} {F:gE}:CK (Gx H J F) 198 [ed H,ed J,ed F] [] e2 oN:=Wf 0 Tryz.f198 λh=>by unfold Gx at h;exact Wg (.b .z (.y 50 50 (.d (λv1=>⟨[(0,yi H),(1,yi J),(5,yr 5 0),(6,yr 6 0),(8,yb v1)],[(5,yB (gE.av F)),(6,yB gE.zv)]⟩) λv1=>.d (λv2=>⟨[(35,yb v2)],[]⟩) λv2=>.b .z (.d (λK=>⟨[(0,X),(8,X),(35,X),(46,yb K)],[]⟩) λK=>.k (λM=>⟨[(1,X),(46,X)],[(5,yB [AV.d (D.i F.gO),AV.d (D.l 2 oF.fv F.Path),AV.d (D.b F.Next.V6),AV.d (D.u64 F.Next.Hi),AV.d (D.u64 F.Next.Lo),AV.d (D.i F.wo),AV.d (D.i F.th),yi M,AV.d (D.l 2 qv.fv F.cW),AV.d (D.l 3 oB.fv F.oB),AV.d (D.l 3 gH.fv F.iX)])]⟩))))) h
end Go.AX.Q25
end
