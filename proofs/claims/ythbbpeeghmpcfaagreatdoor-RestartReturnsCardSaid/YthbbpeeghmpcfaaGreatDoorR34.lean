/-
  Texts of one proof, packed.
-/
import Derived.Test.YthbbpeeghmpcfaaGreatDoorR13
import Derived.Test.YthbbpeeghmpcfaaGreatDoorR18
import Derived.Test.YthbbpeeghmpcfaaGreatDoorR32
import Derived.Test.YthbbpeeghmpcfaaGreatDoorR33
import Derived.Deep.Draws
set_option linter.all false
set_option maxRecDepth 100000
set_option maxHeartbeats 4000000
open List renaming length_map→X1,length_append→X2,length_drop→X14,length_take→X15,length_replicate→X17,length_set→X18
open Int renaming toNat→Xa0
open List renaming map→Xa5,replicate→Xaa,take→Xb7,drop→Xb8
open Go renaming Program→Xdn,FuncId→Xdy
section
namespace Go.AX.Q33
open Go Go.AX Go.Proofs
variable {wl:Prop}
instance {a0:tx}:CK (EB a0) 37 [.ref 0 0] [.box (tx.av a0)] (λr=>.d (oX.cW r.1)) (λr=>[.box (tx.av r.2)]):=Wf 0 Tryz.f37 λh=>by unfold EB at h;exact Wg (.v λ_=>.v λ_=>.v λv1=>.y 97 98 (.d (u2 λv2 H=>⟨[(0,yr 0 0),(2,yr 3 0),(3,yr 4 0)],[(0,yB (tx.av v2)),(3,yB oX.zv),(4,yB [yi 99,AV.own 13 (Xa5 fI.cW ([(⟨(⟨false,(0:j),(3221225984:j)⟩:Addr),24⟩:fI)]:O fI)).length,yi 8,yi 24,yi 19,yi 64,yi 25,yi 65,yO 29 fI.cW H,yO 16 Ck.cW ([(⟨64512,65534⟩:Ck)]:O Ck),y5 v1,yi 8,AV.d (D.nil 3),AV.d (D.nil 6),AV.d (D.nil 6)]),(13,some (OB.row 67 4 (Xa5 fI.cW ([(⟨(⟨false,(0:j),(3221225984:j)⟩:Addr),24⟩:fI)]:O fI)) .no)),(16,yR 165 2 Ck.cW ([(⟨64512,65534⟩:Ck)]:O Ck)),(29,yR 67 4 fI.cW H)]⟩) (u2 λv2 H=>.d (u2 λv4 J=>⟨[],[(0,yB (tx.av v4)),(4,yB [yi 99,AV.own 13 (Xa5 fI.cW ([(⟨(⟨false,(0:j),(3221225984:j)⟩:Addr),24⟩:fI)]:O fI)).length,yi 8,yi 24,yi 19,yi 64,yi 25,yi 65,yO 29 fI.cW H,yO 16 Ck.cW ([(⟨64512,65534⟩:Ck)]:O Ck),y5 v1,yi J,AV.d (D.nil 3),AV.d (D.nil 6),AV.d (D.nil 6)])]⟩) (u2 λv4 J=>.v λv6=>.v λ_=>.a (.w (u4 λQ U M F=>⟨[(4,yi v6),(5,yi Q)],[(0,yB (tx.av U)),(4,yB [yi 99,AV.own 13 (Xa5 fI.cW ([(⟨(⟨false,(0:j),(3221225984:j)⟩:Addr),24⟩:fI)]:O fI)).length,yi 8,yi 24,yi 19,yi 64,yi 25,yi 65,yO 29 fI.cW H,yO 16 Ck.cW ([(⟨64512,65534⟩:Ck)]:O Ck),y5 v1,yi J,AV.d (D.nil 3),yO 70 ss.cW M,yO 88 ss.cW F]),(70,yR 168 6 ss.cW M),(88,yR 168 6 ss.cW F)]⟩) (u4 λQ U M F=>.b (.a (.v λag=>.d (λV=>⟨[(6,yr 7 0),(7,yi V)],[(7,yB (fI.av ag))]⟩) λV=>.c (.o 49 3 1 D.i (λY=>u2 λZ P=>⟨[(48,yO 49 D.i ([101,102,103,104,105,201,202,203,301]:O Int)),(49,yi (([101,102,103,104,105,201,202,203,301]:O Int).length:Int)),(50,yi (Y:Int))],[(0,yB (tx.av Z)),(4,yB [yi 99,AV.own 13 (Xa5 fI.cW ([(⟨(⟨false,(0:j),(3221225984:j)⟩:Addr),24⟩:fI)]:O fI)).length,yi 8,yi 24,yi 19,yi 64,yi 25,yi 65,yO 29 fI.cW H,yO 16 Ck.cW ([(⟨64512,65534⟩:Ck)]:O Ck),y5 v1,yi J,AV.d (D.nil 3),yO 70 ss.cW P,yO 88 ss.cW F]),(49,yR 3 1 D.i ([101,102,103,104,105,201,202,203,301]:O Int)),(70,yR 168 6 ss.cW P)]⟩) (u2 λZ P Y ah=>.g (.d (u2 λa6 a7=>⟨[(9,yi ah),(60,yb a6)],[(0,yB (tx.av a7))]⟩) (u2 λa6 a7=>.k (λa8=>⟨[(9,X),(60,X)],[(4,yB [yi 99,AV.own 13 (Xa5 fI.cW ([(⟨(⟨false,(0:j),(3221225984:j)⟩:Addr),24⟩:fI)]:O fI)).length,yi 8,yi 24,yi 19,yi 64,yi 25,yi 65,yO 29 fI.cW H,yO 16 Ck.cW ([(⟨64512,65534⟩:Ck)]:O Ck),y5 v1,yi J,AV.d (D.nil 3),yO 70 ss.cW a8,yO 88 ss.cW F]),(70,yR 168 6 ss.cW a8)]⟩))))) (u2 λaa K=>⟨[],[(0,yB (tx.av aa)),(4,yB [yi 99,AV.own 13 (Xa5 fI.cW ([(⟨(⟨false,(0:j),(3221225984:j)⟩:Addr),24⟩:fI)]:O fI)).length,yi 8,yi 24,yi 19,yi 64,yi 25,yi 65,yO 29 fI.cW H,yO 16 Ck.cW ([(⟨64512,65534⟩:Ck)]:O Ck),y5 v1,yi J,AV.d (D.nil 3),yO 70 ss.cW K,yO 88 ss.cW F]),(70,yR 168 6 ss.cW K)]⟩) (u2 λaa K=>.k (u2 λai ab=>⟨[(6,X),(7,X)],[(0,yB (tx.av ai)),(4,yB [yi 99,AV.own 13 (Xa5 fI.cW ([(⟨(⟨false,(0:j),(3221225984:j)⟩:Addr),24⟩:fI)]:O fI)).length,yi 8,yi 24,yi 19,yi 64,yi 25,yi 65,yO 29 fI.cW H,yO 16 Ck.cW ([(⟨64512,65534⟩:Ck)]:O Ck),y5 v1,yi J,AV.d (D.nil 3),yO 70 ss.cW K,yO 88 ss.cW ab]),(7,N),(88,yR 168 6 ss.cW ab)]⟩))) (u3 λaj ae af=>⟨[],[(0,yB (tx.av aj)),(4,yB [yi 99,AV.own 13 (Xa5 fI.cW ([(⟨(⟨false,(0:j),(3221225984:j)⟩:Addr),24⟩:fI)]:O fI)).length,yi 8,yi 24,yi 19,yi 64,yi 25,yi 65,yO 29 fI.cW H,yO 16 Ck.cW ([(⟨64512,65534⟩:Ck)]:O Ck),y5 v1,yi J,AV.d (D.nil 3),yO 70 ss.cW ae,yO 88 ss.cW af]),(70,yR 168 6 ss.cW ae),(88,yR 168 6 ss.cW af)]⟩)) .z)) (u3 λv7 v8 v9=>⟨[(0,X)],[(0,yB (tx.av v7)),(4,yB [yi 99,AV.own 13 (Xa5 fI.cW ([(⟨(⟨false,(0:j),(3221225984:j)⟩:Addr),24⟩:fI)]:O fI)).length,yi 8,yi 24,yi 19,yi 64,yi 25,yi 65,yO 29 fI.cW H,yO 16 Ck.cW ([(⟨64512,65534⟩:Ck)]:O Ck),y5 v1,yi J,AV.d (D.nil 3),yO 70 ss.cW v8,yO 88 ss.cW v9]),(70,yR 168 6 ss.cW v8),(88,yR 168 6 ss.cW v9)]⟩))))) h
instance {a0:tx} {a1:Int}:CK (DF a0 a1) 38 [.ref 0 0,ed a1] [.box (tx.av a0)] (λr=>.d (tF.cW r.1)) (λr=>[.box (tx.av r.2)]):=Wf 0 Tryz.f38 λh=>by
 refine⟨rfl,?_⟩;unfold DF at h;(conv=>whnf);refine Bv h (λ_=>Ai.ok) ?_;rintro⟨v1,_⟩ h;refine Bv h (λ_=>Ai.ok) ?_;rintro⟨_,_⟩ h;refine Al ?_;refine Ag h (λ(v2,P,Q,U,M)=>⟨sj,yB (tx.av v2)::nn 4 (yB tF.zv::yB [yi a1,yb P,yb Q,yb (v1==0),yi U,yO 32 D.i M,AV.d (D.nil 2)]::nn 25 (yR 3 1 D.i M::nn 20 ([])))⟩) ?_ ?_
 ·intro _ h;refine VG h λh=>?_;refine Ag h (λ(v7,v8,v9,F)=>⟨sj,yB (tx.av v7)::nn 4 (yB tF.zv::yB [yi a1,yb false,yb v8,yb (v1==0),yi v9,yO 32 D.i F,AV.d (D.nil 2)]::nn 25 (yR 3 1 D.i F::nn 20 ([])))⟩) ?_ ?_
  ·intro _ h;refine VG h λh=>?_;refine Ag h (λ(V,Y,H)=>⟨sj,yB (tx.av V)::nn 4 (yB tF.zv::yB [yi a1,yb false,yb false,yb (v1==0),yi Y,yO 32 D.i H,AV.d (D.nil 2)]::nn 25 (yR 3 1 D.i H::nn 20 ([])))⟩) ?_ ?_
   ·intro _ h;refine CY h ?_ ?_<;>intro h
    ·refine Bv h (λ_=>Ai.ok) ?_;rintro⟨_,_⟩ h;refine⟨_,rfl,?_⟩;exact CI h
    refine Ag h (λ(Z,J)=>⟨sj,yB (tx.av Z)::nn 4 (yB tF.zv::yB [yi a1,yb false,yb false,yb (v1==0),yi 0,yO 32 D.i J,AV.d (D.nil 2)]::nn 25 (yR 3 1 D.i J::nn 20 ([])))⟩) ?_ ?_
    ·intro _ h;refine HY h λh=>?_;refine Bv h (λ_=>Ai.ok) ?_;rintro⟨_,_⟩ h;refine⟨_,rfl,?_⟩;exact CI h
    rintro⟨Z,J⟩ h;exact CI h
   rintro⟨V,Y,H⟩ h;exact CI h
  rintro⟨v7,v8,v9,F⟩ h;exact CI h
 rintro⟨v2,P,Q,U,M⟩ h;refine Ag h (λ(a6,a7)=>⟨dd 4 (yr 5 0::yr 6 0::dd 46 ([])),zS4 a1 P Q (v1==0) U M a7 a6⟩) ?_ ?_
 ·intro _ h;revert h;refine BO (λ(K,a8,aa)=>⟨yr 0 0::X::X::X::yr 5 0::yr 6 0::yi K::dd 45 ([]),zS4 a1 P Q (v1==0) U M aa a8⟩) ?_ ?_
  ·exact wk
  rintro _ ⟨K,a8,aa⟩ _ h af;refine Al ?_;refine HY h λh=>?_;refine Al ?_;refine Bv h (λ_=>Ai.ok) ?_;rintro⟨_,_⟩ h;refine Ag h (λ(ab,ae)=>⟨yr 0 0::X::X::X::yr 5 0::yr 6 0::yi K::dd 45 ([]),zS4 a1 P Q (v1==0) U M ae ab⟩) ?_ ?_
  ·intro _ h;refine HY h λh=>?_;refine .inl (dO ?_);refine⟨_,rfl,?_⟩;refine NK h (λ_=>Ai.ok) (λ_=>rfl) ?_;rintro⟨_,_⟩ h;refine⟨_,rfl,?_⟩;refine⟨rfl,?_⟩;refine apO (f:=B4.cW) h rfl λ_ h=>?_;refine cO ?_;exact CI h
  rintro⟨ab,ae⟩ h;refine⟨_,rfl,?_⟩;exact af _ _ wk h
 rintro⟨a6,a7⟩ h;(conv=>whnf);refine .inl ?_;refine⟨rfl,?_⟩;refine⟨rfl,?_⟩;exact fin h
instance XJ {a0:Int}{a1:I}:CK (Eh a0 a1) 71 [ed a0,ed a1] [] ed oN:=Wf 0 Tryz.f71 λh=>by unfold Eh at h;exact Wg .z h
instance {a0:tx} {a1:Int}:CK (E1 a0 a1) 39 [.ref 0 0,ed a1] [.box (tx.av a0)] (λr=>.d (th.cW r.1)) (λr=>[.box (tx.av r.2)]):=Wf 0 Tryz.f39 λh=>by unfold E1 at h;exact Wg .z h
instance {a0:tx}:CK (Ea a0) 14 [.ref 0 0] [.box (tx.av a0)] (λr=>.d (ur.cW r.1)) (λr=>[.box (tx.av r.2)]):=Wf 0 Tryz.f14 λh=>by unfold Ea at h;exact Wg (.v λ(v1:oX)=>.v λ_=>.y 40 41 (.a (.w0 (u4 λM P F H=>⟨[(0,yr 0 0),(2,yr 3 0),(3,yr 4 0),(4,yi M)],[(0,yB (tx.av P)),(3,yB ur.zv),(4,yB [AV.d (D.i v1.DH),AV.d (D.l 4 fI.cW v1.Bb),AV.d (D.i v1.CT),AV.d (D.i v1.zi),AV.d (D.i v1.CR),AV.d (D.i v1.zh),AV.d (D.i v1.AJ),AV.d (D.i v1.B3),AV.d (D.l 4 fI.cW v1.wg),AV.d (D.l 2 Ck.cW v1.tv),AV.d (D.l 1 D.i v1.zq),AV.d (D.i v1.zX),AV.d (D.l 3 Set.cW v1.zu.tE),AV.d (D.l 6 ss.cW v1.zu.r9),AV.d (D.l 6 ss.cW v1.sI),yO 24 tF.cW F,yO 38 rv.cW H]),(24,yR 85 7 tF.cW F),(38,yR 49 8 rv.cW H)]⟩)) (u3 λv2 J K=>⟨[(2,yr 3 0),(3,yr 4 0)],[(0,yB (tx.av v2)),(3,yB ur.zv),(4,yB [AV.d (D.i v1.DH),AV.d (D.l 4 fI.cW v1.Bb),AV.d (D.i v1.CT),AV.d (D.i v1.zi),AV.d (D.i v1.CR),AV.d (D.i v1.zh),AV.d (D.i v1.AJ),AV.d (D.i v1.B3),AV.d (D.l 4 fI.cW v1.wg),AV.d (D.l 2 Ck.cW v1.tv),AV.d (D.l 1 D.i v1.zq),AV.d (D.i v1.zX),AV.d (D.l 3 Set.cW v1.zu.tE),AV.d (D.l 6 ss.cW v1.zu.r9),AV.d (D.l 6 ss.cW v1.sI),yO 24 tF.cW J,yO 38 rv.cW K]),(24,yR 85 7 tF.cW J),(38,yR 49 8 rv.cW K)]⟩))) h
instance {a0:tx}:CK (G4 a0) 16 [.ref 0 0] [.box (tx.av a0)] (λr=>.d (D.b r.1)) (λr=>[.box (tx.av r.2)]):=Wf 0 Tryz.f16 λh=>by unfold G4 at h;exact Wg .z h
instance {a0:tx}:CK (B6 a0) 72 [.ref 0 0] [.box (tx.av a0)] (λr=>.d (fI.cW r.1)) (λr=>[.box (tx.av r.2)]):=Wf 0 Tryz.f72 λh=>by unfold B6 at h;exact Wg (.v λ_=>.v λ_=>.v λ(v1:fI)=>.v λ_=>.v λv2=>.g (.y 33 34 (.a (.b (.k (λF=>⟨[(2,yr 3 0),(3,yr 4 0)],[(0,yB (tx.av v2)),(3,yB fI.zv),(4,yB [AV.d (D.b v1.Addr.V6),AV.d (D.u64 v1.Addr.Hi),AV.d (D.u64 v1.Addr.Lo),yi F])]⟩)) (.a (.b (.k (λH=>⟨[(0,yr 0 0),(2,yr 3 0),(3,yr 4 0)],[(0,yB (tx.av v2)),(3,yB fI.zv),(4,yB [AV.d (D.b v1.Addr.V6),AV.d (D.u64 v1.Addr.Hi),AV.d (D.u64 v1.Addr.Lo),yi H])]⟩)) .z) (u2 λJ K=>⟨[(2,yr 3 0),(3,yr 4 0)],[(0,yB (tx.av J)),(3,yB fI.zv),(4,yB (fI.av K))]⟩))) (u2 λM P=>⟨[(2,yr 3 0),(3,yr 4 0)],[(0,yB (tx.av M)),(3,yB fI.zv),(4,yB (fI.av P))]⟩)))) h
instance Jd {a0:tx}:CK (B1 a0) 142 [.ref 0 0] [.box (tx.av a0)] (λr=>.d (D.l 2 oF.cW r.1)) (λr=>[.box (tx.av r.2)]):=Wf 0 Tryz.f142 λh=>by unfold B1 at h;exact Wg (.v λv1=>.v λ_=>.y 48 49 (.a (.o 17 206 2 oF.cW (λM=>u2 λP K=>⟨[(0,yr 0 0),(4,yO 5 oF.cW K),(5,yi v1),(19,yO 17 oF.cW ([(⟨0,99⟩:oF),(⟨0,101⟩:oF),(⟨0,102⟩:oF),(⟨99,101⟩:oF),(⟨99,103⟩:oF),(⟨500,1⟩:oF),(⟨65535,666⟩:oF),(⟨65535,65282⟩:oF)]:O oF)),(20,yi (([(⟨0,99⟩:oF),(⟨0,101⟩:oF),(⟨0,102⟩:oF),(⟨99,101⟩:oF),(⟨99,103⟩:oF),(⟨500,1⟩:oF),(⟨65535,666⟩:oF),(⟨65535,65282⟩:oF)]:O oF).length:Int)),(21,yi (M:Int))],[(0,yB (tx.av P)),(5,yR 206 2 oF.cW K),(17,yR 206 2 oF.cW ([(⟨0,99⟩:oF),(⟨0,101⟩:oF),(⟨0,102⟩:oF),(⟨99,101⟩:oF),(⟨99,103⟩:oF),(⟨500,1⟩:oF),(⟨65535,666⟩:oF),(⟨65535,65282⟩:oF)]:O oF))]⟩) (u2 λP K M U=>.g (.d (u2 λF H=>⟨[(7,yr 8 0),(41,yb F)],[(0,yB (tx.av H)),(8,yB (oF.av U))]⟩) (u2 λF H=>.k (λJ=>⟨[(4,yO 5 oF.cW J),(7,X),(41,X)],[(5,yR 206 2 oF.cW J),(8,N)]⟩))))) (u2 λv2 Q=>⟨[(4,yO 5 oF.cW Q)],[(0,yB (tx.av v2)),(5,yR 206 2 oF.cW Q)]⟩))) h
instance Nw {a0:tx}:CK (EY a0) 143 [.ref 0 0] [.box (tx.av a0)] (λr=>.d (D.l 3 iX.cW r.1)) (λr=>[.box (tx.av r.2)]):=Wf 0 Tryz.f143 λh=>by unfold EY at h;exact Wg (.v λv1=>.v λv2=>.y 38 39 (.a (.o 16 208 3 iX.cW (λH F=>⟨[(4,yO 5 iX.cW F),(5,yi v1),(18,yO 16 iX.cW ([(⟨5,5,5⟩:iX),(⟨99,0,0⟩:iX),(⟨99,0,103⟩:iX),(⟨99,1,102⟩:iX),(⟨99,101,0⟩:iX),(⟨99,102,104⟩:iX),(⟨99,103,101⟩:iX)]:O iX)),(19,yi (([(⟨5,5,5⟩:iX),(⟨99,0,0⟩:iX),(⟨99,0,103⟩:iX),(⟨99,1,102⟩:iX),(⟨99,101,0⟩:iX),(⟨99,102,104⟩:iX),(⟨99,103,101⟩:iX)]:O iX).length:Int)),(20,yi (H:Int))],[(0,yB (tx.av v2)),(5,yR 208 3 iX.cW F),(16,yR 208 3 iX.cW ([(⟨5,5,5⟩:iX),(⟨99,0,0⟩:iX),(⟨99,0,103⟩:iX),(⟨99,1,102⟩:iX),(⟨99,101,0⟩:iX),(⟨99,102,104⟩:iX),(⟨99,103,101⟩:iX)]:O iX))]⟩) (λF H M=>.g (.k (λJ=>⟨[(4,yO 5 iX.cW J)],[(5,yR 208 3 iX.cW J)]⟩)))) (λK=>⟨[(4,yO 5 iX.cW K)],[(0,yB (tx.av v2)),(5,yR 208 3 iX.cW K)]⟩))) h
instance {a0:tx} {a1:Int} {Q:I}:CK (Ee a0 a1 Q) 105 [.ref 0 0,ed a1,ed Q] [.box (tx.av a0)] (λr=>.d (gH.cW r.1)) (λr=>[.box (tx.av r.2)]):=Wf 0 Tryz.f105 λh=>by
 refine⟨rfl,?_⟩;unfold Ee at h;(conv=>whnf);refine Bv h (λ_=>Lc.ok) λv1 h=>?_;refine Bv h (λ_=>Ai.ok) ?_;rintro⟨v2,_⟩ h;refine Bv h (λ_=>Ai.ok) ?_;rintro⟨_,_⟩ h;refine Ag h (λ(v3,P)=>⟨yr 0 0::yi a1::yb Q::X::X::X::yr 7 0::yr 8 0::yO 16 D.i P::dd 117 ([]),yB (tx.av v3)::nn 6 (yB gH.zv::yB [yi v2,AV.d (D.l 2 r8.cW v1.Path),AV.d (D.b v1.Next.V6),AV.d (D.u64 v1.Next.Hi),AV.d (D.u64 v1.Next.Lo),AV.d (D.i v1.AF),AV.d (D.i v1.xL),AV.d (D.i v1.zy),AV.d (D.l 2 oF.cW v1.fT),AV.d (D.l 3 iX.cW v1.iX),AV.d (D.l 3 gL.cW v1.oE)]::nn 7 (yR 3 1 D.i P::nn 110 ([])))⟩) ?_ ?_
 ·intro _ h;exact Wg (.y 126 127 (.w0 (u3 λv5 v6 v7=>⟨[(0,yr 0 0),(1,yi a1),(2,yb Q),(6,yr 7 0),(7,yr 8 0),(8,yO 16 D.i v7),(9,yi v5)],[(0,yB (tx.av v6)),(7,yB gH.zv),(8,yB [yi v2,AV.d (D.l 2 r8.cW v1.Path),AV.d (D.b v1.Next.V6),AV.d (D.u64 v1.Next.Hi),AV.d (D.u64 v1.Next.Lo),AV.d (D.i v1.AF),AV.d (D.i v1.xL),AV.d (D.i v1.zy),AV.d (D.l 2 oF.cW v1.fT),AV.d (D.l 3 iX.cW v1.iX),AV.d (D.l 3 gL.cW v1.oE)]),(16,yR 3 1 D.i v7)]⟩))) h
 rintro⟨v3,P⟩ h;(conv=>whnf);refine .inr (.inl ?_);refine Bv h (λ_=>XJ.ok) λF h=>?_;refine Bv h (λ_=>Ai.ok) ?_;rintro⟨_,_⟩ h;refine Ag h (λ(U,H)=>⟨yr 0 0::X::yb Q::X::X::X::yr 7 0::yr 8 0::dd 118 ([]),yB (tx.av U)::nn 6 (yB gH.zv::yB [yi v2,AV.own 34 1,AV.d (D.b F.V6),AV.d (D.u64 F.Hi),AV.d (D.u64 F.Lo),yi H,AV.d (D.i v1.xL),AV.d (D.i v1.zy),AV.d (D.l 2 oF.cW v1.fT),AV.d (D.l 3 iX.cW v1.iX),AV.d (D.l 3 gL.cW v1.oE)]::nn 7 (yR 3 1 D.i P::nn 17 (yB [yb false,yO 16 D.i P]::nn 92 ([]))))⟩) ?_ ?_
 ·intro _ h;exact Wg .z h
 rintro⟨U,H⟩ h;refine Bv h (λ_=>Ai.ok) ?_;rintro⟨_,_⟩ h;refine Ag h (λ(V,J)=>⟨yr 0 0::X::yb Q::X::X::X::yr 7 0::yr 8 0::dd 118 ([]),yB (tx.av V)::nn 6 (yB gH.zv::yB [yi v2,AV.own 34 1,AV.d (D.b F.V6),AV.d (D.u64 F.Hi),AV.d (D.u64 F.Lo),yi H,yi J,AV.d (D.i v1.zy),AV.d (D.l 2 oF.cW v1.fT),AV.d (D.l 3 iX.cW v1.iX),AV.d (D.l 3 gL.cW v1.oE)]::nn 7 (yR 3 1 D.i P::nn 17 (yB [yb false,yO 16 D.i P]::nn 92 ([]))))⟩) ?_ ?_
 ·intro _ h;exact Wg .z h
 rintro⟨V,J⟩ h;refine Bv h (λ_=>Jd.ok) ?_;rintro⟨K,_⟩ h;refine Bv h (λ_=>Nw.ok) ?_;rintro⟨M,_⟩ h;refine Bv h (λ_=>Ai.ok) ?_;rintro⟨_,_⟩ h;refine Al ?_;refine Ag h (λ(Y,Z,a6,a7,a8,aa,ab)=>⟨dd 6 (yr 7 0::yr 8 0::dd 118 ([])),yB (tx.av Y)::nn 6 (yB gH.zv::yB [yi v2,y2 Z,yb a6,yu a7,yu a8,yi H,yi J,yi aa,y3 K,y4 M,y7 ab]::nn 118 ([]))⟩) ?_ ?_
 ·intro _ h;refine CY h ?_ ?_<;>intro h
  ·exact Wg .z h
  refine Ag h (λ(ae,af,ag,ah,ai,aj)=>⟨dd 6 (yr 7 0::yr 8 0::dd 118 ([])),yB (tx.av ae)::nn 6 (yB gH.zv::yB [yi v2,y2 af,yb ag,yu ah,yu ai,yi H,yi J,AV.d (D.i v1.zy),y3 K,y4 M,y7 aj]::nn 118 ([]))⟩) ?_ ?_
  ·intro _ h;refine CY h ?_ ?_<;>intro h
   ·exact Wg .z h
   refine Ag h (λ(ak,al,an,ao,ap,aq)=>⟨dd 6 (yr 7 0::yr 8 0::dd 118 ([])),yB (tx.av ak)::nn 6 (yB gH.zv::yB [yi v2,y2 al,yb an,yu ao,yu ap,yi H,yi J,AV.d (D.i v1.zy),y3 K,y4 M,y7 aq]::nn 118 ([]))⟩) ?_ ?_
   ·intro _ h;refine CY h ?_ ?_<;>intro h
    ·(conv=>whnf);refine .inl ?_;refine⟨rfl,?_⟩;refine⟨rfl,?_⟩;refine⟨by simp,?_⟩;exact Wg .z h
    exact Wg (.y 126 127 (.a (.b .z (.a (.b .z (.a (.b .z (.a (.b .z (.a (.b (.r .z) .z) (u2 λar au=>⟨[(6,yr 7 0),(7,yr 8 0)],[(0,yB (tx.av ar)),(7,yB gH.zv),(8,yB [yi v2,AV.own 34 1,AV.d (D.b F.V6),AV.d (D.u64 F.Hi),AV.d (D.u64 F.Lo),yi H,yi J,AV.d (D.i v1.zy),y3 K,y4 M,y7 au]),(16,yR 3 1 D.i P),(34,yB [yb false,yO 16 D.i P])]⟩))) (u3 λax ay az=>⟨[(6,yr 7 0),(7,yr 8 0)],[(0,yB (tx.av ax)),(7,yB gH.zv),(8,yB [yi v2,y2 ay,AV.d (D.b F.V6),AV.d (D.u64 F.Hi),AV.d (D.u64 F.Lo),yi H,yi J,AV.d (D.i v1.zy),y3 K,y4 M,y7 az])]⟩))) (u3 λba bb bc=>⟨[(6,yr 7 0),(7,yr 8 0)],[(0,yB (tx.av ba)),(7,yB gH.zv),(8,yB [yi v2,y2 bb,AV.d (D.b F.V6),AV.d (D.u64 F.Hi),AV.d (D.u64 F.Lo),yi H,yi J,AV.d (D.i v1.zy),y3 K,y4 M,y7 bc])]⟩))) (u6 λbd be bf bg bh bi=>⟨[(6,yr 7 0),(7,yr 8 0)],[(0,yB (tx.av bd)),(7,yB gH.zv),(8,yB [yi v2,y2 be,yb bf,yu bg,yu bh,yi H,yi J,AV.d (D.i v1.zy),y3 K,y4 M,y7 bi])]⟩))) (u6 λbj bk bl bm bn bo=>⟨[(6,yr 7 0),(7,yr 8 0)],[(0,yB (tx.av bj)),(7,yB gH.zv),(8,yB [yi v2,y2 bk,yb bl,yu bm,yu bn,yi H,yi J,AV.d (D.i v1.zy),y3 K,y4 M,y7 bo])]⟩))) h
   rintro⟨ak,al,an,ao,ap,aq⟩ h;exact CI h
  rintro⟨ae,af,ag,ah,ai,aj⟩ h;exact CI h
 rintro⟨Y,Z,a6,a7,a8,aa,ab⟩ h;exact fin h
instance {a0:tx} {a1:Int}:CK (Ec a0 a1) 73 [.ref 0 0,ed a1] [.box (tx.av a0)] (λr=>.d (mu.cW r.1)) (λr=>[.box (tx.av r.2)]):=Wf 0 Tryz.f73 λh=>by unfold Ec at h;exact Wg .z h
instance {a0:tx} {a1:Int}:CK (D7 a0 a1) 40 [.ref 0 0,ed a1] [.box (tx.av a0)] (λr=>.d (zl.cW r.1)) (λr=>[.box (tx.av r.2)]):=Wf 0 Tryz.f40 λh=>by
 refine⟨rfl,?_⟩;unfold D7 at h;(conv=>whnf);refine Bv h (λ_=>Lc.ok) λv1 h=>?_;refine Bv h (λ_=>Ai.ok) ?_;rintro⟨_,_⟩ h;refine Ag h (λ(v2,H)=>⟨yr 0 0::yi a1::X::X::yr 5 0::yr 6 0::dd 60 ([]),yB (tx.av v2)::nn 4 (yB zl.zv::yB [yO 29 fI.cW H,AV.d (D.i v1.o3),AV.d (D.l 2 r8.cW v1.Path),AV.d (D.b v1.Next.V6),AV.d (D.u64 v1.Next.Hi),AV.d (D.u64 v1.Next.Lo),AV.d (D.i v1.AF),AV.d (D.i v1.xL),AV.d (D.i v1.zy),AV.d (D.l 2 oF.cW v1.fT),AV.d (D.l 3 iX.cW v1.iX),AV.d (D.l 3 gL.cW v1.oE),AV.d (D.nil 4)]::nn 22 (yR 67 4 fI.cW H::nn 37 ([])))⟩) ?_ ?_
 ·intro _ h;exact Wg (.y 66 67 (.w (u3 λv4 v5 v6=>⟨[(0,yr 0 0),(1,yi a1),(4,yr 5 0),(5,yr 6 0),(6,yi v4)],[(0,yB (tx.av v5)),(5,yB zl.zv),(6,yB [yO 29 fI.cW v6,AV.d (D.i v1.o3),AV.d (D.l 2 r8.cW v1.Path),AV.d (D.b v1.Next.V6),AV.d (D.u64 v1.Next.Hi),AV.d (D.u64 v1.Next.Lo),AV.d (D.i v1.AF),AV.d (D.i v1.xL),AV.d (D.i v1.zy),AV.d (D.l 2 oF.cW v1.fT),AV.d (D.l 3 iX.cW v1.iX),AV.d (D.l 3 gL.cW v1.oE),AV.d (D.nil 4)]),(29,yR 67 4 fI.cW v6)]⟩) (u3 λv4 v5 v6=>.k (u2 λv8 v9=>⟨[(20,yb v8)],[(0,yB (tx.av v9))]⟩)))) h
 rintro⟨v2,H⟩ h;refine Bv h (λ_=>Ai.ok) ?_;rintro⟨_,_⟩ h;refine Ag h (λ(M,P,Q,U,V,Y,Z,a6,a7,a8,aa,ab,J)=>⟨dd 4 (yr 5 0::yr 6 0::dd 60 ([])),yB (tx.av M)::nn 4 (yB zl.zv::yB [yO 29 fI.cW H,yi P,y2 Q,yb U,yu V,yu Y,yi Z,yi a6,yi a7,y3 a8,y4 aa,y7 ab,yO 42 fI.cW J]::nn 22 (yR 67 4 fI.cW H::nn 12 (yR 67 4 fI.cW J::nn 24 ([]))))⟩) ?_ ?_
 ·intro _ h;exact Wg (.b (.v λ(F:mu)=>.v λ_=>.y 66 67 (.a (.w (u3 λae af K=>⟨[(0,yr 0 0),(4,yr 5 0),(5,yr 6 0),(7,yr 8 0),(8,yi ae)],[(0,yB (tx.av af)),(5,yB zl.zv),(6,yB [yO 29 fI.cW H,AV.d (D.i F.gH.o3),AV.d (D.l 2 r8.cW F.gH.Path),AV.d (D.b F.gH.Next.V6),AV.d (D.u64 F.gH.Next.Hi),AV.d (D.u64 F.gH.Next.Lo),AV.d (D.i F.gH.AF),AV.d (D.i F.gH.xL),AV.d (D.i F.gH.zy),AV.d (D.l 2 oF.cW F.gH.fT),AV.d (D.l 3 iX.cW F.gH.iX),AV.d (D.l 3 gL.cW F.gH.oE),yO 42 fI.cW K]),(8,yB (mu.av F)),(29,yR 67 4 fI.cW H),(42,yR 67 4 fI.cW K)]⟩) (u3 λae af K=>.b (.v λ_=>.v λai=>.k (λag=>⟨[],[(0,yB (tx.av ai)),(6,yB [yO 29 fI.cW H,AV.d (D.i F.gH.o3),AV.d (D.l 2 r8.cW F.gH.Path),AV.d (D.b F.gH.Next.V6),AV.d (D.u64 F.gH.Next.Hi),AV.d (D.u64 F.gH.Next.Lo),AV.d (D.i F.gH.AF),AV.d (D.i F.gH.xL),AV.d (D.i F.gH.zy),AV.d (D.l 2 oF.cW F.gH.fT),AV.d (D.l 3 iX.cW F.gH.iX),AV.d (D.l 3 gL.cW F.gH.oE),yO 42 fI.cW ag]),(42,yR 67 4 fI.cW ag)]⟩)) .z)) (u2 λaj ah=>⟨[(4,yr 5 0),(5,yr 6 0)],[(0,yB (tx.av aj)),(5,yB zl.zv),(6,yB [yO 29 fI.cW H,AV.d (D.i F.gH.o3),AV.d (D.l 2 r8.cW F.gH.Path),AV.d (D.b F.gH.Next.V6),AV.d (D.u64 F.gH.Next.Hi),AV.d (D.u64 F.gH.Next.Lo),AV.d (D.i F.gH.AF),AV.d (D.i F.gH.xL),AV.d (D.i F.gH.zy),AV.d (D.l 2 oF.cW F.gH.fT),AV.d (D.l 3 iX.cW F.gH.iX),AV.d (D.l 3 gL.cW F.gH.oE),yO 42 fI.cW ah]),(29,yR 67 4 fI.cW H),(42,yR 67 4 fI.cW ah)]⟩))) .z) h
 rintro⟨M,P,Q,U,V,Y,Z,a6,a7,a8,aa,ab,J⟩ h;exact Wg .z h
instance {a0:tx} {a1:ur}:CK (EA a0 a1) 17 [.ref 0 0,ed a1] [.box (tx.av a0)] (λr=>.d (zO.cW r.1)) (λr=>[.box (tx.av r.2)]):=Wf 0 Tryz.f17 λh=>by
 refine⟨rfl,?_⟩;unfold EA at h;refine⟨a1.gD.length,X1 _,?_⟩;refine⟨_,rfl,?_⟩;refine Bv h (λ_=>Ai.ok) ?_;rintro⟨v1,_⟩ h;refine⟨_,rfl,?_⟩;refine Bv h (λ_=>Ai.ok) ?_;rintro⟨_,_⟩ h;obtain⟨v2,g3,h⟩:=AM h;refine⟨rfl,Dw (f:=D.i) g3,?_⟩;refine⟨rfl,D.i v2,(FY (f:=D.i) g3),?_⟩;refine Al ?_;refine Ag h (λ(v4,v5)=>⟨dd 4 (yr 5 0::X::yr 7 0::dd 45 ([])),yB (tx.av v4)::nn 4 (yB zO.zv::N::yB (zO.av v5)::nn 45 ([]))⟩) ?_ ?_
 ·intro _ h;refine CY h ?_ ?_<;>intro h
  ·exact Wg .z h
  refine Ag h (λ(v6,v7,v8,v9,F,H,J,K,M,P)=>⟨dd 4 (yr 5 0::X::yr 7 0::dd 45 ([])),yB (tx.av v6)::nn 4 (yB zO.zv::N::yB [yi v2,yi (AG (101+v1)),yi v7,yi v8,AV.d (D.nil 4),yi 0,AV.d (D.nil 2),yb false,yu (0:j),yu (0:j),yi 0,yi 0,yi 0,AV.d (D.nil 2),AV.d (D.nil 3),AV.d (D.nil 3),AV.d (D.nil 4),yi v9,yb F,yb H,yb J,yi K,y5 M,y11 P]::nn 45 ([]))⟩) ?_ ?_
  ·intro _ h;refine CY h ?_ ?_<;>intro h
   ·exact Wg .z h
   refine Ag h (λ(Q,U,V,Y,Z,a6,a7,a8,aa)=>⟨dd 4 (yr 5 0::X::yr 7 0::dd 45 ([])),yB (tx.av Q)::nn 4 (yB zO.zv::N::yB [yi v2,yi (AG (101+v1)),yi 0,yi U,AV.d (D.nil 4),yi 0,AV.d (D.nil 2),yb false,yu (0:j),yu (0:j),yi 0,yi 0,yi 0,AV.d (D.nil 2),AV.d (D.nil 3),AV.d (D.nil 3),AV.d (D.nil 4),yi V,yb Y,yb Z,yb a6,yi a7,y5 a8,y11 aa]::nn 45 ([]))⟩) ?_ ?_
   ·intro _ h;exact Wg (.b .z (.y 52 53 (.k (u2 λab ae=>⟨[(4,yr 5 0),(6,yr 7 0)],[(0,yB (tx.av ab)),(5,yB zO.zv),(7,yB [yi v2,yi (AG (101+v1)),yi 0,yi ae,AV.d (D.nil 4),yi 0,AV.d (D.nil 2),yb false,yu (0:j),yu (0:j),yi 0,yi 0,yi 0,AV.d (D.nil 2),AV.d (D.nil 3),AV.d (D.nil 3),AV.d (D.nil 4),yi 0,yb false,yb false,yb false,yi 0,AV.d (D.nil 1),AV.d (D.nil 2)])]⟩)))) h
   rintro⟨Q,U,V,Y,Z,a6,a7,a8,aa⟩ h;exact CI h
  rintro⟨v6,v7,v8,v9,F,H,J,K,M,P⟩ h;exact CI h
 rintro⟨v4,v5⟩ h;exact fin h
instance Ns {a0:tx}:CK (Ed a0) 5 [.ref 0 0] [.box (tx.av a0)] (λr=>.Ca [ed r.1,ed r.2.1,ed r.2.2.1]) (λr=>[.box (tx.av r.2.2.2)]):=Wf 0 Tryz.f5 λh=>by unfold Ed at h;exact Wg (.v λv1=>.v λ_=>.y 53 54 (.a (.w (u4 λQ U V K=>⟨[(0,yr 0 0),(2,yr 3 0),(4,yr 5 0),(5,yr 6 0),(6,yr 7 0),(8,yO 9 zO.cW K),(9,yi Q)],[(0,yB (tx.av U)),(3,yB Ct.zv),(5,yB ur.zv),(6,yB (ur.av v1)),(7,yB (Ct.av V)),(9,yR 87 24 zO.cW K)]⟩) (u4 λQ U V K=>.d (u2 λF H=>⟨[(29,yb F)],[(0,yB (tx.av H))]⟩) (u2 λF H=>.b (.v λ_=>.v λM=>.k (u2 λP J=>⟨[(8,yO 9 zO.cW J),(29,X)],[(0,yB (tx.av M)),(7,yB (Ct.av P)),(9,yR 87 24 zO.cW J)]⟩)) .z))) (u3 λv2 Z Y=>⟨[(2,yr 3 0),(4,yr 5 0),(5,yr 6 0),(6,yr 7 0),(8,yO 9 zO.cW Y)],[(0,yB (tx.av v2)),(3,yB Ct.zv),(5,yB ur.zv),(6,yB (ur.av v1)),(7,yB (Ct.av Z)),(9,yR 87 24 zO.cW Y)]⟩))) h
instance {a0:JN}:CK (Hj a0) 20 [ed a0] [] ed oN:=Wf 0 Tryz.f20 λh=>by unfold Hj at h;exact Wg .z h
instance SL {a0:O S}{a1:O S}:CK (De a0 a1) 81 [ed a0,ed a1] [] ed oN:=Wf 0 Tryz.f81 λh=>by refine⟨rfl,?_⟩;unfold De at h;refine⟨a0,rfl,?_⟩;refine⟨a1,rfl,?_⟩;exact fin h
instance M6 {a0:O gL}:CK (C7 a0) 117 [ed a0] [] ed oN:=Wf 0 Tryz.f117 λh=>by unfold C7 at h;exact Wg (.y 28 28 (.a (.f 8 3 gL.cW (λJ=>u2 λK H=>⟨[(3,AV.mp 7),(4,yO 4 gL.cW H),(8,y7 a0),(9,yi (a0.length:Int)),(10,yi (J:Int))],[(4,yR 143 3 gL.cW H),(7,some (OB.map 3 4 (BK D.i D.b K)))]⟩) (u2 λK H J M=>.g (.k (λF=>⟨[(4,yO 4 gL.cW F),(6,yr 6 0)],[(4,yR 143 3 gL.cW F),(6,yB (gL.av M))]⟩)))) (λv1=>⟨[(4,yO 4 gL.cW v1)],[(4,yR 143 3 gL.cW v1)]⟩))) h
instance {a0:Int}:CK (BP a0) 119 [ed a0] [] ed oN:=Wf 0 Tryz.f119 λh=>by unfold BP at h;exact Wg (.y 15 15 (.k (λv1=>⟨[(2,yb v1)],[]⟩))) h
instance {a0:gL}:CK (DJ a0) 118 [ed a0] [] ed oN:=Wf 0 Tryz.f118 λh=>by unfold DJ at h;exact Wg (.y 12 12 (.k (λv1=>⟨[(2,yb v1)],[]⟩))) h
instance:CK (F4) 86 [] [] ed oN:=Wf 0 Tryz.f86 λh=>by unfold F4 at h;exact Wg .z h
instance GF {a0:gL}:CK (A4 a0) 152 [ed a0] [] ed oN:=Wf 0 Tryz.f152 λh=>by unfold A4 at h;exact Wg (.y 25 25 (.k (λv1=>⟨[(2,yb v1)],[]⟩))) h
instance {a0:O S}:CK (BW a0) 147 [ed a0] [] ed oN:=Wf 0 Tryz.f147 λh=>by unfold BW at h;exact Wg (.y 19 19 (.a (.f0 6 1 D.u8 (λF H=>⟨[(3,yi H),(6,y0 a0),(7,yi (a0.length:Int)),(8,yi (F:Int))],[]⟩)) (λv1=>⟨[(3,yi v1)],[]⟩))) h
instance E7 {a0:O S}:CK (Bl a0) 233 [ed a0] [] (λr=>AV.own 0 (Xa5 D.i r).length) (λr=>[.row 3 1 (Xa5 D.i r) .no]):=Wf 0 Tryz.f233 λh=>by unfold Bl at h;exact Wg (.y 16 16 (.c (.w0 (u2 λv2 F=>⟨[(0,y0 v2),(3,yO 3 D.i F)],[(3,yR 3 1 D.i F)]⟩)) (λv1=>⟨[(3,yO 3 D.i v1)],[(3,yR 3 1 D.i v1)]⟩) λv1=>.l (.r .z))) h
instance JE {a0:O Int}:CK (BM a0) 235 [AV.own 0 (Xa5 D.i a0).length] [.row 3 1 (Xa5 D.i a0) .no] (λr=>AV.own 1 (Xa5 D.i r).length) (λr=>[.gone,.row 3 1 (Xa5 D.i r) .no]):=Wf 0 Tryz.f235 λh=>by
 refine⟨rfl,?_⟩;unfold BM at h;refine⟨a0.length,EW,?_⟩;refine Al ?_;refine CY h ?_ ?_<;>intro h
 ·exact Wg (.r .z) h
 refine Ag h (λ_=>⟨yO 0 D.i a0::dd 60 ([]),yR 3 1 D.i a0::nn 61 ([])⟩) ?_ ?_
 ·intro _ h;revert h;refine BO (λv1=>⟨yO 0 D.i a0::X::X::yi v1::dd 57 ([]),yR 3 1 D.i a0::nn 61 ([])⟩) ?_ ?_
  ·exact wk
  rintro _ v1 _ h p2;refine⟨a0.length,EW,?_⟩;refine Al ?_;refine HY h λh=>?_;refine Ag h (λ_=>⟨yO 0 D.i a0::X::X::yi v1::dd 57 ([]),yR 3 1 D.i a0::nn 61 ([])⟩) ?_ ?_
  ·intro _ h;refine .inl (dO ?_);obtain⟨v3,g4,h⟩:=AM h;refine⟨rfl,Dw (f:=D.i) g4,?_⟩;refine⟨rfl,D.i v3,(FY (f:=D.i) g4),?_⟩;refine⟨_,rfl,?_⟩;obtain⟨v5,g6,h⟩:=AM h;refine⟨rfl,Dw (f:=D.i) g6,?_⟩;refine⟨rfl,D.i v5,(FY (f:=D.i) g6),?_⟩;refine cO ?_;refine Al ?_;refine HY h λh=>?_;(conv=>whnf);refine .inr (.inl ?_);obtain⟨_,g7,h⟩:=AM h;have ab:=Dc g7;refine⟨Hk (f:=D.i) g7,rfl,(Xa0 v1),(Xa0 (a0.length:Int)-Xa0 v1),rfl,(by rw[X1]),?_⟩;refine Ag h (λ(J,K)=>⟨yO 0 D.i K::X::X::yi J::dd 57 ([]),yR 3 1 D.i K::nn 61 ([])⟩) ?_ ?_
   ·intro _ h;revert h;refine BO (λ(P,M,F)=>⟨yO 0 D.i F::X::X::yi P::AV.Fc 0 (Xa0 v1) (Xa0 (a0.length:Int)-Xa0 v1) (Xa5 D.i F).length::yi M::dd 55 ([]),yR 3 1 D.i F::nn 61 ([])⟩) ?_ ?_
    ·exact wk
    rintro _ ⟨P,M,F⟩ _ h af;refine⟨(Xa0 (a0.length:Int)-Xa0 v1),rfl,?_⟩;refine Al ?_;refine HY h λh=>?_;refine Al ?_;refine .inl (dO ?_);obtain⟨a7,Q,h⟩:=AM h;refine⟨EW,KG Q,_,rfl,?_⟩;refine⟨rfl,D.i a7,(KP (f:=D.i) Q),?_⟩;refine⟨_,rfl,?_⟩;obtain⟨a8,U,h⟩:=AM h;refine⟨EW,KG U,_,rfl,?_⟩;refine⟨rfl,D.i a8,(KP (f:=D.i) U),?_⟩;refine cO ?_;refine Ag h (λ(V,H)=>⟨yO 0 D.i H::X::X::yi V::AV.Fc 0 (Xa0 v1) (Xa0 (a0.length:Int)-Xa0 v1) (Xa5 D.i H).length::yi M::dd 55 ([]),yR 3 1 D.i H::nn 61 ([])⟩) ?_ ?_
    ·intro _ h;refine HY h λh=>?_;obtain⟨aa,Y,h⟩:=AM h;refine⟨EW,KG Y,_,rfl,?_⟩;refine⟨rfl,D.i aa,(KP (f:=D.i) Y),?_⟩;exact Wg .z h
    rintro⟨V,H⟩ h;exact Wg .z h
   rintro⟨J,K⟩ h;(conv=>whnf);refine .inr (.inl ?_);obtain⟨_,Z,h⟩:=AM h;have ae:=Dc Z;refine⟨Hk (f:=D.i) Z,rfl,(Xa0 J),(Xa0 (K.length:Int)-Xa0 J),rfl,(by rw[X1]),?_⟩;refine⟨EW,D.i 0,rfl,Xa5 D.i (Xb7 (Xa0 J) K++Xaa (Xa0 (K.length:Int)-Xa0 J) 0++Xb8 ((Xa0 J)+(Xa0 (K.length:Int)-Xa0 J)) K),Xo,?_⟩;(conv=>whnf);refine .inr (.inr ?_);obtain⟨ag,a6,h⟩:=AM h;refine⟨QB (f:=D.i) a6,EW,_,Ko (f:=D.i) a6,?_⟩;exact Wg (.l (.r .z)) h
  rintro _ h;exact Wg .z h
 rintro _ h;exact Wg (.r .z) h
instance {a0:Int}:CK (Ei a0) 232 [ed a0] [] ed oN:=Wf 0 Tryz.f232 λh=>by unfold Ei at h;exact Wg (.y 9 9 (.k (λv1=>⟨[(2,yb v1)],[]⟩))) h
instance {a0:O r8}:CK (G3 a0) 236 [ed a0] [] ed oN:=Wf 0 Tryz.f236 λh=>by unfold G3 at h;exact Wg (.y 75 75 (.a (.f 8 2 r8.cW (λK H=>⟨[(0,y2 a0),(3,yi H),(8,y2 a0),(9,yi (a0.length:Int)),(10,yi (K:Int))],[]⟩) (λH K F=>.a (.d (λM=>⟨[(5,yr 5 0),(36,yb M)],[(5,yB (r8.av F))]⟩) λM=>.b .z (.a (.f 38 1 D.i (λP _=>⟨[(36,X),(38,AV.d (D.l 1 D.i F.qv)),(39,yi (F.qv.length:Int)),(40,yi (P:Int))],[]⟩) (λ_ P Q=>.g (.k (λJ=>⟨[(65,yb J)],[]⟩)))) (λ_=>⟨[(36,X)],[]⟩))) (λ_=>⟨[(3,yi (AG (H+(F.qv.length:Int))))],[]⟩))) (λv1=>⟨[(3,yi v1)],[]⟩))) h
instance {a0:O S}:CK (Au a0) 149 [ed a0] [] e2 oN:=Wf 0 Tryz.f149 λh=>by unfold Au at h;exact Wg (.y 43 43 (.d (λv1=>⟨[(0,y0 a0),(2,yr 2 0),(14,yb v1)],[(2,yB Addr.zv)]⟩) λv1=>.b .z (.a (.f0 20 1 D.u8 (λF H=>⟨[(0,X),(4,yr 4 0),(14,X),(20,y0 a0),(21,yi (a0.length:Int)),(22,yi (F:Int))],[(4,yB (Addr.av H))]⟩)) (λv2=>⟨[(0,X),(4,yr 4 0),(14,X)],[(4,yB (Addr.av v2))]⟩)))) h
instance D1 {a0:O oF}:CK (Aj a0) 246 [AV.own 0 (Xa5 oF.cW a0).length] [.row 206 2 (Xa5 oF.cW a0) .no] (λr=>AV.own 1 (Xa5 oF.cW r).length) (λr=>[.gone,.row 206 2 (Xa5 oF.cW r) .no]):=Wf 0 Tryz.f246 λh=>by
 refine⟨rfl,?_⟩;unfold Aj at h;refine⟨a0.length,EW,?_⟩;refine Al ?_;refine CY h ?_ ?_<;>intro h
 ·exact Wg (.r .z) h
 refine Ag h (λ_=>⟨yO 0 oF.cW a0::dd 60 ([]),jy a0⟩) ?_ ?_
 ·intro _ h;revert h;refine BO (λv1=>⟨yO 0 oF.cW a0::X::X::yi v1::dd 57 ([]),jy a0⟩) ?_ ?_
  ·exact wk
  rintro _ v1 _ h p2;refine⟨a0.length,EW,?_⟩;refine Al ?_;refine HY h λh=>?_;refine Ag h (λ_=>⟨yO 0 oF.cW a0::X::X::yi v1::dd 57 ([]),jy a0⟩) ?_ ?_
  ·intro _ h;refine .inl (dO ?_);obtain⟨v3,g4,h⟩:=AM h;refine⟨rfl,Dw (f:=oF.cW) g4,?_⟩;refine⟨rfl,oF.cW v3,(FY (f:=oF.cW) g4),?_⟩;refine⟨_,rfl,?_⟩;obtain⟨v5,g6,h⟩:=AM h;refine⟨rfl,Dw (f:=oF.cW) g6,?_⟩;refine⟨rfl,oF.cW v5,(FY (f:=oF.cW) g6),?_⟩;refine cO ?_;refine Al ?_;refine HY h λh=>?_;(conv=>whnf);refine .inr (.inl ?_);obtain⟨_,g7,h⟩:=AM h;have ab:=Dc g7;refine⟨Hk (f:=oF.cW) g7,rfl,(Xa0 v1),(Xa0 (a0.length:Int)-Xa0 v1),rfl,(by rw[X1]),?_⟩;refine Ag h (λ(J,K)=>⟨yO 0 oF.cW K::X::X::yi J::dd 57 ([]),jy K⟩) ?_ ?_
   ·intro _ h;revert h;refine BO (λ(P,M,F)=>⟨yO 0 oF.cW F::X::X::yi P::AV.Fc 0 (Xa0 v1) (Xa0 (a0.length:Int)-Xa0 v1) (Xa5 oF.cW F).length::yi M::dd 55 ([]),jy F⟩) ?_ ?_
    ·exact wk
    rintro _ ⟨P,M,F⟩ _ h af;refine⟨(Xa0 (a0.length:Int)-Xa0 v1),rfl,?_⟩;refine Al ?_;refine HY h λh=>?_;refine Al ?_;refine .inl (dO ?_);obtain⟨a7,Q,h⟩:=AM h;refine⟨EW,KG Q,_,rfl,?_⟩;refine⟨rfl,oF.cW a7,(KP (f:=oF.cW) Q),?_⟩;refine⟨_,rfl,?_⟩;obtain⟨a8,U,h⟩:=AM h;refine⟨EW,KG U,_,rfl,?_⟩;refine⟨rfl,oF.cW a8,(KP (f:=oF.cW) U),?_⟩;refine cO ?_;refine Ag h (λ(V,H)=>⟨yO 0 oF.cW H::X::X::yi V::AV.Fc 0 (Xa0 v1) (Xa0 (a0.length:Int)-Xa0 v1) (Xa5 oF.cW H).length::yi M::dd 55 ([]),jy H⟩) ?_ ?_
    ·intro _ h;refine HY h λh=>?_;obtain⟨aa,Y,h⟩:=AM h;refine⟨EW,KG Y,_,rfl,?_⟩;refine⟨rfl,oF.cW aa,(KP (f:=oF.cW) Y),?_⟩;exact Wg .z h
    rintro⟨V,H⟩ h;exact Wg .z h
   rintro⟨J,K⟩ h;(conv=>whnf);refine .inr (.inl ?_);obtain⟨_,Z,h⟩:=AM h;have ae:=Dc Z;refine⟨Hk (f:=oF.cW) Z,rfl,(Xa0 J),(Xa0 (K.length:Int)-Xa0 J),rfl,(by rw[X1]),?_⟩;refine⟨EW,oF.cW (⟨0,0⟩:oF),rfl,Xa5 oF.cW (Xb7 (Xa0 J) K++Xaa (Xa0 (K.length:Int)-Xa0 J) (⟨0,0⟩:oF)++Xb8 ((Xa0 J)+(Xa0 (K.length:Int)-Xa0 J)) K),Xo,?_⟩;(conv=>whnf);refine .inr (.inr ?_);obtain⟨ag,a6,h⟩:=AM h;refine⟨QB (f:=oF.cW) a6,EW,_,Ko (f:=oF.cW) a6,?_⟩;exact Wg (.l (.r .z)) h
  rintro _ h;exact Wg .z h
 rintro _ h;exact Wg (.r .z) h
instance {a0:Int}:CK (cmp_isNaN_int a0) 155 [ed a0] [] ed oN:=Wf 0 Tryz.f155 λh=>by unfold cmp_isNaN_int at h;exact Wg .z h
instance {a0:Int} {a1:Int}:CK (tS a0 a1) 125 [ed a0,ed a1] [] ed oN:=Wf 0 Tryz.f125 λh=>by unfold tS at h;exact Wg .z h
instance {a0:O Int}:CK (FC a0) 239 [ed a0] [] ed oN:=Wf 0 Tryz.f239 λh=>by unfold FC at h;exact Wg (.y 18 18 (.a (.f0 6 1 D.i (λF _=>⟨[(3,yi 0),(6,y5 a0),(7,yi (a0.length:Int)),(8,yi (F:Int))],[]⟩)) (λ_=>⟨[(3,yi 0)],[]⟩))) h
instance HT {a0:oF}{a1:oF}:CK (BD a0 a1) 238 [ed a0,ed a1] [] ed oN:=Wf 0 Tryz.f238 λh=>by unfold BD at h;exact Wg .z h
instance {a0:O Int}:CK (DU a0) 278 [ed a0] [] ed oN:=Wf 0 Tryz.f278 λh=>by
 refine⟨rfl,?_⟩;unfold DU at h;refine⟨a0.length,X1 _,?_⟩;refine Al ?_;refine CY h ?_ ?_<;>intro h
 ·exact nomatch h
 exact Wg (.y 25 25 (.a (.w0 (u2 λv2 F=>⟨[(0,y5 a0),(3,yi v2),(4,yi F)],[]⟩)) (λv1=>⟨[(3,yi v1)],[]⟩))) h
instance {a0:O Int}:CK (DX a0) 279 [ed a0] [] ed oN:=Wf 0 Tryz.f279 λh=>by
 refine⟨rfl,?_⟩;unfold DX at h;refine⟨a0.length,X1 _,?_⟩;refine Al ?_;refine CY h ?_ ?_<;>intro h
 ·exact nomatch h
 exact Wg (.y 25 25 (.a (.w0 (u2 λv2 F=>⟨[(0,y5 a0),(3,yi v2),(4,yi F)],[]⟩)) (λv1=>⟨[(3,yi v1)],[]⟩))) h
instance {a0:Int} {a1:O Int}:CK (DC a0 a1) 265 [ed a0,ed a1] [] ed oN:=Wf 0 Tryz.f265 λh=>by unfold DC at h;exact Wg (.y 14 14 (.k (λv1=>⟨[(4,yb v1)],[]⟩))) h
instance {a0:oF}:CK (E8 a0) 248 [ed a0] [] ed oN:=Wf 0 Tryz.f248 λh=>by unfold E8 at h;exact Wg (.m .z) h
instance {a0:oF} {a1:oF}:CK (Do a0 a1) 249 [ed a0,ed a1] [] ed oN:=Wf 0 Tryz.f249 λh=>by unfold Do at h;exact Wg .z h
end Go.AX.Q33
end
section
namespace Go.AX
section
variable {P:Program} {E:Env} {w w':B} {S:Sc} {φ:Nat->C (Nat×Rp)} {ob:Nat->C OB}
end
def uO (P : Xdn)(f : Xdy) : Prop := ∃ fn, P.funcs[f]? = some fn ∧ fn.name ≠ "runtime.NumGoroutine" ∧ fn.body.isSome = true
def rO {P : Xdn}{f : Xdy}{fn : Func}(h : P.funcs[f]? = some fn)(F : (fn.name == "runtime.NumGoroutine") = false)(H : fn.body.isSome = true) : uO P f := ⟨fn, h, by simpa using F, H⟩
end Go.AX
end
