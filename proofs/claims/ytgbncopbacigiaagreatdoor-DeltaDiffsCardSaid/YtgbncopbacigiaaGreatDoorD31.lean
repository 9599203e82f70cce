/-
  Texts of one proof, packed.
-/
import Derived.Test.YtgbncopbacigiaaGreatDoorD17
import Derived.Test.YtgbncopbacigiaaGreatDoorD27
import Derived.Test.YtgbncopbacigiaaGreatDoorD29
import Derived.Test.YtgbncopbacigiaaGreatDoorD30
set_option linter.all false
set_option maxRecDepth 100000
set_option maxHeartbeats 4000000
open List renaming length_map→X10,length_append→X11,length_drop→X17,length_take→X18,length_replicate→X20,length_set→X21
open List renaming map→Wr
section
namespace Go.AX.Q29
open Go Go.AX Go.Proofs
variable {wl:Prop}
instance {F:re} {H:Int}:CK (P2 F H) 65 [ed F,ed H] [] ed oN:=.mk λh=>by cases h
instance {F:re}:CK (Jl F) 36 [ed F] [] e2 oN:=Wf 0 Tryz.f36 λh=>by unfold Jl at h;exact Wg (.b .z (.v λ(v1:re)=>.y 32 32 (.a (.f0 15 7 r5.cW (λJ H=>⟨[(1,yr 1 0),(2,yr 2 0),(4,yr 4 0),(15,AV.d (D.l 7 r5.cW F.fI)),(16,yi (F.fI.length:Int)),(17,yi (J:Int))],[(1,yB (re.av F)),(2,yB sM.zv),(4,yB [AV.d (D.i v1.mu.sK),AV.d (D.l 4 fv.cW v1.mu.rU),AV.d (D.i v1.mu.sq),AV.d (D.i v1.mu.rj),AV.d (D.i v1.mu.sl),AV.d (D.i v1.mu.ri),AV.d (D.i v1.mu.rR),AV.d (D.i v1.mu.rS),AV.d (D.l 4 fv.cW v1.mu.r7),AV.d (D.l 2 s8.cW v1.mu.oE),AV.d (D.l 1 D.i v1.mu.rI),AV.d (D.i v1.mu.rV),AV.d (D.l 3 Set.cW v1.mu.ry.oT),AV.d (D.l 6 oB.cW v1.mu.ry.n5),AV.d (D.l 6 oB.cW v1.mu.n9),AV.d (D.l 7 r5.cW v1.fI),AV.d (D.l 8 pk.cW v1.o3),AV.own 28 (Wr (D.l 16 gD.cW) H).length]),(28,some (OB.row 43 1 (Wr (D.l 16 gD.cW) H) .no))]⟩)) (λv2=>⟨[(2,yr 2 0),(4,yr 4 0)],[(2,yB sM.zv),(4,yB [AV.d (D.i v1.mu.sK),AV.d (D.l 4 fv.cW v1.mu.rU),AV.d (D.i v1.mu.sq),AV.d (D.i v1.mu.rj),AV.d (D.i v1.mu.sl),AV.d (D.i v1.mu.ri),AV.d (D.i v1.mu.rR),AV.d (D.i v1.mu.rS),AV.d (D.l 4 fv.cW v1.mu.r7),AV.d (D.l 2 s8.cW v1.mu.oE),AV.d (D.l 1 D.i v1.mu.rI),AV.d (D.i v1.mu.rV),AV.d (D.l 3 Set.cW v1.mu.ry.oT),AV.d (D.l 6 oB.cW v1.mu.ry.n5),AV.d (D.l 6 oB.cW v1.mu.n9),AV.d (D.l 7 r5.cW v1.fI),AV.d (D.l 8 pk.cW v1.o3),AV.own 28 (Wr (D.l 16 gD.cW) v2).length]),(28,some (OB.row 43 1 (Wr (D.l 16 gD.cW) v2) .no))]⟩)))) h
instance:CK (H6) 13 [] [] ed oN:=Wf 0 Tryz.f13 λh=>by unfold H6 at h;exact Wg (.y 49 49 (.k (λF=>⟨[(0,yb F)],[]⟩))) h
instance tD {Z:O Int}{J:Int}:CK (Ea Z J) 3 [ed Z,ed J] [] ed oN:=Wf 0 Tryz.f3 λh=>by
 refine⟨rfl,?_⟩;unfold Ea at h;(conv=>whnf);refine QL [19] h (λ_=>VT.ok) λ_ h=>?_;refine B1 h (λ_=>Hj.ok) ?_;rintro⟨v1,_,_,_⟩ h;refine B1 h (λ_=>Hj.ok) ?_;rintro⟨v2,_,_,_⟩ h;refine⟨v1.rQ.length,X10 _,?_⟩;refine Ar h (λ_=>⟨dd 92 ([]),nn 92 ([])⟩) ?_ ?_
 ·intro _ h;revert h;refine By 33 1 (D.l 16 gD.cW) rfl (λH P=>⟨X::yi J::X::X::X::yr 19 0::yr 6 0::X::X::yr 9 0::dd 23 (AV.d (D.l 1 (D.l 16 gD.cW) v1.rQ)::yi (v1.rQ.length:Int)::yi (H:Int)::dd 56 ([])),xP v1 v2 P⟩) ?_ ?_ ?_
  ·exact wk
  ·rintro P K5 h;exact Wg (.e .z) h
  rintro _ H x6 P K5 b3 c3 e3 h p7;refine sI ?_;refine GH (JV b3) ?_;refine Ar h (λv8=>⟨X::yi J::X::X::X::yr 19 0::yr 6 0::X::X::yr 9 0::dd 23 (AV.d (D.l 1 (D.l 16 gD.cW) v1.rQ)::yi (v1.rQ.length:Int)::yi (H:Int)::dd 56 ([])),xP v1 v2 v8⟩) ?_ ?_
  ·intro _ h;refine⟨v2.rQ.length,X10 _,?_⟩;refine Ar h (λv9=>⟨X::yi J::X::X::X::yr 19 0::yr 6 0::X::X::yr 9 0::dd 23 (AV.d (D.l 1 (D.l 16 gD.cW) v1.rQ)::yi (v1.rQ.length:Int)::yi (H:Int)::dd 56 ([])),xP v1 v2 v9⟩) ?_ ?_
   ·intro _ h;revert h;refine By 39 1 (D.l 16 gD.cW) rfl (λK F=>⟨X::yi J::X::X::X::yr 19 0::yr 6 0::X::X::yr 9 0::X::X::yi (H:Int)::dd 20 (AV.d (D.l 1 (D.l 16 gD.cW) v1.rQ)::yi (v1.rQ.length:Int)::yi (H:Int)::X::X::X::AV.d (D.l 1 (D.l 16 gD.cW) v2.rQ)::yi (v2.rQ.length:Int)::yi (K:Int)::dd 50 ([])),xP v1 v2 F⟩) ?_ ?_ ?_
    ·exact wk
    ·rintro F Q h;exact Wg (.e .z) h
    rintro _ K M F Q vq U a6 h a7;refine sI ?_;refine GH (JV vq) ?_;refine sI ?_;refine .inl (dO ?_);refine⟨Eo (f:=(D.l 16 gD.cW)) b3,(D.l 16 gD.cW) x6,c3,rfl,?_⟩;refine⟨Eo (f:=(D.l 16 gD.cW)) vq,(D.l 16 gD.cW) M,U,rfl,?_⟩;exact Wg (.v λV=>.y 92 92 (.k (λY=>⟨[(1,yi J),(5,yr 19 0),(6,yr 6 0),(9,yr 9 0),(12,yi (H:Int)),(15,y6 M),(16,vh V),(33,AV.d (D.l 1 (D.l 16 gD.cW) v1.rQ)),(34,yi (v1.rQ.length:Int)),(35,yi (H:Int)),(39,AV.d (D.l 1 (D.l 16 gD.cW) v2.rQ)),(40,yi (v2.rQ.length:Int)),(41,yi (K:Int)),(74,yb Y)],[(6,yB (sM.av v1)),(9,yB (sM.av v2)),(19,yB (oX.av F))]⟩))) h
   rintro v9 h;exact sj h
  rintro v8 h;exact Wg .z h
 rintro _ h;exact Wg .z h
end Go.AX.Q29
end
