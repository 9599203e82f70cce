/-
  Texts of one proof, packed.
-/
import Derived.Test.YtppcmaidcgimpaaGreatDoorU18
import Derived.Test.YtppcmaidcgimpaaGreatDoorU30
import Derived.Test.YtppcmaidcgimpaaGreatDoorU31
import Derived.Test.YtppcmaidcgimpaaGreatDoorU33
import Derived.Test.YtppcmaidcgimpaaGreatDoorU34
import Derived.Test.YtppcmaidcgimpaaGreatDoorU35
set_option linter.all false
set_option maxRecDepth 100000
set_option maxHeartbeats 4000000
open List renaming length_map→X10,length_append→X11,length_drop→X17,length_take→X18,length_replicate→X20,length_set→X21
open Int renaming toNat→Wo
open List renaming map→Xa1,replicate→Xav,take→Xbx,drop→Xc2
open Go.Proofs.Tryz renaming prog→Xa9
section
namespace Go.AX.Q25
open Go Go.AX Go.Proofs
variable {wl:Prop}
instance {M:I gD} {F:Int}:CK (A0 M F) 80 [AV.own 0 (Xa1 gD.fv M).length,AV.fn 81 [.ref 1 0]] [.row 71 18 (Xa1 gD.fv M) .no,.box [.d (D.i F)]] (λr=>AV.own 2 (Xa1 gD.fv r.1).length) (λr=>[.gone,.box [.d (D.i r.2)],.row 71 18 (Xa1 gD.fv r.1) .no]):=Wf 0 Tryz.f80 λh=>by
 refine⟨rfl,?_⟩;unfold A0 at h;(conv=>whnf);refine Ah h (λ_=>DC.ok) ?_;rintro⟨_,_⟩ h;refine vX ?_;refine CN h ?_ ?_<;>intro h
 ·exact Wg (.r .z) h
 refine⟨_,rfl,?_⟩;refine Ap h (λ(v1,v2,V)=>⟨yO 0 gD.fv v2::dd 4 (yi v1::dd 36 ([])),yR 71 18 gD.fv v2::CA V::nn 42 ([])⟩) ?_ ?_
 ·intro _ h;exact Wg (.y 42 44 (.w (u4 λY Z P v7=>⟨[(0,yO 0 gD.fv P),(1,AV.fn 81 [yr 1 0]),(5,yi Y),(6,yi Z)],[(0,yR 71 18 gD.fv P),(1,CA v7)]⟩) (u4 λY Z P v7=>.b (.v λv9=>.v λ_=>.v λQ=>.k (u2 λU H=>⟨[(0,yO 0 gD.fv H),(5,yi U)],[(0,yR 71 18 gD.fv H),(1,CA Q)]⟩)) .z))) h
 rintro⟨v1,v2,V⟩ h;(conv=>whnf);refine .inr (.inl ?_);obtain⟨_,J,h⟩:=AY h;have a1:=G0 J;refine⟨Oc (f:=gD.fv) J,rfl,(Wo v1),(Wo (v2.length:Int)-Wo v1),rfl,(by rw[X10]),?_⟩;refine⟨JZ,gD.fv (⟨(⟨(⟨(⟨false,(0:j),(0:j)⟩:Addr),0⟩:fI),0,(⟨0,[],(⟨false,(0:j),(0:j)⟩:Addr),0,0,0,[],[],[]⟩:gE)⟩:oA),0,false⟩:gD),rfl,Xa1 gD.fv (Xbx (Wo v1) v2++Xav (Wo (v2.length:Int)-Wo v1) (⟨(⟨(⟨(⟨false,(0:j),(0:j)⟩:Addr),0⟩:fI),0,(⟨0,[],(⟨false,(0:j),(0:j)⟩:Addr),0,0,0,[],[],[]⟩:gE)⟩:oA),0,false⟩:gD)++Xc2 ((Wo v1)+(Wo (v2.length:Int)-Wo v1)) v2),YY,?_⟩;(conv=>whnf);refine .inr (.inr ?_);obtain⟨a6,K,h⟩:=AY h;refine⟨cJ (f:=gD.fv) K,JZ,_,Sj (f:=gD.fv) K,?_⟩;exact Wg (.l (.r .z)) h
instance Us {F:ls}{H:Int}:CK (I6 F H) 35 [ed F,ed H] [] ed oN:=Wf 0 Tryz.f35 λh=>by unfold I6 at h;exact Wg (.n [7] (.n [11] .z)) h
def xt {a0:I Int}{F:Int}{r:C}(h:FC a0 F=some r):Ao (Wl True) Xa9 6 [AV.d (D.l 1 D.i a0),AV.d (D.i F)] [] (.d (D.b r)) []:=by
 refine oK Tryz.f6 ⟨rfl,?_⟩;unfold FC at h;(conv=>whnf);refine NC [24] h (λ_=>KQ.ok) λ_ h=>?_;refine Ah h (λ_=>Gy.ok) ?_;rintro⟨v1,_,_⟩ h;refine vX ?_;refine CN h ?_ ?_<;>intro h
 ·refine Ah h (λ_=>C5) λ_ h=>?_;exact fin h
 refine Ah h (λ_=>Vs.ok) λv2 h=>?_;refine Ah h (λ_=>WY.ok) ?_;rintro⟨Y,_⟩ h;refine vX ?_;refine CN h ?_ ?_<;>intro h
 ·exact fin h
 refine⟨v2.gD.length,X10 _,?_⟩;refine Ap h (λ_=>⟨X::yi F::dd 4 (yr 6 0::yr 7 0::yr 8 0::dd 164 ([])),kJ v1 v2 Y⟩) ?_ ?_
 ·intro _ h;revert h;refine Bi 44 18 gD.fv rfl (λZ _=>⟨X::yi F::dd 4 (yr 6 0::yr 7 0::yr 8 0::dd 35 (AV.d (D.l 18 gD.fv v2.gD)::yi (v2.gD.length:Int)::yi (Z:Int)::dd 126 ([]))),kJ v1 v2 Y⟩) ?_ ?_ ?_
  ·exact wk
  ·rintro _ K5 h;refine vX ?_;refine M8 Tv ?_;exact vu h
  rintro _ Z x6 _ K5 b4 c4 e4 h p7;refine vX ?_;refine Ea (IC b4) ?_;refine vX ?_;refine⟨D6 (f:=gD.fv) b4,gD.fv x6,c4,rfl,?_⟩;refine Ah h (λ_=>Ja.ok) ?_;rintro⟨_,_⟩ h;refine Ap h (λv8=>⟨X::yi F::dd 4 (yr 6 0::yr 7 0::yr 8 0::dd 35 (AV.d (D.l 18 gD.fv v2.gD)::yi (v2.gD.length:Int)::yi (Z:Int)::dd 25 (yb v8::dd 100 ([])))),kJ v1 v2 Y⟩) ?_ ?_
  ·intro _ h;refine Jx h λh=>?_;refine Jx h λh=>?_;refine Ah h (λ_=>Dw.ok) λ_ h=>?_;exact vu h
  rintro v8 h;refine vX ?_;refine CN h ?_ ?_<;>intro h
  ·exact fin h
  refine⟨_,e4,?_⟩;exact p7 _ _ wk h
 rintro _ h;refine Ah h (λ_=>Nu.ok) ?_;rintro⟨_,_⟩ h;refine vX ?_;refine CN h ?_ ?_<;>intro h
 ·exact fin h
 refine⟨v2.gD.length,X10 _,?_⟩;refine Ap h (λv9=>⟨X::yi F::dd 5 (yr 7 0::yr 8 0::dd 164 ([])),nn 7 (yB (ls.av v2)::yB (ls.av v9)::nn 164 ([]))⟩) ?_ ?_
 ·intro _ h;revert h;refine Bi 82 18 gD.fv rfl (λH J=>⟨X::yi F::dd 4 (yr 6 0::yr 7 0::yr 8 0::dd 73 (AV.d (D.l 18 gD.fv v2.gD)::yi (v2.gD.length:Int)::yi (H:Int)::dd 88 ([]))),kJ v1 v2 J⟩) ?_ ?_ ?_
  ·exact wk
  ·rintro J a6 h;refine vX ?_;refine M8 Tv ?_;exact vu h
  rintro _ H a7 J a6 yK a8 aa h ab;refine vX ?_;refine Ea (IC yK) ?_;refine vX ?_;refine⟨D6 (f:=gD.fv) yK,gD.fv a7,a8,rfl,?_⟩;refine⟨by decide,_,rfl,?_⟩;refine⟨_,LW _,?_⟩;refine⟨Xc4 _,_,rfl,?_⟩;refine⟨_,rfl,?_⟩;refine Ap h (λP=>⟨X::yi F::dd 4 (yr 6 0::yr 7 0::yr 8 0::dd 73 (AV.d (D.l 18 gD.fv v2.gD)::yi (v2.gD.length:Int)::yi (H:Int)::dd 88 ([]))),kJ v1 v2 P⟩) ?_ ?_
  ·intro _ h;refine G9 h λh=>?_;refine⟨rfl,?_⟩;refine Ah h (λ_=>Ei) ?_;rintro⟨_,_⟩ h;refine vX ?_;refine G9 h λh=>?_;exact fin h
  rintro P h;refine⟨_,aa,?_⟩;exact ab _ _ wk h
 rintro v9 h;refine Ah h (λ_=>Us.ok) λK h=>?_;refine Ap h (λQ=>⟨X::yi F::dd 5 (yr 7 0::yr 8 0::dd 114 (yb Q::dd 49 ([]))),nn 7 (yB (ls.av v2)::yB (ls.av K)::nn 164 ([]))⟩) ?_ ?_
 ·intro _ h;exact zZ h
 rintro Q h;refine vX ?_;refine CN h ?_ ?_<;>intro h
 ·exact fin h
 refine⟨v2.gD.length,X10 _,?_⟩;refine Ap h (λ_=>⟨dd 173 ([]),nn 173 ([])⟩) ?_ ?_
 ·intro _ h;revert h;refine Bi 125 18 gD.fv rfl (λM _=>⟨X::yi F::dd 6 (yr 8 0::dd 116 (AV.d (D.l 18 gD.fv v2.gD)::yi (v2.gD.length:Int)::yi (M:Int)::dd 45 ([]))),nn 8 (yB (ls.av K)::nn 164 ([]))⟩) ?_ ?_ ?_
  ·exact wk
  ·rintro _ ae h;refine vX ?_;refine M8 Tv ?_;exact vu h
  rintro _ M af _ ae U ag ah h ai;refine vX ?_;refine Ea (IC U) ?_;refine vX ?_;refine⟨D6 (f:=gD.fv) U,gD.fv af,ag,rfl,?_⟩;refine Ah h (λ_=>Ja.ok) ?_;rintro⟨_,_⟩ h;refine⟨by decide,_,rfl,?_⟩;refine⟨_,LW _,?_⟩;refine⟨Xc4 _,_,rfl,?_⟩;refine⟨_,rfl,?_⟩;refine Ap h (λV=>⟨X::yi F::dd 6 (yr 8 0::dd 116 (AV.d (D.l 18 gD.fv v2.gD)::yi (v2.gD.length:Int)::yi (M:Int)::dd 43 (yb V::X::[]))),nn 8 (yB (ls.av K)::nn 164 ([]))⟩) ?_ ?_
  ·intro _ h;refine Jx h λh=>?_;refine G9 h λh=>?_;refine Jx h λh=>?_;refine Jx h λh=>?_;refine Ah h (λ_=>Dw.ok) λ_ h=>?_;exact vu h
  rintro V h;refine vX ?_;refine CN h ?_ ?_<;>intro h
  ·exact fin h
  refine⟨_,ah,?_⟩;exact ai _ _ wk h
 rintro _ h;exact fin h
end Go.AX.Q25
end
