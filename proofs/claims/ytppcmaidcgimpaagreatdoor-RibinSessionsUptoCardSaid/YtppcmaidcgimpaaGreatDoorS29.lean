/-
  Texts of one proof, packed.
-/
import Derived.Test.YtppcmaidcgimpaaGreatDoorS18
import Derived.Test.YtppcmaidcgimpaaGreatDoorS26
import Derived.Test.YtppcmaidcgimpaaGreatDoorS27
import Derived.Test.YtppcmaidcgimpaaGreatDoorS28
set_option linter.all false
set_option maxRecDepth 100000
set_option maxHeartbeats 4000000
open List renaming length_map→X6,length_append→X10,length_drop→X16,length_take→X17,length_replicate→X19,length_set→X20
open Nat renaming le_of_ble_eq_true→X28
open Int renaming toNat→Xi
open List renaming map→Xj,take→Xbg,drop→Xbh
open Go.Proofs.Tryz renaming prog→Xai
open And renaming intro→Xan
section
namespace Go.AX.Q25
open Go Go.AX Go.Proofs
variable {wl:Prop}
def Ky {J:qI}{K:iA}{H:qC}{r:iA×Int}(h:Ij J K H=some r):A0 (Wl True) Xai 15 [AV.d (qI.fv J),AV.d (iA.fv K),AV.d (qC.fv H)] [] (.qT [.d (iA.fv r.1),.d (D.i r.2)]) []:=by
 refine oK Tryz.f15 ⟨rfl,?_⟩;unfold Ij at h;(conv=>whnf);refine A8 h (λv1=>⟨X::X::X::yr 3 0::yr 4 0::yr 5 0::yr 6 0::dd 24 (yb v1::dd 79 ([])),N::N::N::yB (qI.av J)::yB (iA.av K)::yB (qC.av H)::yB iA.zv::nn 104 ([])⟩) ?_ ?_
 ·intro _ h;refine A7 h (λ_=>QT.ok) λ_ h=>?_;refine bL h λh=>?_;refine A7 h (λ_=>SG.ok) λ_ h=>?_;refine bL h λh=>?_;refine A7 h (λ_=>QD.ok) λ_ h=>?_;exact r6 h
 rintro v1 h;refine rf ?_;refine EQ h ?_ ?_<;>intro h
 ·exact fin h
 refine rf ?_;refine EQ h ?_ ?_<;>intro h
 ·exact fin h
 refine UV [38] h (λ_=>U1.ok) λF h=>?_;refine⟨H.mu.length,X6 _,?_⟩;refine A8 h (λv3=>⟨X::X::X::yr 3 0::yr 4 0::yr 5 0::yr 6 0::X::yr 8 0::dd 102 ([]),vZ v3 F.kI.ql F.kI.Set F.kI.qh F.kI.qg F.Up F.oT F.kI.oE J K H⟩) ?_ ?_
 ·intro _ h;revert h;refine EF 40 4 fI.fv rfl (λZ v5=>⟨my (H.mu.length:Int) (Z:Int) H.mu,vZ v5 F.kI.ql F.kI.Set F.kI.qh F.kI.qg F.Up F.oT F.kI.oE J K H⟩) ?_ ?_ ?_
  ·exact wk
  ·rintro v5 K6 h;refine rf ?_;refine ZU kL ?_;exact r6 h
  rintro _ Z x7 v5 K6 b4 c4 e4 h p8;refine rf ?_;refine IB (NM b4) ?_;refine rf ?_;refine⟨GO (f:=fI.fv) b4,fI.fv x7,c4,rfl,?_⟩;refine⟨rfl,?_⟩;refine Y9 h (λ_=>MO.ok) ?_;rintro⟨_,_⟩ h;refine A8 h (λv9=>⟨my (H.mu.length:Int) (Z:Int) H.mu,N::N::N::yB (qI.av J)::yB (iA.av K)::yB (qC.av H)::yB iA.zv::N::yB [AV.d (D.i F.kI.ql),AV.d (D.s F.kI.Set),AV.d (D.i F.kI.qh),AV.d (D.i F.kI.qg),AV.d (D.l 3 Addr.fv F.kI.oE),AV.d (D.b F.Up),yO 59 fT.fv v9,AV.d (D.i F.oT)]::nn 50 (yR 71 18 fT.fv v9::nn 51 ([]))⟩) ?_ ?_
  ·intro _ h;refine EQ h ?_ ?_<;>intro h
   ·refine⟨_,rfl,?_⟩;obtain⟨ai,a6,h⟩:=Aa h;refine⟨_,_,some [59],W5 (f:=fT.fv) a6,?_⟩;exact r6 h
   exact E6 (.swap 38 59 rfl rfl rfl wk) h
  rintro v9 h;refine⟨_,e4,?_⟩;exact p8 _ _ (.swap 59 38 rfl rfl rfl wk) h
 rintro v3 h;refine⟨H.gO.length,X6 _,?_⟩;refine A8 h (λM=>⟨dd 6 (yr 6 0::X::yr 8 0::dd 102 ([])),nn 6 (yB iA.zv::N::wN M F.kI.ql F.kI.Set F.kI.qh F.kI.qg F.Up F.oT F.kI.oE::nn 29 (yR 71 18 fT.fv M::nn 72 ([])))⟩) ?_ ?_
 ·intro _ h;revert h;refine EF 63 4 fI.fv rfl (λP Q=>⟨wO (H.gO.length:Int) (P:Int) H.gO,vZ Q F.kI.ql F.kI.Set F.kI.qh F.kI.qg F.Up F.oT F.kI.oE J K H⟩) ?_ ?_ ?_
  ·exact wk
  ·rintro Q a7 h;refine rf ?_;refine ZU kL ?_;exact r6 h
  rintro _ P a8 Q a7 ul aa ab h ae;refine rf ?_;refine IB (NM ul) ?_;refine rf ?_;refine⟨GO (f:=fI.fv) ul,fI.fv a8,aa,rfl,?_⟩;refine .inl (dO ?_);refine DZ h (λ_=>SN.ok) (λ_=>rfl) λ_ h=>?_;refine cO ?_;refine .inl (dO ?_);refine DZ h (λ_=>QS) (λ_=>rfl) λ_ h=>?_;refine cO ?_;refine⟨rfl,?_⟩;refine Y9 h (λ_=>MO.ok) ?_;rintro⟨_,_⟩ h;refine A8 h (λU=>⟨wO (H.gO.length:Int) (P:Int) H.gO,vZ U F.kI.ql F.kI.Set F.kI.qh F.kI.qg F.Up F.oT F.kI.oE J K H⟩) ?_ ?_
  ·intro _ h;refine EQ h ?_ ?_<;>intro h
   ·obtain⟨af,V,h⟩:=Aa h;refine⟨rfl,ND (f:=fT.fv) V,?_⟩;obtain⟨aj,Y,h⟩:=Aa h;have ah:=XQ Y;refine⟨rfl,rfl,fT.fv af,(Kw (f:=fT.fv) V),?_⟩;refine⟨_,gp (f:=fT.fv) Y,?_⟩;exact r6 h
   obtain⟨ak,ag,h⟩:=Aa h;refine⟨_,_,some [],WM (f:=fT.fv) ag,?_⟩;exact r6 h
  rintro U h;refine⟨_,ab,?_⟩;exact ae _ _ wk h
 rintro M h;refine⟨rfl,?_⟩;refine Y9 h (λ_=>Td.ok) λ_ h=>?_;refine rf ?_;refine EQ h ?_ ?_<;>intro h
 ·exact fin h
 refine⟨rfl,?_⟩;refine A7 h (λ_=>Oq.ok) λ_ h=>?_;exact fin h
instance VL {F:kI}:CK (O1 F) 30 [ed F] [] ed oN:=Wf 0 Tryz.f30 λh=>by unfold O1 at h;exact Wg .z h
instance LC {F:iA}:CK (FU F) 34 [ed F] [] e2 oN:=Wf 0 Tryz.f34 λh=>by unfold FU at h;exact Wg (.b .z (.b .z (.n [13] .z))) h
def Ks {r:C}(h:G1=some r):A0 (Wl True) Xai 10 [] [] (.d (D.b r)) []:=by
 refine oK Tryz.f10 ⟨rfl,?_⟩;unfold G1 at h;(conv=>whnf);refine A7 h (λ_=>VL.ok) λ_ h=>?_;refine A7 h (λ_=>LC.ok) ?_;rintro⟨_,_⟩ h;(conv=>whnf);refine .inl ?_;refine⟨rfl,?_⟩;refine⟨rfl,?_⟩;refine⟨rfl,?_⟩;refine A7 h (λ_=>Ky) ?_;rintro⟨H,_⟩ h;refine⟨rfl,?_⟩;refine vS (f:=fI.fv) h rfl λ_ h=>?_;refine⟨rfl,?_⟩;refine⟨rfl,?_⟩;refine A7 h (λ_=>Ky) ?_;rintro⟨_,_⟩ h;refine A8 h (λF=>⟨yb F::dd 69 ([]),nn 70 ([])⟩) ?_ ?_
 ·intro _ h;refine LL h λh=>?_;refine LL h λh=>?_;refine LL h λh=>?_;refine⟨H.fT.length,X6 _,?_⟩;refine LL h λh=>?_;(conv=>whnf);refine I8 h (λ_=>rfl) λ_ h=>?_;exact r6 h
 rintro F h;exact fin h
instance Wa {F:I Int}:CK (NZ F) 11 [ed F] [] (λr=>.ref 0 0) (λr=>[.box (px.av r)]):=Wf 0 Tryz.f11 λh=>by unfold NZ at h;exact Wg .z h
instance FV {F:Int}{H:Int}:CK (Ej F H) 37 [ed F,ed H] [] ed oN:=Wf 0 Tryz.f37 λh=>by unfold Ej at h;exact Wg (.y 15 15 (.k (λJ=>⟨[(5,yi J)],[]⟩))) h
instance Bo {F:px}{H:Int}:CK (AG F H) 43 [.ref 0 0,ed H] [.box (px.av F)] (λr=>.d (D.i r.1)) (λr=>[.box (px.av r.2)]):=Wf 0 Tryz.f43 λh=>by unfold AG at h;exact Wg .z h
instance {F:Int}:CK (FG F) 78 [ed F] [] ed oN:=Wf 0 Tryz.f78 λh=>by unfold FG at h;exact Wg .z h
instance {H:px}:CK (B6 H) 27 [.ref 0 0] [.box (px.av H)] (λr=>.d (fI.fv r.1)) (λr=>[.box (px.av r.2)]):=Wf 0 Tryz.f27 λh=>by unfold B6 at h;exact Wg (.v λ_=>.v λ_=>.v λ(F:fI)=>.v λ_=>.v λJ=>.g (.y 33 34 (.a (.b (.k (λK=>⟨[(2,yr 3 0),(3,yr 4 0)],[(0,yB (px.av J)),(3,yB fI.zv),(4,yB [AV.d (D.b F.Addr.V6),AV.d (D.u64 F.Addr.Hi),AV.d (D.u64 F.Addr.Lo),yi K])]⟩)) (.a (.b (.k (λM=>⟨[(0,yr 0 0),(2,yr 3 0),(3,yr 4 0)],[(0,yB (px.av J)),(3,yB fI.zv),(4,yB [AV.d (D.b F.Addr.V6),AV.d (D.u64 F.Addr.Hi),AV.d (D.u64 F.Addr.Lo),yi M])]⟩)) .z) (u2 λP Q=>⟨[(2,yr 3 0),(3,yr 4 0)],[(0,yB (px.av P)),(3,yB fI.zv),(4,yB (fI.av Q))]⟩))) (u2 λU V=>⟨[(2,yr 3 0),(3,yr 4 0)],[(0,yB (px.av U)),(3,yB fI.zv),(4,yB (fI.av V))]⟩)))) h
instance Kv:CK (DU) 46 [] [] ed oN:=Wf 0 Tryz.f46 λh=>by unfold DU at h;exact Wg .z h
instance VI {F:Int}{H:C}:CK (Eo F H) 87 [ed F,ed H] [] ed oN:=Wf 0 Tryz.f87 λh=>by unfold Eo at h;exact Wg .z h
instance I2 {M:px}:CK (B0 M) 164 [.ref 0 0] [.box (px.av M)] (λr=>.d (D.l 2 oF.fv r.1)) (λr=>[.box (px.av r.2)]):=Wf 0 Tryz.f164 λh=>by unfold B0 at h;exact Wg (.v λV=>.v λ_=>.y 48 49 (.a (.o 17 125 2 oF.fv (λP=>u2 λQ K=>⟨[(0,yr 0 0),(4,yO 5 oF.fv K),(5,yi V),(19,yO 17 oF.fv ([(⟨0,99⟩:oF),(⟨0,101⟩:oF),(⟨0,102⟩:oF),(⟨99,101⟩:oF),(⟨99,103⟩:oF),(⟨500,1⟩:oF),(⟨65535,666⟩:oF),(⟨65535,65282⟩:oF)]:I oF)),(20,yi (([(⟨0,99⟩:oF),(⟨0,101⟩:oF),(⟨0,102⟩:oF),(⟨99,101⟩:oF),(⟨99,103⟩:oF),(⟨500,1⟩:oF),(⟨65535,666⟩:oF),(⟨65535,65282⟩:oF)]:I oF).length:Int)),(21,yi (P:Int))],[(0,yB (px.av Q)),(5,yR 125 2 oF.fv K),(17,yR 125 2 oF.fv ([(⟨0,99⟩:oF),(⟨0,101⟩:oF),(⟨0,102⟩:oF),(⟨99,101⟩:oF),(⟨99,103⟩:oF),(⟨500,1⟩:oF),(⟨65535,666⟩:oF),(⟨65535,65282⟩:oF)]:I oF))]⟩) (u2 λQ K P Y=>.g (.d (u2 λF H=>⟨[(7,yr 8 0),(41,yb F)],[(0,yB (px.av H)),(8,yB (oF.av Y))]⟩) (u2 λF H=>.k (λJ=>⟨[(4,yO 5 oF.fv J),(7,X),(41,X)],[(5,yR 125 2 oF.fv J),(8,N)]⟩))))) (u2 λZ U=>⟨[(4,yO 5 oF.fv U)],[(0,yB (px.av Z)),(5,yR 125 2 oF.fv U)]⟩))) h
instance NE {H:px}:CK (EG H) 165 [.ref 0 0] [.box (px.av H)] (λr=>.d (D.l 3 ls.fv r.1)) (λr=>[.box (px.av r.2)]):=Wf 0 Tryz.f165 λh=>by unfold EG at h;exact Wg (.v λQ=>.v λJ=>.y 38 39 (.a (.o 16 127 3 ls.fv (λK F=>⟨[(4,yO 5 ls.fv F),(5,yi Q),(18,yO 16 ls.fv ([(⟨5,5,5⟩:ls),(⟨99,0,0⟩:ls),(⟨99,0,103⟩:ls),(⟨99,1,102⟩:ls),(⟨99,101,0⟩:ls),(⟨99,102,104⟩:ls),(⟨99,103,101⟩:ls)]:I ls)),(19,yi (([(⟨5,5,5⟩:ls),(⟨99,0,0⟩:ls),(⟨99,0,103⟩:ls),(⟨99,1,102⟩:ls),(⟨99,101,0⟩:ls),(⟨99,102,104⟩:ls),(⟨99,103,101⟩:ls)]:I ls).length:Int)),(20,yi (K:Int))],[(0,yB (px.av J)),(5,yR 127 3 ls.fv F),(16,yR 127 3 ls.fv ([(⟨5,5,5⟩:ls),(⟨99,0,0⟩:ls),(⟨99,0,103⟩:ls),(⟨99,1,102⟩:ls),(⟨99,101,0⟩:ls),(⟨99,102,104⟩:ls),(⟨99,103,101⟩:ls)]:I ls))]⟩) (λF K U=>.g (.k (λM=>⟨[(4,yO 5 ls.fv M)],[(5,yR 127 3 ls.fv M)]⟩)))) (λP=>⟨[(4,yO 5 ls.fv P)],[(0,yB (px.av J)),(5,yR 127 3 ls.fv P)]⟩))) h
instance {a0:px} {a1:Int} {V:C}:CK (EJ a0 a1 V) 88 [.ref 0 0,ed a1,ed V] [.box (px.av a0)] (λr=>.d (gE.fv r.1)) (λr=>[.box (px.av r.2)]):=Wf 0 Tryz.f88 λh=>by
 refine⟨rfl,?_⟩;unfold EJ at h;(conv=>whnf);refine A7 h (λ_=>Kv.ok) λF h=>?_;refine A7 h (λ_=>Bo.ok) ?_;rintro⟨Q,_⟩ h;refine A7 h (λ_=>Bo.ok) ?_;rintro⟨_,_⟩ h;refine A8 h (λ(v3,U)=>⟨yr 0 0::yi a1::yb V::X::X::X::yr 7 0::yr 8 0::yO 16 D.i U::dd 117 ([]),yB (px.av v3)::nn 6 (yB gE.zv::yB [yi Q,AV.d (D.l 2 oA.fv F.Path),AV.d (D.b F.Next.V6),AV.d (D.u64 F.Next.Hi),AV.d (D.u64 F.Next.Lo),AV.d (D.i F.qW),AV.d (D.i F.qd),AV.d (D.i F.qz),AV.d (D.l 2 oF.fv F.cW),AV.d (D.l 3 ls.fv F.ls),AV.d (D.l 3 gF.fv F.gS)]::nn 7 (yR 3 1 D.i U::nn 110 ([])))⟩) ?_ ?_
 ·intro _ h;exact Wg (.y 126 127 (.w0 (u3 λv5 v6 v7=>⟨[(0,yr 0 0),(1,yi a1),(2,yb V),(6,yr 7 0),(7,yr 8 0),(8,yO 16 D.i v7),(9,yi v5)],[(0,yB (px.av v6)),(7,yB gE.zv),(8,yB [yi Q,AV.d (D.l 2 oA.fv F.Path),AV.d (D.b F.Next.V6),AV.d (D.u64 F.Next.Hi),AV.d (D.u64 F.Next.Lo),AV.d (D.i F.qW),AV.d (D.i F.qd),AV.d (D.i F.qz),AV.d (D.l 2 oF.fv F.cW),AV.d (D.l 3 ls.fv F.ls),AV.d (D.l 3 gF.fv F.gS)]),(16,yR 3 1 D.i v7)]⟩))) h
 rintro⟨v3,U⟩ h;(conv=>whnf);refine .inr (.inl ?_);refine A7 h (λ_=>VI.ok) λH h=>?_;refine A7 h (λ_=>Bo.ok) ?_;rintro⟨_,_⟩ h;refine A8 h (λ(Y,J)=>⟨yr 0 0::X::yb V::X::X::X::yr 7 0::yr 8 0::dd 118 ([]),yB (px.av Y)::nn 6 (yB gE.zv::yB [yi Q,AV.own 34 1,AV.d (D.b H.V6),AV.d (D.u64 H.Hi),AV.d (D.u64 H.Lo),yi J,AV.d (D.i F.qd),AV.d (D.i F.qz),AV.d (D.l 2 oF.fv F.cW),AV.d (D.l 3 ls.fv F.ls),AV.d (D.l 3 gF.fv F.gS)]::nn 7 (yR 3 1 D.i U::nn 17 (yB [yb false,yO 16 D.i U]::nn 92 ([]))))⟩) ?_ ?_
 ·intro _ h;exact Wg .z h
 rintro⟨Y,J⟩ h;refine A7 h (λ_=>Bo.ok) ?_;rintro⟨_,_⟩ h;refine A8 h (λ(Z,K)=>⟨yr 0 0::X::yb V::X::X::X::yr 7 0::yr 8 0::dd 118 ([]),yB (px.av Z)::nn 6 (yB gE.zv::yB [yi Q,AV.own 34 1,AV.d (D.b H.V6),AV.d (D.u64 H.Hi),AV.d (D.u64 H.Lo),yi J,yi K,AV.d (D.i F.qz),AV.d (D.l 2 oF.fv F.cW),AV.d (D.l 3 ls.fv F.ls),AV.d (D.l 3 gF.fv F.gS)]::nn 7 (yR 3 1 D.i U::nn 17 (yB [yb false,yO 16 D.i U]::nn 92 ([]))))⟩) ?_ ?_
 ·intro _ h;exact Wg .z h
 rintro⟨Z,K⟩ h;refine A7 h (λ_=>I2.ok) ?_;rintro⟨M,_⟩ h;refine A7 h (λ_=>NE.ok) ?_;rintro⟨P,_⟩ h;refine A7 h (λ_=>Bo.ok) ?_;rintro⟨_,_⟩ h;refine rf ?_;refine A8 h (λ(a6,a7,a8,aa,ab,ae,af)=>⟨dd 6 (yr 7 0::yr 8 0::dd 118 ([])),yB (px.av a6)::nn 6 (yB gE.zv::yB [yi Q,y3 a7,yb a8,yu aa,yu ab,yi J,yi K,yi ae,y4 M,y5 P,y6 af]::nn 118 ([]))⟩) ?_ ?_
 ·intro _ h;refine EQ h ?_ ?_<;>intro h
  ·exact Wg .z h
  refine A8 h (λ(ag,ah,ai,aj,ak,al)=>⟨dd 6 (yr 7 0::yr 8 0::dd 118 ([])),yB (px.av ag)::nn 6 (yB gE.zv::yB [yi Q,y3 ah,yb ai,yu aj,yu ak,yi J,yi K,AV.d (D.i F.qz),y4 M,y5 P,y6 al]::nn 118 ([]))⟩) ?_ ?_
  ·intro _ h;refine EQ h ?_ ?_<;>intro h
   ·exact Wg .z h
   refine A8 h (λ(an,ao,ap,aq,ar,au)=>⟨dd 6 (yr 7 0::yr 8 0::dd 118 ([])),yB (px.av an)::nn 6 (yB gE.zv::yB [yi Q,y3 ao,yb ap,yu aq,yu ar,yi J,yi K,AV.d (D.i F.qz),y4 M,y5 P,y6 au]::nn 118 ([]))⟩) ?_ ?_
   ·intro _ h;refine EQ h ?_ ?_<;>intro h
    ·(conv=>whnf);refine .inl ?_;refine⟨rfl,?_⟩;refine⟨rfl,?_⟩;refine⟨by simp,?_⟩;exact Wg .z h
    exact Wg (.y 126 127 (.a (.b .z (.a (.b .z (.a (.b .z (.a (.b .z (.a (.b (.r .z) .z) (u2 λax ay=>⟨[(6,yr 7 0),(7,yr 8 0)],[(0,yB (px.av ax)),(7,yB gE.zv),(8,yB [yi Q,AV.own 34 1,AV.d (D.b H.V6),AV.d (D.u64 H.Hi),AV.d (D.u64 H.Lo),yi J,yi K,AV.d (D.i F.qz),y4 M,y5 P,y6 ay]),(16,yR 3 1 D.i U),(34,yB [yb false,yO 16 D.i U])]⟩))) (u3 λaz b0 ba=>⟨[(6,yr 7 0),(7,yr 8 0)],[(0,yB (px.av az)),(7,yB gE.zv),(8,yB [yi Q,y3 b0,AV.d (D.b H.V6),AV.d (D.u64 H.Hi),AV.d (D.u64 H.Lo),yi J,yi K,AV.d (D.i F.qz),y4 M,y5 P,y6 ba])]⟩))) (u3 λbb bc bd=>⟨[(6,yr 7 0),(7,yr 8 0)],[(0,yB (px.av bb)),(7,yB gE.zv),(8,yB [yi Q,y3 bc,AV.d (D.b H.V6),AV.d (D.u64 H.Hi),AV.d (D.u64 H.Lo),yi J,yi K,AV.d (D.i F.qz),y4 M,y5 P,y6 bd])]⟩))) (u6 λbe bf bg bh bi bj=>⟨[(6,yr 7 0),(7,yr 8 0)],[(0,yB (px.av be)),(7,yB gE.zv),(8,yB [yi Q,y3 bf,yb bg,yu bh,yu bi,yi J,yi K,AV.d (D.i F.qz),y4 M,y5 P,y6 bj])]⟩))) (u6 λbk bl bm bn bo bp=>⟨[(6,yr 7 0),(7,yr 8 0)],[(0,yB (px.av bk)),(7,yB gE.zv),(8,yB [yi Q,y3 bl,yb bm,yu bn,yu bo,yi J,yi K,AV.d (D.i F.qz),y4 M,y5 P,y6 bp])]⟩))) h
   rintro⟨an,ao,ap,aq,ar,au⟩ h;exact r6 h
  rintro⟨ag,ah,ai,aj,ak,al⟩ h;exact r6 h
 rintro⟨a6,a7,a8,aa,ab,ae,af⟩ h;exact fin h
instance {F:px} {H:Int}:CK (EI F H) 47 [.ref 0 0,ed H] [.box (px.av F)] (λr=>.d (o3.fv r.1)) (λr=>[.box (px.av r.2)]):=Wf 0 Tryz.f47 λh=>by unfold EI at h;exact Wg .z h
instance L8 {a0:px}{a1:Int}:CK (Cd a0 a1) 14 [.ref 0 0,ed a1] [.box (px.av a0)] (λr=>.d (qC.fv r.1)) (λr=>[.box (px.av r.2)]):=Wf 0 Tryz.f14 λh=>by
 refine⟨rfl,?_⟩;unfold Cd at h;(conv=>whnf);refine A7 h (λ_=>Kv.ok) λH h=>?_;refine A7 h (λ_=>Bo.ok) ?_;rintro⟨_,_⟩ h;refine A8 h (λ(v2,J)=>⟨yr 0 0::yi a1::X::X::yr 5 0::yr 6 0::dd 60 ([]),yB (px.av v2)::nn 4 (yB qC.zv::yB [yO 29 fI.fv J,AV.d (D.i H.gT),AV.d (D.l 2 oA.fv H.Path),AV.d (D.b H.Next.V6),AV.d (D.u64 H.Next.Hi),AV.d (D.u64 H.Next.Lo),AV.d (D.i H.qW),AV.d (D.i H.qd),AV.d (D.i H.qz),AV.d (D.l 2 oF.fv H.cW),AV.d (D.l 3 ls.fv H.ls),AV.d (D.l 3 gF.fv H.gS),AV.d (D.nil 4)]::nn 22 (yR 67 4 fI.fv J::nn 37 ([])))⟩) ?_ ?_
 ·intro _ h;exact Wg (.y 66 67 (.w (u3 λv4 v5 v6=>⟨[(0,yr 0 0),(1,yi a1),(4,yr 5 0),(5,yr 6 0),(6,yi v4)],[(0,yB (px.av v5)),(5,yB qC.zv),(6,yB [yO 29 fI.fv v6,AV.d (D.i H.gT),AV.d (D.l 2 oA.fv H.Path),AV.d (D.b H.Next.V6),AV.d (D.u64 H.Next.Hi),AV.d (D.u64 H.Next.Lo),AV.d (D.i H.qW),AV.d (D.i H.qd),AV.d (D.i H.qz),AV.d (D.l 2 oF.fv H.cW),AV.d (D.l 3 ls.fv H.ls),AV.d (D.l 3 gF.fv H.gS),AV.d (D.nil 4)]),(29,yR 67 4 fI.fv v6)]⟩) (u3 λv4 v5 v6=>.k (u2 λv8 v9=>⟨[(20,yb v8)],[(0,yB (px.av v9))]⟩)))) h
 rintro⟨v2,J⟩ h;refine A7 h (λ_=>Bo.ok) ?_;rintro⟨_,_⟩ h;refine A8 h (λ(P,Q,U,V,Y,Z,a6,a7,a8,aa,ab,ae,K)=>⟨dd 4 (yr 5 0::yr 6 0::dd 60 ([])),yB (px.av P)::nn 4 (yB qC.zv::yB [yO 29 fI.fv J,yi Q,y3 U,yb V,yu Y,yu Z,yi a6,yi a7,yi a8,y4 aa,y5 ab,y6 ae,yO 42 fI.fv K]::nn 22 (yR 67 4 fI.fv J::nn 12 (yR 67 4 fI.fv K::nn 24 ([]))))⟩) ?_ ?_
 ·intro _ h;exact Wg (.b (.v λ(F:o3)=>.v λ_=>.y 66 67 (.a (.w (u3 λaf ag M=>⟨[(0,yr 0 0),(4,yr 5 0),(5,yr 6 0),(7,yr 8 0),(8,yi af)],[(0,yB (px.av ag)),(5,yB qC.zv),(6,yB [yO 29 fI.fv J,AV.d (D.i F.gE.gT),AV.d (D.l 2 oA.fv F.gE.Path),AV.d (D.b F.gE.Next.V6),AV.d (D.u64 F.gE.Next.Hi),AV.d (D.u64 F.gE.Next.Lo),AV.d (D.i F.gE.qW),AV.d (D.i F.gE.qd),AV.d (D.i F.gE.qz),AV.d (D.l 2 oF.fv F.gE.cW),AV.d (D.l 3 ls.fv F.gE.ls),AV.d (D.l 3 gF.fv F.gE.gS),yO 42 fI.fv M]),(8,yB (o3.av F)),(29,yR 67 4 fI.fv J),(42,yR 67 4 fI.fv M)]⟩) (u3 λaf ag M=>.b (.v λ_=>.v λaj=>.k (λah=>⟨[],[(0,yB (px.av aj)),(6,yB [yO 29 fI.fv J,AV.d (D.i F.gE.gT),AV.d (D.l 2 oA.fv F.gE.Path),AV.d (D.b F.gE.Next.V6),AV.d (D.u64 F.gE.Next.Hi),AV.d (D.u64 F.gE.Next.Lo),AV.d (D.i F.gE.qW),AV.d (D.i F.gE.qd),AV.d (D.i F.gE.qz),AV.d (D.l 2 oF.fv F.gE.cW),AV.d (D.l 3 ls.fv F.gE.ls),AV.d (D.l 3 gF.fv F.gE.gS),yO 42 fI.fv ah]),(42,yR 67 4 fI.fv ah)]⟩)) .z)) (u2 λak ai=>⟨[(4,yr 5 0),(5,yr 6 0)],[(0,yB (px.av ak)),(5,yB qC.zv),(6,yB [yO 29 fI.fv J,AV.d (D.i F.gE.gT),AV.d (D.l 2 oA.fv F.gE.Path),AV.d (D.b F.gE.Next.V6),AV.d (D.u64 F.gE.Next.Hi),AV.d (D.u64 F.gE.Next.Lo),AV.d (D.i F.gE.qW),AV.d (D.i F.gE.qd),AV.d (D.i F.gE.qz),AV.d (D.l 2 oF.fv F.gE.cW),AV.d (D.l 3 ls.fv F.gE.ls),AV.d (D.l 3 gF.fv F.gE.gS),yO 42 fI.fv ai]),(29,yR 67 4 fI.fv J),(42,yR 67 4 fI.fv ai)]⟩))) .z) h
 rintro⟨P,Q,U,V,Y,Z,a6,a7,a8,aa,ab,ae,K⟩ h;exact Wg .z h
instance {F:Addr} {H:Addr}:CK (JF F H) 116 [ed F,ed H] [] ed oN:=Wf 0 Tryz.f116 λh=>by unfold JF at h;exact Wg (.b .z (.b .z (.y 37 37 (.k (λJ=>⟨[(17,yb J)],[]⟩))))) h
instance {F:fI} {H:fI}:CK (DL F H) 61 [ed F,ed H] [] ed oN:=Wf 0 Tryz.f61 λh=>by unfold DL at h;exact Wg .z h
instance {F:iA}:CK (Eh F) 62 [ed F] [] e2 oN:=Wf 0 Tryz.f62 λh=>by unfold Eh at h;exact Wg (.y 27 27 (.a (.f 9 18 fT.fv (λJ=>u2 λK M=>⟨[(4,yi K),(5,yi M),(9,AV.d (D.l 18 fT.fv F.fT)),(10,yi (F.fT.length:Int)),(11,yi (J:Int))],[]⟩) (u2 λK M J V=>.g (.k (u2 λP H=>⟨[(4,yi P),(5,yi H)],[]⟩)))) (u2 λQ U=>⟨[(4,yi Q),(5,yi U)],[]⟩))) h
instance {F:Int}:CK (Hk F) 112 [ed F] [] ed oN:=Wf 0 Tryz.f112 λh=>by unfold Hk at h;exact Wg (.y 9 9 (.k (λH=>⟨[(2,yb H)],[]⟩))) h
instance Kp {F:Addr}:CK (By F) 117 [ed F] [] ed oN:=Wf 0 Tryz.f117 λh=>by unfold By at h;exact Wg (.y 15 15 (.k (λH=>⟨[(2,yb H)],[]⟩))) h
instance {F:kI}:CK (DO F) 65 [ed F] [] ed oN:=Wf 0 Tryz.f65 λh=>by unfold DO at h;exact Wg (.y 45 45 (.c (.f0 6 3 Addr.fv (λH _=>⟨[(1,yr 1 0),(6,AV.d (D.l 3 Addr.fv F.oE)),(7,yi (F.oE.length:Int)),(8,yi (H:Int))],[(1,yB (kI.av F))]⟩)) (λ_=>⟨[(1,yr 1 0)],[(1,yB (kI.av F))]⟩) λ_=>.k (λJ=>⟨[(1,X),(2,yb J)],[(1,N)]⟩))) h
instance KG {F:Addr}:CK (BV F) 130 [ed F] [] (λr=>AV.own 0 (Xj D.u8 r).length) (λr=>[.row 5 1 (Xj D.u8 r) .no]):=Wf 0 Tryz.f130 λh=>by
 refine⟨rfl,?_⟩;unfold BV at h;(conv=>whnf);refine A7 h (λ_=>Kp.ok) λ_ h=>?_;refine rf ?_;refine EQ h ?_ ?_<;>intro h
 ·(conv=>whnf);refine .inr ⟨X28 rfl,5,?_⟩;exact fin h
 refine A8 h (λP=>⟨X::yr 1 0::X::yi P::dd 31 ([]),N::yB (Addr.av F)::nn 33 ([])⟩) ?_ ?_
 ·intro _ h;exact Wg .z h
 rintro P h;refine⟨_,rfl,?_⟩;refine A8 h (λJ=>⟨dd 4 (yO 4 D.u8 J::dd 30 ([])),nn 4 (yR 5 1 D.u8 J::nn 30 ([]))⟩) ?_ ?_
 ·intro _ h;revert h;refine FI (λ(K,H)=>⟨X::yr 1 0::X::X::yO 4 D.u8 H::yi K::dd 29 ([]),N::yB (Addr.av F)::N::N::yR 5 1 D.u8 H::nn 30 ([])⟩) ?_ ?_
  ·exact wk
  rintro _ ⟨K,H⟩ _ h Q;refine rf ?_;refine LL h λh=>?_;refine rf ?_;refine A8 h (λM=>⟨X::yr 1 0::X::X::yO 4 D.u8 H::yi K::yu M::dd 28 ([]),N::yB (Addr.av F)::N::N::yR 5 1 D.u8 H::nn 30 ([])⟩) ?_ ?_
  ·intro _ h;exact Wg .z h
  rintro M h;refine⟨by decide,_,rfl,?_⟩;refine⟨_,N8 _,?_⟩;refine⟨_,N8 _,?_⟩;refine⟨Xcg _,_,Y7 M _,?_⟩;exact Wg .z h
 rintro J h;exact Wg (.l (.r .z)) h
instance {F:Addr}:CK (CH F) 185 [ed F] [] ed oN:=Wf 0 Tryz.f185 λh=>by unfold CH at h;exact Wg .z h
instance {F:I S}:CK (Bf F) 186 [ed F] [] e2 oN:=Wf 0 Tryz.f186 λh=>by unfold Bf at h;exact Wg (.y 43 43 (.d (λH=>⟨[(0,vu F),(2,yr 2 0),(14,yb H)],[(2,yB Addr.zv)]⟩) λH=>.b .z (.a (.f0 20 1 D.u8 (λJ K=>⟨[(0,X),(4,yr 4 0),(14,X),(20,vu F),(21,yi (F.length:Int)),(22,yi (J:Int))],[(4,yB (Addr.av K))]⟩)) (λM=>⟨[(0,X),(4,yr 4 0),(14,X)],[(4,yB (Addr.av M))]⟩)))) h
instance {J:Addr} {F:Int}:CK (C6 J F) 118 [ed J,ed F] [] e2 oN:=Wf 0 Tryz.f118 λh=>by
 refine⟨rfl,?_⟩;unfold C6 at h;(conv=>whnf);refine .go ?_;refine A7 h (λ_=>Kp.ok) λ_ h=>?_;refine rf ?_;refine EQ h ?_ ?_<;>intro h
 ·exact fin h
 refine A8 h (λM=>⟨X::yi F::yr 2 0::X::yr 4 0::dd 10 (yb M::dd 38 ([])),N::N::yB (Addr.av J)::N::yB fI.zv::nn 49 ([])⟩) ?_ ?_
 ·intro _ h;exact Wg .z h
 rintro M h;refine rf ?_;refine EQ h ?_ ?_<;>intro h
 ·exact fin h
 refine UV [26] h (λ_=>KG.ok) λ_ h=>?_;refine A8 h (λK=>⟨X::yi F::X::X::yr 4 0::X::yO 26 D.u8 K::dd 47 ([]),nn 4 (yB fI.zv::nn 21 (yR 5 1 D.u8 K::nn 27 ([])))⟩) ?_ ?_
 ·intro _ h;revert h;refine FI (λ(P,H)=>⟨X::yi F::X::X::yr 4 0::X::yO 26 D.u8 H::yi P::dd 46 ([]),nn 4 (yB fI.zv::nn 21 (yR 5 1 D.u8 H::nn 27 ([])))⟩) ?_ ?_
  ·exact wk
  rintro _ ⟨P,H⟩ _ h V;refine⟨H.length,IU,?_⟩;refine⟨_,rfl,?_⟩;refine rf ?_;refine LL h λh=>?_;refine rf ?_;refine⟨by decide,_,rfl,?_⟩;obtain⟨U,Q,h⟩:=Aa h;refine⟨rfl,ND (f:=D.u8) Q,?_⟩;refine⟨rfl,D.u8 U,(Kw (f:=D.u8) Q),?_⟩;refine⟨by decide,_,rfl,?_⟩;refine⟨_,N8 _,?_⟩;refine⟨Xcg _,_,ej (128:S) _,?_⟩;exact Wg .z h
 rintro K h;exact Wg (.m .z) h
instance {F:fI}:CK (An F) 66 [ed F] [] ed oN:=Wf 0 Tryz.f66 λh=>by unfold An at h;exact Wg (.y 20 20 (.k (λH=>⟨[(2,yb H)],[]⟩))) h
instance {F:Int}:CK (BQ F) 187 [ed F] [] ed oN:=Wf 0 Tryz.f187 λh=>by unfold BQ at h;exact Wg (.g (.y 15 15 (.c (.b .z (.a (.b .z (.k (λJ=>⟨[(3,yi F),(4,yb J)],[]⟩))) (λK=>⟨[(3,yi F),(4,yb K)],[]⟩))) (λH=>⟨[(3,yi F),(4,yb H)],[]⟩) λH=>.b .z (.b .z (.a (.b .z (.k (λM=>⟨[(3,X),(4,X),(11,yb M)],[]⟩))) (λP=>⟨[(3,X),(4,X),(11,yb P)],[]⟩)))))) h
instance {F:Int}:CK (Cb F) 119 [ed F] [] ed oN:=Wf 0 Tryz.f119 λh=>by unfold Cb at h;exact Wg (.y 14 14 (.k (λH=>⟨[(2,yb H)],[]⟩))) h
instance {F:I oA}:CK (Ed F) 120 [ed F] [] ed oN:=Wf 0 Tryz.f120 λh=>by unfold Ed at h;exact Wg (.y 78 78 (.a (.f 8 2 oA.fv (λM J=>⟨[(0,y3 F),(3,yi J),(8,y3 F),(9,yi (F.length:Int)),(10,yi (M:Int))],[]⟩) (λJ M H=>.a (.d (λP=>⟨[(5,yr 5 0),(36,yb P)],[(5,yB (oA.av H))]⟩) λP=>.b .z (.a (.f 38 1 D.i (λQ _=>⟨[(36,X),(38,AV.d (D.l 1 D.i H.lf)),(39,yi (H.lf.length:Int)),(40,yi (Q:Int))],[]⟩) (λ_ Q U=>.g (.k (λK=>⟨[(68,yb K)],[]⟩)))) (λ_=>⟨[(36,X)],[]⟩))) (λ_=>⟨[(3,yi (AQ (J+(H.lf.length:Int))))],[]⟩))) (λV=>⟨[(3,yi V)],[]⟩))) h
instance {F:oF}:CK (EU F) 188 [ed F] [] ed oN:=Wf 0 Tryz.f188 λh=>by unfold EU at h;exact Wg (.y 21 21 (.k (λH=>⟨[(2,yb H)],[]⟩))) h
instance {F:oF} {H:oF}:CK (FH F H) 189 [ed F,ed H] [] ed oN:=Wf 0 Tryz.f189 λh=>by unfold FH at h;exact Wg (.y 24 24 (.k (λJ=>⟨[(4,yb J)],[]⟩))) h
instance {F:I oF}:CK (FY F) 121 [ed F] [] ed oN:=Wf 0 Tryz.f121 λh=>by unfold FY at h;exact Wg (.y 33 33 (.a (.f 5 2 oF.fv (λH _=>⟨[(0,y4 F),(5,y4 F),(6,yi (F.length:Int)),(7,yi (H:Int))],[]⟩) (λ_ H K=>.g (.k (λJ=>⟨[(28,yb J)],[]⟩)))) (λ_=>⟨[(0,y4 F)],[]⟩))) h
instance {F:ls}:CK (B5 F) 190 [ed F] [] ed oN:=Wf 0 Tryz.f190 λh=>by unfold B5 at h;exact Wg (.y 31 31 (.k (λH=>⟨[(2,yb H)],[]⟩))) h
instance {F:ls} {H:ls}:CK (CO F H) 191 [ed F,ed H] [] ed oN:=Wf 0 Tryz.f191 λh=>by unfold CO at h;exact Wg (.y 38 38 (.k (λJ=>⟨[(4,yb J)],[]⟩))) h
instance {F:I ls}:CK (Cf F) 122 [ed F] [] ed oN:=Wf 0 Tryz.f122 λh=>by unfold Cf at h;exact Wg (.y 33 33 (.a (.f 5 3 ls.fv (λH _=>⟨[(0,y5 F),(5,y5 F),(6,yi (F.length:Int)),(7,yi (H:Int))],[]⟩) (λ_ H K=>.g (.k (λJ=>⟨[(28,yb J)],[]⟩)))) (λ_=>⟨[(0,y5 F)],[]⟩))) h
instance R1 {F:gE}:CK (DV F) 67 [ed F] [] ed oN:=Wf 0 Tryz.f67 λh=>by unfold DV at h;exact Wg (.y 124 124 (.c (.f 6 3 gF.fv (λH _=>⟨[(1,yr 1 0),(6,AV.d (D.l 3 gF.fv F.gS)),(7,yi (F.gS.length:Int)),(8,yi (H:Int))],[(1,yB (gE.av F))]⟩) (λ_ H M=>.g (.k (λJ=>⟨[(53,yb J)],[]⟩)))) (λ_=>⟨[(1,yr 1 0)],[(1,yB (gE.av F))]⟩) λ_=>.k (λK=>⟨[(1,X),(2,yb K)],[(1,N)]⟩))) h
instance {F:iA}:CK (Ee F) 18 [ed F] [] ed oN:=Wf 0 Tryz.f18 λh=>by unfold Ee at h;exact Wg (.y 126 126 (.d (λJ=>⟨[(1,yr 1 0),(27,yb J)],[(1,yB (iA.av F))]⟩) λJ=>.b .z (.c (.f 29 18 fT.fv (λK M=>⟨[(3,yb M),(27,X),(29,AV.d (D.l 18 fT.fv F.fT)),(30,yi (F.fT.length:Int)),(31,yi (K:Int))],[]⟩) (λM K U=>.g (.d (λP=>⟨[(5,yr 5 0),(95,yb P)],[(5,yB (fT.av U))]⟩) λP=>.b .z (.k (λV=>⟨[(3,yb V),(5,X),(95,X)],[(5,N)]⟩))))) (λQ=>⟨[(3,yb Q),(27,X)],[]⟩) λQ=>.k (λH=>⟨[(1,X),(2,yb H),(3,X)],[(1,N)]⟩)))) h
instance {F:I oA} {H:I oA}:CK (IM F H) 123 [ed F,ed H] [] ed oN:=Wf 0 Tryz.f123 λh=>by unfold IM at h;exact Wg (.b .z (.y 61 61 (.a (.f 14 2 oA.fv (λJ _=>⟨[(1,y3 H),(14,y3 F),(15,yi (F.length:Int)),(16,yi (J:Int))],[]⟩) (λ_ J K=>.a (.d (λM=>⟨[(5,yi (J:Int)),(6,yr 6 0),(40,yb M)],[(6,yB (oA.av K))]⟩) λM=>.b .z (.a (.f0 42 1 D.i (λP _=>⟨[(6,X),(40,X),(42,AV.d (D.l 1 D.i K.lf)),(43,yi (K.lf.length:Int)),(44,yi (P:Int))],[(6,N)]⟩)) (λ_=>⟨[(5,X),(6,X),(40,X)],[(6,N)]⟩))) (λ_=>⟨[],[]⟩))) (λ_=>⟨[],[]⟩)))) h
instance {F:I oF} {H:I oF}:CK (IQ F H) 124 [ed F,ed H] [] ed oN:=Wf 0 Tryz.f124 λh=>by unfold IQ at h;exact Wg (.b .z (.y 26 26 (.a (.f0 12 2 oF.fv (λJ _=>⟨[(1,y4 H),(12,y4 F),(13,yi (F.length:Int)),(14,yi (J:Int))],[]⟩)) (λ_=>⟨[],[]⟩)))) h
instance {F:I ls} {H:I ls}:CK (EE F H) 125 [ed F,ed H] [] ed oN:=Wf 0 Tryz.f125 λh=>by unfold EE at h;exact Wg (.b .z (.y 26 26 (.a (.f0 12 3 ls.fv (λJ _=>⟨[(1,y5 H),(12,y5 F),(13,yi (F.length:Int)),(14,yi (J:Int))],[]⟩)) (λ_=>⟨[],[]⟩)))) h
instance {F:I gF} {H:I gF}:CK (Ea F H) 126 [ed F,ed H] [] ed oN:=Wf 0 Tryz.f126 λh=>by
 refine⟨rfl,?_⟩;unfold Ea at h;refine⟨F.length,X6 _,?_⟩;refine⟨H.length,X6 _,?_⟩;refine rf ?_;refine EQ h ?_ ?_<;>intro h
 ·exact fin h
 refine⟨F.length,X6 _,?_⟩;refine A8 h (λ_=>⟨dd 50 ([]),nn 50 ([])⟩) ?_ ?_
 ·intro _ h;revert h;refine EF 12 3 gF.fv rfl (λJ _=>⟨X::y6 H::dd 10 (y6 F::yi (F.length:Int)::yi (J:Int)::dd 35 ([])),nn 50 ([])⟩) ?_ ?_ ?_
  ·exact wk
  ·rintro _ P h;exact Wg (.e .z) h
  rintro _ J K _ P b1 c1 e1 h U;refine rf ?_;refine IB (NM b1) ?_;refine rf ?_;refine⟨GO (f:=gF.fv) b1,gF.fv K,c1,rfl,?_⟩;refine A8 h (λM=>⟨X::y6 H::dd 10 (y6 F::yi (F.length:Int)::yi (J:Int)::dd 33 (yb M::X::[])),nn 50 ([])⟩) ?_ ?_
  ·intro _ h;refine .inl (dO ?_);(conv=>whnf);refine I8 h (λ_=>rfl) λ_ h=>?_;refine EQ h ?_ ?_<;>intro h
   ·exact Wg .z h
   (conv=>whnf);refine I8 h (λ_=>rfl) λ_ h=>?_;refine EQ h ?_ ?_<;>intro h
   ·exact Wg .z h
   refine⟨K.Data,rfl,?_⟩;(conv=>whnf);refine I8 h (λ_=>rfl) λQ h=>?_;refine⟨Q.Data,rfl,?_⟩;exact Wg .z h
  rintro M h;exact Wg .z h
 rintro _ h;exact fin h
instance {F:gE} {H:gE}:CK (EZ F H) 68 [ed F,ed H] [] ed oN:=Wf 0 Tryz.f68 λh=>by unfold EZ at h;exact Wg (.y 66 66 (.k (λJ=>⟨[(4,yb J)],[]⟩))) h
instance {F:Int} {H:Int}:CK (AO F H) 192 [ed F,ed H] [] ed oN:=Wf 0 Tryz.f192 λh=>by unfold AO at h;exact Wg (.y 23 23 (.a (.w0 (u2 λM J=>⟨[(0,yi F),(5,yO 5 D.u8 J),(6,yi M)],[(5,yR 5 1 D.u8 J)]⟩)) (λK=>⟨[(5,yO 5 D.u8 K)],[(5,yR 5 1 D.u8 K)]⟩))) h
instance {F:gE}:CK (Ft F) 127 [ed F] [] e2 oN:=Wf 0 Tryz.f127 λh=>by
 refine⟨rfl,?_⟩;unfold Ft at h;(conv=>whnf);refine A7 h (λ_=>R1.ok) λ_ h=>?_;refine rf ?_;refine EQ h ?_ ?_<;>intro h
 ·exact fin h
 refine A8 h (λv1=>⟨uP,N::yB (gE.av F)::N::N::some (OB.row 96 3 (Xj gF.fv []) .no)::nn 19 (some (OB.map 3 94 (Bh D.i (D.l 1 D.u8) v1))::nn 170 ([]))⟩) ?_ ?_
 ·intro _ h;refine LL h λh=>?_;refine⟨_,QZ _,?_⟩;(conv=>whnf);refine .inl ?_;refine⟨rfl,?_⟩;refine⟨_,Ou (ek:=D.i) (ev:=(D.l 1 D.u8)) (l:=[]) (k:=1) (v:=([(Az F.gT)]:I S)) Ie,?_⟩;exact r6 h
 rintro v1 h;refine A8 h (λv2=>⟨X::yr 1 0::X::X::AV.own 4 (Xj gF.fv []).length::AV.mp 24::dd 35 (yb v2::dd 153 ([])),N::yB (gE.av F)::N::N::some (OB.row 96 3 (Xj gF.fv []) .no)::nn 19 (some (OB.map 3 94 (Bh D.i (D.l 1 D.u8) v1))::nn 170 ([]))⟩) ?_ ?_
 ·intro _ h;exact Wg .z h
 rintro v2 h;refine A8 h (λv3=>⟨uP,N::yB (gE.av F)::N::N::some (OB.row 96 3 (Xj gF.fv []) .no)::nn 19 (some (OB.map 3 94 (Bh D.i (D.l 1 D.u8) v3))::nn 170 ([]))⟩) ?_ ?_
 ·intro _ h;exact Wg (.b (.y 195 195 (.a (.f 44 2 oA.fv (λi5 v6=>⟨[(1,yr 1 0),(4,AV.own 4 (Xj gF.fv []).length),(5,AV.mp 24),(6,yO 42 D.u8 v6),(44,AV.d (D.l 2 oA.fv F.Path)),(45,yi (F.Path.length:Int)),(46,yi (i5:Int))],[(1,yB (gE.av F)),(4,some (OB.row 96 3 (Xj gF.fv []) .no)),(24,some (OB.map 3 94 (Bh D.i (D.l 1 D.u8) v1))),(42,yR 5 1 D.u8 v6)]⟩) (λv6 i5 x8=>.a (.d (λa1=>⟨[(8,yr 8 0),(9,yv a1)],[(8,yB (oA.av x8))]⟩) λa1=>.a (.f0 61 1 D.i (λax a6=>⟨[(6,yO 42 D.u8 a6),(8,X),(9,X),(61,AV.d (D.l 1 D.i x8.lf)),(62,yi (x8.lf.length:Int)),(63,yi (ax:Int))],[(8,N),(42,yR 5 1 D.u8 a6)]⟩)) (λa7=>⟨[(6,yO 42 D.u8 a7),(8,X),(9,X)],[(8,N),(42,yR 5 1 D.u8 a7)]⟩)) (λa8=>⟨[(6,yO 42 D.u8 a8)],[(42,yR 5 1 D.u8 a8)]⟩))) (λv4=>⟨[(1,yr 1 0),(4,AV.own 4 (Xj gF.fv []).length),(5,AV.mp 24),(6,yO 42 D.u8 v4)],[(1,yB (gE.av F)),(4,some (OB.row 96 3 (Xj gF.fv []) .no)),(24,some (OB.map 3 94 (Bh D.i (D.l 1 D.u8) v1))),(42,yR 5 1 D.u8 v4)]⟩))) .z) h
 rintro v3 h;refine A8 h (λaa=>⟨X::yr 1 0::X::X::AV.own 4 (Xj gF.fv []).length::AV.mp 24::dd 78 (yb aa::dd 110 ([])),N::yB (gE.av F)::N::N::some (OB.row 96 3 (Xj gF.fv []) .no)::nn 19 (some (OB.map 3 94 (Bh D.i (D.l 1 D.u8) v3))::nn 170 ([]))⟩) ?_ ?_
 ·intro _ h;exact Wg .z h
 rintro aa h;refine A8 h (λab=>⟨uP,N::yB (gE.av F)::N::N::some (OB.row 96 3 (Xj gF.fv []) .no)::nn 19 (some (OB.map 3 94 (Bh D.i (D.l 1 D.u8) ab))::nn 170 ([]))⟩) ?_ ?_
 ·intro _ h;exact Wg (.b (.n [88] .z) .z) h
 rintro ab h;refine A8 h (λae=>⟨uP,N::yB (gE.av F)::N::N::some (OB.row 96 3 (Xj gF.fv []) .no)::nn 19 (some (OB.map 3 94 (Bh D.i (D.l 1 D.u8) ae))::nn 170 ([]))⟩) ?_ ?_
 ·intro _ h;exact Wg .z h
 rintro ae h;refine A8 h (λaf=>⟨uP,N::yB (gE.av F)::N::N::some (OB.row 96 3 (Xj gF.fv []) .no)::nn 19 (some (OB.map 3 94 (Bh D.i (D.l 1 D.u8) af))::nn 170 ([]))⟩) ?_ ?_
 ·intro _ h;exact Wg .z h
 rintro af h;refine⟨F.cW.length,X6 _,?_⟩;refine A8 h (λ(ag,P)=>⟨uP,N::yB (gE.av F)::N::N::some (OB.row 96 3 (Xj gF.fv []) .no)::nn 19 (some (OB.qu 3 94 (Bh D.i (D.l 1 D.u8) ag) (.int .i64 8) 112 (Xj D.u8 P).length)::nn 87 (some (OB.row 5 1 (Xj D.u8 P) .rl)::nn 82 ([])))⟩) ?_ ?_
 ·intro _ h;obtain⟨_,ay,h⟩:=Aa h;revert h;refine EF 104 2 oF.fv rfl (λah (H,J)=>⟨X::yr 1 0::X::X::AV.own 4 (Xj gF.fv []).length::AV.mp 24::dd 98 (AV.d (D.l 2 oF.fv F.cW)::yi (F.cW.length:Int)::yi (ah:Int)::dd 88 ([])),N::yB (gE.av F)::N::N::some (OB.row 96 3 (Xj gF.fv []) .no)::nn 19 (some (OB.qu 3 94 (Bh D.i (D.l 1 D.u8) H) (.int .i64 8) 112 (Xj D.u8 J).length)::nn 87 (some (OB.row 5 1 (Xj D.u8 J) .rl)::nn 82 ([])))⟩) ?_ ?_ ?_
  ·exact (.mk rfl (Xan (.refl _) (Xan (.refl _) (Xan (.refl _) (Xan (.refl _) (Xan (.refl _) (Xan (.refl _) True.intro)))))) (Xan ⟨_,rfl,Xan ⟨rfl,.refl _⟩ (Xan ⟨rfl,.refl _⟩ (Xan ⟨rfl,.refl _⟩ (Xan ⟨rfl,.refl _⟩ (Xan ⟨rfl,.refl _⟩ (Xan ⟨rfl,.refl _⟩ (Xan ⟨rfl,.refl _⟩ (Xan ⟨rfl,.refl _⟩ (Xan ⟨rfl,.refl _⟩ (Xan ⟨rfl,.refl _⟩ (Xan ⟨rfl,.refl _⟩ (True.intro)))))))))))⟩ (Xan (.inl ⟨_,rfl,⟨id,trivial⟩⟩) (Xan (.inr ⟨.inl rfl,⟨_,P3 Ie ay⟩,rfl,rfl,_,_,_,rfl⟩) (Xan (.inr ⟨rfl,rfl,by decide⟩) (True.intro))))) rfl)
  ·rintro⟨H,J⟩ az h;exact Wg (.e .z) h
  rintro _ ah b0 ⟨H,J⟩ az ai ba bf h bg;refine rf ?_;refine IB (NM ai) ?_;refine rf ?_;refine⟨GO (f:=oF.fv) ai,oF.fv b0,ba,rfl,?_⟩;refine .inl (dO ?_);(conv=>whnf);refine .inr ⟨rfl,rfl,⟨_,Hg (ek:=D.i) (ev:=(D.l 1 D.u8)) (l:=H) (k:=8) Ie⟩,rfl,?_⟩;exact Wg (.r .z) h
 rintro⟨ag,P⟩ h;refine⟨F.ls.length,X6 _,?_⟩;refine A8 h (λ(aj,Q)=>⟨uP,N::yB (gE.av F)::N::N::some (OB.row 96 3 (Xj gF.fv []) .no)::nn 19 (some (OB.qu 3 94 (Bh D.i (D.l 1 D.u8) aj) (.int .i64 32) 131 (Xj D.u8 Q).length)::nn 106 (some (OB.row 5 1 (Xj D.u8 Q) .rl)::nn 63 ([])))⟩) ?_ ?_
 ·intro _ h;obtain⟨_,bb,h⟩:=Aa h;revert h;refine EF 123 3 ls.fv rfl (λak (K,M)=>⟨X::yr 1 0::X::X::AV.own 4 (Xj gF.fv []).length::AV.mp 24::dd 117 (AV.d (D.l 3 ls.fv F.ls)::yi (F.ls.length:Int)::yi (ak:Int)::dd 69 ([])),N::yB (gE.av F)::N::N::some (OB.row 96 3 (Xj gF.fv []) .no)::nn 19 (some (OB.qu 3 94 (Bh D.i (D.l 1 D.u8) K) (.int .i64 32) 131 (Xj D.u8 M).length)::nn 106 (some (OB.row 5 1 (Xj D.u8 M) .rl)::nn 63 ([])))⟩) ?_ ?_ ?_
  ·exact (.mk rfl (Xan (.refl _) (Xan (.refl _) (Xan (.refl _) (Xan (.refl _) (Xan (.refl _) (Xan (.refl _) True.intro)))))) (Xan ⟨_,rfl,Xan ⟨rfl,.refl _⟩ (Xan ⟨rfl,.refl _⟩ (Xan ⟨rfl,.refl _⟩ (Xan ⟨rfl,.refl _⟩ (Xan ⟨rfl,.refl _⟩ (Xan ⟨rfl,.refl _⟩ (Xan ⟨rfl,.refl _⟩ (Xan ⟨rfl,.refl _⟩ (Xan ⟨rfl,.refl _⟩ (Xan ⟨rfl,.refl _⟩ (Xan ⟨rfl,.refl _⟩ (True.intro)))))))))))⟩ (Xan (.inl ⟨_,rfl,⟨id,trivial⟩⟩) (Xan (.inr ⟨.inr ⟨_,_,_,rfl⟩,⟨_,P3 Ie bb⟩,rfl,rfl,_,_,_,rfl⟩) (Xan (.inr ⟨rfl,rfl,by decide⟩) (True.intro))))) rfl)
  ·rintro⟨K,M⟩ bc h;exact Wg (.e .z) h
  rintro _ ak bd ⟨K,M⟩ bc al be bh h bi;refine rf ?_;refine IB (NM al) ?_;refine rf ?_;refine⟨GO (f:=ls.fv) al,ls.fv bd,be,rfl,?_⟩;refine .inl (dO ?_);(conv=>whnf);refine .inr ⟨rfl,rfl,⟨_,Hg (ek:=D.i) (ev:=(D.l 1 D.u8)) (l:=K) (k:=32) Ie⟩,rfl,?_⟩;exact Wg (.r .z) h
 rintro⟨aj,Q⟩ h;exact Wg (.y 195 195 (.d (λan=>⟨[(1,yr 1 0),(4,AV.own 4 (Xj gF.fv []).length),(5,AV.mp 24)],[(1,yB (gE.av F)),(4,some (OB.row 96 3 (Xj gF.fv []) .no)),(24,some (OB.map 3 94 (Bh D.i (D.l 1 D.u8) an)))]⟩) λan=>.a (.w (u2 λU V=>⟨[(4,yO 4 gF.fv V),(152,yi U)],[(4,yR 96 3 gF.fv V)]⟩) (u2 λU V=>.b (.a (.d (λY=>⟨[(4,yO 4 gF.fv Y),(16,yi U)],[(4,yR 96 3 gF.fv Y)]⟩) λY=>.a (.f 172 3 gF.fv (λao Z=>⟨[(4,yO 4 gF.fv Z),(172,AV.d (D.l 3 gF.fv F.gS)),(173,yi (F.gS.length:Int)),(174,yi (ao:Int))],[(4,yR 96 3 gF.fv Z)]⟩) (λZ ao bj=>.g (.k (λap=>⟨[(4,yO 4 gF.fv ap)],[(4,yR 96 3 gF.fv ap)]⟩)))) (λaq=>⟨[(4,yO 4 gF.fv aq),(16,X)],[(4,yR 96 3 gF.fv aq)]⟩)) (λar=>⟨[(4,yO 4 gF.fv ar)],[(4,yR 96 3 gF.fv ar)]⟩)) .z)) (λau=>⟨[(1,X),(4,yO 4 gF.fv au),(5,X)],[(1,N),(4,yR 96 3 gF.fv au),(24,N)]⟩))) h
instance {F:I fI} {H:C}:CK (D2 F H) 128 [ed F,ed H] [] ed oN:=Wf 0 Tryz.f128 λh=>by
 refine⟨rfl,?_⟩;unfold D2 at h;refine⟨F.length,X6 _,?_⟩;refine A8 h (λK=>⟨dd 5 (yO 5 D.u8 K::dd 30 ([])),nn 5 (yR 5 1 D.u8 K::nn 30 ([]))⟩) ?_ ?_
 ·intro _ h;revert h;refine EF 8 4 fI.fv rfl (λM J=>⟨X::yb H::X::X::X::yO 5 D.u8 J::X::X::y8 F::yi (F.length:Int)::yi (M:Int)::dd 25 ([]),nn 5 (yR 5 1 D.u8 J::nn 30 ([]))⟩) ?_ ?_ ?_
  ·exact wk
  ·rintro J Y h;exact Wg (.e .z) h
  rintro _ M P J Y b2 c2 e2 h p6;refine rf ?_;refine IB (NM b2) ?_;refine rf ?_;refine⟨GO (f:=fI.fv) b2,fI.fv P,c2,rfl,?_⟩;refine A8 h (λQ=>⟨X::yb H::X::X::X::yO 5 D.u8 Q::X::X::y8 F::yi (F.length:Int)::yi (M:Int)::dd 25 ([]),nn 5 (yR 5 1 D.u8 Q::nn 30 ([]))⟩) ?_ ?_
  ·intro _ h;refine LL h λh=>?_;refine .inl (dO ?_);refine⟨_,QZ _,?_⟩;refine⟨rfl,?_⟩;refine vS (f:=D.u8) h rfl λ_ h=>?_;refine iO h (λ_=>KG.ok) rfl λZ h=>?_;refine⟨_,rfl,?_⟩;refine⟨by decide,_,rfl,?_⟩;(conv=>whnf);refine .inr (.inl ?_);obtain⟨_,U,h⟩:=Aa h;have V:=FD U;refine⟨fh (f:=D.u8) U,rfl,(Xi 0),(Xi (AQ (Int.tdiv (AQ (P.qo+7)) 8))-Xi 0),rfl,rfl,?_⟩;refine⟨IU,Xj D.u8 (Xbg (Xi (AQ (Int.tdiv (AQ (P.qo+7)) 8))-Xi 0) (Xbh (Xi 0) Z)),Un,?_⟩;exact Wg .z h
  rintro Q h;exact Wg .z h
 rintro K h;exact Wg .z h
instance {F:I gF} {H:gF}:CK (FW F H) 129 [ed F,ed H] [] ed oN:=Wf 0 Tryz.f129 λh=>by unfold FW at h;exact Wg (.y 33 33 (.a (.w (λJ=>⟨[(0,y6 F),(3,yr 3 0),(5,yi J)],[(3,yB (gF.av H))]⟩) (λJ=>.k (λK=>⟨[(19,yb K)],[]⟩))) (λM=>⟨[(0,y6 F),(3,yr 3 0),(5,yi M)],[(3,yB (gF.av H))]⟩))) h
instance {F:I gF}:CK (H5 F) 131 [ed F] [] e2 oN:=Wf 0 Tryz.f131 λh=>by unfold H5 at h;exact Wg (.y 89 89 (.c (.f 10 3 gF.fv (λM _=>⟨[(0,y6 F),(10,y6 F),(11,yi (F.length:Int)),(12,yi (M:Int))],[]⟩) (λ_ M V=>.g (.k (λU=>⟨[(39,yb U)],[]⟩)))) (λ_=>⟨[(0,y6 F)],[]⟩) λ_=>.a (.f 41 3 gF.fv (λP J=>⟨[(0,X),(6,yO 6 D.u8 J),(41,y6 F),(42,yi (F.length:Int)),(43,yi (P:Int))],[(6,yR 5 1 D.u8 J)]⟩) (λJ P K=>.g (.k (λH=>⟨[(6,yO 6 D.u8 H),(8,yr 8 0)],[(6,yR 5 1 D.u8 H),(8,yB (gF.av K))]⟩)))) (λQ=>⟨[(0,X),(6,yO 6 D.u8 Q)],[(6,yR 5 1 D.u8 Q)]⟩))) h
instance {F:qC}:CK (Fe F) 69 [ed F] [] e2 oN:=Wf 0 Tryz.f69 λh=>by unfold Fe at h;exact Wg (.y 96 96 (.d (λH=>⟨[(1,yr 1 0),(4,y6 H)],[(1,yB (qC.av F))]⟩) λH=>.c (.b (.n [38] .z) .z) (λJ=>⟨[(4,y6 J)],[]⟩) λJ=>.k (λK=>⟨[(4,y6 K)],[]⟩))) h
instance {F:qC}:CK (G2 F) 19 [ed F] [] ed oN:=Wf 0 Tryz.f19 λh=>by unfold G2 at h;exact Wg (.y 92 92 (.d (λM=>⟨[(1,yr 1 0),(18,yb M)],[(1,yB (qC.av F))]⟩) λM=>.b .z (.v λ_=>.v λH=>.c (.o0 21 67 4 fI.fv (λU _=>⟨[(18,X),(24,yO 21 fI.fv H),(25,yi (H.length:Int)),(26,yi (U:Int))],[(21,yR 67 4 fI.fv H)]⟩)) (λ_=>⟨[(18,X)],[]⟩) λ_=>.d (λP=>⟨[(44,yb P)],[]⟩) λP=>.b .z (.c (.f 46 4 fI.fv (λQ _=>⟨[(44,X),(46,AV.d (D.l 4 fI.fv F.gO)),(47,yi (F.gO.length:Int)),(48,yi (Q:Int))],[]⟩) (λ_ Q V=>.g (.k (λJ=>⟨[(78,yb J)],[]⟩)))) (λ_=>⟨[(44,X)],[]⟩) λ_=>.k (λK=>⟨[(1,X),(2,yb K)],[(1,N)]⟩))))) h
instance {F:o3}:CK (JA F) 133 [ed F] [] ed oN:=Wf 0 Tryz.f133 λh=>by unfold JA at h;exact Wg (.y 42 42 (.k (λH=>⟨[(2,yb H)],[]⟩))) h
instance {F:I oA}:CK (G5 F) 193 [ed F] [] e2 oN:=Wf 0 Tryz.f193 λh=>by unfold G5 at h;exact Wg (.y 24 24 (.k (λH=>⟨[(0,y3 F),(17,yb H)],[]⟩))) h
instance {F:I oA}:CK (He F) 194 [ed F] [] ed oN:=Wf 0 Tryz.f194 λh=>by unfold He at h;exact Wg (.y 23 23 (.a (.f 6 2 oA.fv (λH J=>⟨[(3,yi J),(6,y3 F),(7,yi (F.length:Int)),(8,yi (H:Int))],[]⟩) (λJ H P=>.g (.k (λK=>⟨[(3,yi K)],[]⟩)))) (λM=>⟨[(3,yi M)],[]⟩))) h
instance {F:I oA}:CK (FM F) 196 [ed F] [] ed oN:=Wf 0 Tryz.f196 λh=>by unfold FM at h;exact Wg (.y 18 18 (.a (.f0 6 2 oA.fv (λK H=>⟨[(3,yO 3 D.i H),(6,y3 F),(7,yi (F.length:Int)),(8,yi (K:Int))],[(3,yR 3 1 D.i H)]⟩)) (λJ=>⟨[(3,yO 3 D.i J)],[(3,yR 3 1 D.i J)]⟩))) h
instance {H:I oA} {F:Int}:CK (JK H F) 195 [ed H,ed F] [] ed oN:=Wf 0 Tryz.f195 λh=>by unfold JK at h;exact Wg (.v λ(J:I Int)=>.y 18 18 (.a (.f0 8 1 D.i (λK _=>⟨[(1,yi F),(8,y2 J),(9,yi (J.length:Int)),(10,yi (K:Int))],[]⟩)) (λ_=>⟨[],[]⟩))) h
instance {F:I Int} {H:Int}:CK (Fj F H) 197 [ed F,ed H] [] ed oN:=Wf 0 Tryz.f197 λh=>by unfold Fj at h;exact Wg (.y 17 17 (.a (.f0 7 1 D.i (λJ _=>⟨[(1,yi H),(7,y2 F),(8,yi (F.length:Int)),(9,yi (J:Int))],[]⟩)) (λ_=>⟨[],[]⟩))) h
instance {F:Int}:CK (Gs F) 309 [ed F] [] ed oN:=Wf 0 Tryz.f309 λh=>by unfold Gs at h;exact Wg .z h
instance {F:Int} {H:Int}:CK (JO F H) 272 [ed F,ed H] [] ed oN:=Wf 0 Tryz.f272 λh=>by unfold JO at h;exact Wg (.y 16 16 (.k (λJ=>⟨[(4,yb J)],[]⟩))) h
instance {H:Int} {J:Int} {F:gE}:CK (FB H J F) 198 [ed H,ed J,ed F] [] e2 oN:=Wf 0 Tryz.f198 λh=>by unfold FB at h;exact Wg (.b .z (.y 50 50 (.d (λK=>⟨[(0,yi H),(1,yi J),(5,yr 5 0),(6,yr 6 0),(8,yb K)],[(5,yB (gE.av F)),(6,yB gE.zv)]⟩) λK=>.d (λM=>⟨[(35,yb M)],[]⟩) λM=>.b .z (.d (λP=>⟨[(0,X),(8,X),(35,X),(46,yb P)],[]⟩) λP=>.k (λQ=>⟨[(1,X),(46,X)],[(5,yB [AV.d (D.i F.gT),AV.d (D.l 2 oA.fv F.Path),AV.d (D.b F.Next.V6),AV.d (D.u64 F.Next.Hi),AV.d (D.u64 F.Next.Lo),AV.d (D.i F.qW),AV.d (D.i F.qd),yi Q,AV.d (D.l 2 oF.fv F.cW),AV.d (D.l 3 ls.fv F.ls),AV.d (D.l 3 gF.fv F.gS)])]⟩))))) h
end Go.AX.Q25
end
