/-
  Texts of one proof, packed.
-/
import Derived.Test.YtppcmaidcgimpaaGreatDoorS15
import Derived.Test.YtppcmaidcgimpaaGreatDoorS16
import Derived.Test.YtppcmaidcgimpaaGreatDoorS18
import Derived.Test.YtppcmaidcgimpaaGreatDoorS26
import Derived.Test.YtppcmaidcgimpaaGreatDoorS27
set_option linter.all false
set_option maxRecDepth 100000
set_option maxHeartbeats 4000000
open List renaming length_map→X6,length_append→X10,mem_singleton→X13,length_drop→X16,length_take→X17,length_replicate→X19,length_set→X20
open Option.some renaming injEq→X23,inj→X24
open Prod.mk renaming injEq→X25
open Nat renaming mul_le_mul_right→X30,add_mul→X31
open List renaming map→Xj
open Go renaming run_underlying→Wo,maxLen→Xb6,undef→Xbn,grownCap→Xck,heap_alloc_new→Xcq,typeInfo→Xde
open Go.Builtin renaming zeroCells→Xa8,append_→Xc8
open Go.Proofs.Tryz renaming prog→Xai,underlying3→Xd2
section
namespace Go.AX.Q25
open Go Go.AX Go.Proofs
variable {wl:Prop}
instance {F:qC}:CK (LZ F) 174 [ed F] [] ed oN:=Wf 131 Tryz.f174 λh=>by
 refine⟨rfl,?_⟩;unfold LZ at h;(conv=>whnf);refine A8 h (λ(v1,M)=>⟨X::yr 1 0::dd 8 (AV.qT [yO 54 gF.fv M,yi v1]::dd 44 ([])),N::yB (qC.av F)::nn 52 (yR 96 3 gF.fv M::nn 131 ([]))⟩) ?_ ?_
 ·intro _ h;(conv=>whnf);refine inl Tryz.f240 55 (by kernel_rfl) (by kernel_rfl) ⟨rfl,?_⟩;refine A7 h (λ_=>Mc.ok) λ_ h=>?_;refine rf ?_;refine bL h λh=>?_;refine⟨_,QZ _,?_⟩;refine A8 h (λv3=>⟨X::yr 56 0::X::X::yr 59 0::AV.fn 287 [yr 59 0]::dd 14 (AV.qT []::dd 93 ([])),uH v3 F F.gE⟩) ?_ ?_
  ·intro _ h;exact Wg (.i Tryz.f287 169 (.y 17 186 (.d (λv4=>⟨[],[(1,yB (qC.av F)),(2,some (OB.row 96 3 (Xj gF.fv []) .no)),(56,yB (gE.av F.gE)),(57,some (OB.row 96 3 (Xj gF.fv []) .no)),(59,yB [yO 185 gF.fv v4]),(74,some (OB.row 5 1 (Xj D.u8 ([(Az F.gE.gT)]:I S)) .rl)),(185,yR 96 3 gF.fv v4)]⟩) λv4=>.x 185 168))) h
  rintro v3 h;refine A8 h (λv7=>⟨X::yr 56 0::X::X::yr 59 0::AV.fn 287 [yr 59 0]::dd 108 ([]),uH v7 F F.gE⟩) ?_ ?_
  ·intro _ h;exact Wg (.r (.b (.y 114 186 (.a (.i Tryz.f287 169 .z) (λv8=>⟨[(1,yr 56 0),(4,yr 59 0),(5,AV.fn 287 [yr 59 0]),(34,AV.qT [])],[(1,yB (qC.av F)),(2,some (OB.row 96 3 (Xj gF.fv []) .no)),(56,yB (gE.av F.gE)),(59,yB [yO 168 gF.fv v8]),(168,yR 96 3 gF.fv v8)]⟩))) (.y 114 186 (.a (.i Tryz.f287 169 (.y 17 186 (.k (λP=>⟨[],[(1,yB (qC.av F)),(2,some (OB.row 96 3 (Xj gF.fv []) .no)),(56,yB (gE.av F.gE)),(59,yB [yO 168 gF.fv P]),(168,yR 96 3 gF.fv P)]⟩)))) (λQ=>⟨[(1,yr 56 0),(4,yr 59 0),(5,AV.fn 287 [yr 59 0]),(34,AV.qT [])],[(1,yB (qC.av F)),(2,some (OB.row 96 3 (Xj gF.fv []) .no)),(56,yB (gE.av F.gE)),(59,yB [yO 168 gF.fv Q]),(168,yR 96 3 gF.fv Q)]⟩))))) h
  rintro v7 h;refine A8 h (λU=>⟨X::yr 56 0::X::X::yr 59 0::AV.fn 287 [yr 59 0]::dd 108 ([]),uH U F F.gE⟩) ?_ ?_
  ·intro _ h;exact Wg (.r (.b (.y 114 186 (.a (.i Tryz.f287 169 (.y 17 186 (.k (λV=>⟨[],[(1,yB (qC.av F)),(2,some (OB.row 96 3 (Xj gF.fv []) .no)),(56,yB (gE.av F.gE)),(59,yB [yO 168 gF.fv V]),(168,yR 96 3 gF.fv V)]⟩)))) (λY=>⟨[(1,yr 56 0),(4,yr 59 0),(5,AV.fn 287 [yr 59 0]),(49,AV.qT [])],[(1,yB (qC.av F)),(2,some (OB.row 96 3 (Xj gF.fv []) .no)),(56,yB (gE.av F.gE)),(59,yB [yO 168 gF.fv Y]),(168,yR 96 3 gF.fv Y)]⟩))) (.y 114 186 (.a (.i Tryz.f287 169 .z) (λ_=>⟨[(1,yr 56 0),(4,yr 59 0),(5,AV.fn 287 [yr 59 0]),(49,AV.qT [])],[(1,yB (qC.av F)),(2,some (OB.row 96 3 (Xj gF.fv []) .no)),(56,yB (gE.av F.gE)),(59,yB [yO 168 gF.fv v7]),(168,yR 96 3 gF.fv v7)]⟩))))) h
  rintro U h;refine .inr (vh (by kernel_rfl) ?_);refine⟨rfl,?_⟩;refine DZ h (λ_=>EX.ok) (λ_=>rfl) λ_ h=>?_;refine cO ?_;refine A8 h (λZ=>⟨X::yr 56 0::X::X::yr 59 0::AV.fn 287 [yr 59 0]::dd 52 (AV.qT []::dd 55 ([])),uH Z F F.gE⟩) ?_ ?_
  ·intro _ h;exact Wg (.i Tryz.f287 169 (.y 17 186 (.k (λa1=>⟨[],[(1,yB (qC.av F)),(2,some (OB.row 96 3 (Xj gF.fv []) .no)),(56,yB (gE.av F.gE)),(59,yB [yO 168 gF.fv a1]),(111,some (OB.row 3 1 (Xj D.i ([F.gE.qW]:I Int)) .rl)),(168,yR 96 3 gF.fv a1)]⟩)))) h
  rintro Z h;refine .inr (vh (by kernel_rfl) ?_);refine⟨rfl,?_⟩;refine DZ h (λ_=>EX.ok) (λ_=>rfl) λ_ h=>?_;refine cO ?_;refine A8 h (λa6=>⟨X::yr 56 0::X::X::yr 59 0::AV.fn 287 [yr 59 0]::dd 61 (AV.qT []::dd 46 ([])),uH a6 F F.gE⟩) ?_ ?_
  ·intro _ h;exact Wg (.i Tryz.f287 169 (.y 17 186 (.k (λa7=>⟨[],[(1,yB (qC.av F)),(2,some (OB.row 96 3 (Xj gF.fv []) .no)),(56,yB (gE.av F.gE)),(59,yB [yO 168 gF.fv a7]),(120,some (OB.row 3 1 (Xj D.i ([F.gE.qd]:I Int)) .rl)),(168,yR 96 3 gF.fv a7)]⟩)))) h
  rintro a6 h;refine .inr (vh (by kernel_rfl) ?_);refine⟨F.gE.cW.length,X6 _,?_⟩;refine DZ h (λ_=>Ix.ok) (λ_=>rfl) λ_ h=>?_;refine cO ?_;refine A8 h (λa8=>⟨X::yr 56 0::X::X::yr 59 0::AV.fn 287 [yr 59 0]::dd 70 (AV.qT []::dd 37 ([])),uH a8 F F.gE⟩) ?_ ?_
  ·intro _ h;exact Wg (.i Tryz.f287 169 (.y 17 186 (.k (λaa=>⟨[],[(1,yB (qC.av F)),(2,some (OB.row 96 3 (Xj gF.fv []) .no)),(56,yB (gE.av F.gE)),(59,yB [yO 168 gF.fv aa]),(168,yR 96 3 gF.fv aa)]⟩)))) h
  rintro a8 h;refine .inr (vh (by kernel_rfl) ?_);refine⟨F.gE.ls.length,X6 _,?_⟩;refine DZ h (λ_=>Me.ok) (λ_=>rfl) λ_ h=>?_;refine cO ?_;refine A8 h (λab=>⟨X::yr 56 0::X::X::yr 59 0::AV.fn 287 [yr 59 0]::dd 79 (AV.qT []::dd 28 ([])),uH ab F F.gE⟩) ?_ ?_
  ·intro _ h;exact Wg (.i Tryz.f287 169 (.y 17 186 (.k (λae=>⟨[],[(1,yB (qC.av F)),(2,some (OB.row 96 3 (Xj gF.fv []) .no)),(56,yB (gE.av F.gE)),(59,yB [yO 168 gF.fv ae]),(168,yR 96 3 gF.fv ae)]⟩)))) h
  rintro ab h;refine .inr (vh (by kernel_rfl) ?_);refine⟨rfl,?_⟩;refine DZ h (λ_=>EX.ok) (λ_=>rfl) λ_ h=>?_;refine cO ?_;refine A8 h (λaf=>⟨X::yr 56 0::X::X::yr 59 0::dd 89 (AV.qT []::dd 19 ([])),uH af F F.gE⟩) ?_ ?_
  ·intro _ h;exact Wg (.i Tryz.f287 169 (.y 17 186 (.k (λag=>⟨[],[(1,yB (qC.av F)),(2,some (OB.row 96 3 (Xj gF.fv []) .no)),(56,yB (gE.av F.gE)),(59,yB [yO 168 gF.fv ag]),(147,some (OB.row 3 1 (Xj D.i ([F.gE.qz]:I Int)) .rl)),(168,yR 96 3 gF.fv ag)]⟩)))) h
  rintro af h;refine⟨F.gE.gS.length,X6 _,?_⟩;refine A8 h (λH=>⟨dd 4 (yr 59 0::dd 109 ([])),N::yB (qC.av F)::some (OB.row 96 3 (Xj gF.fv []) .no)::nn 56 (wX H::nn 108 (yR 96 3 gF.fv H::nn 17 ([])))⟩) ?_ ?_
  ·intro _ h;exact Wg (.y 114 186 (.f0 96 3 gF.fv (λal ah=>⟨[(4,yr 59 0),(96,AV.d (D.l 3 gF.fv F.gE.gS)),(97,yi (F.gE.gS.length:Int)),(98,yi (al:Int))],[(1,yB (qC.av F)),(2,some (OB.row 96 3 (Xj gF.fv []) .no)),(59,yB [yO 168 gF.fv ah]),(168,yR 96 3 gF.fv ah)]⟩))) h
  rintro H h;obtain⟨aq,ai,h⟩:=Aa h;have ao:=Ls ai;refine⟨_,_,some [],Ph (f:=gF.fv) (enters_of Tryz.func293 (by kernel_rfl) rfl) (λh=>Ku.ok h) ai,?_⟩;exact Wg (.x 168 54) h
 rintro⟨v1,M⟩ h;refine A8 h (λaj=>⟨X::yr 1 0::X::yO 54 gF.fv M::dd 18 (yb aj::dd 32 ([])),N::yB (qC.av F)::nn 52 (yR 96 3 gF.fv M::nn 131 ([]))⟩) ?_ ?_
 ·intro _ h;exact Wg .z h
 rintro aj h;refine A8 h (λJ=>⟨X::yr 1 0::X::yO 54 gF.fv J::dd 51 ([]),N::yB (qC.av F)::nn 52 (yR 96 3 gF.fv J::nn 131 ([]))⟩) ?_ ?_
 ·intro _ h;exact Wg .z h
 rintro J h;refine A7 h (λ_=>MB.ok) λan h=>?_;refine⟨an.length,X6 _,?_⟩;refine A8 h (λK=>⟨X::X::X::yO 54 gF.fv K::dd 51 ([]),nn 54 (yR 96 3 gF.fv K::nn 131 ([]))⟩) ?_ ?_
 ·intro _ h;exact Wg .z h
 rintro K h;obtain⟨ar,ak,h⟩:=Aa h;have ap:=Ls ak;refine⟨_,_,some [],Ph (f:=gF.fv) (enters_of Tryz.func243 (by kernel_rfl) rfl) (λh=>Ob.ok h) ak,?_⟩;exact Wg .z h
instance {F:I S} {H:Int}:CK (NG F H) 176 [AV.own 0 (Xj D.u8 F).length,ed H] [.row 5 1 (Xj D.u8 F) .no] (λr=>AV.own 0 (Xj D.u8 r).length) (λr=>[.row 5 1 (Xj D.u8 r) .no]):=Wf 0 Tryz.f176 λh=>by unfold NG at h;exact Wg .z h
instance {F:Int}:CK (IN F) 176 [.d (D.nil 1),ed F] [] (λr=>AV.own 0 (Xj D.u8 r).length) (λr=>[.row 5 1 (Xj D.u8 r) .no]):=Wf 0 Tryz.f176 λh=>by unfold IN at h;exact Wg (.l (.r .z)) h
instance {F:qC}:CK (LG F) 102 [ed F] [] e2 oN:=Wf 0 Tryz.f102 λh=>by unfold LG at h;exact Wg (.s (.s (.s (.n [19] (.v λ_=>.v λ_=>.v λ_=>.v λ_=>.v λH=>.y 40 40 (.k (λJ=>⟨[(2,yO 19 D.u8 H),(3,yb J)],[(19,yR 5 1 D.u8 H)]⟩))))))) h
instance {F:I fI}:CK (Ar F) 162 [ed F,AV.fn 100 []] [] ed oN:=Wf 0 Tryz.f162 λh=>by unfold Ar at h;exact Wg (.y 19 19 (.a (.f0 6 4 fI.fv (λH _=>⟨[(0,y8 F),(1,AV.fn 100 []),(6,y8 F),(7,yi (F.length:Int)),(8,yi (H:Int))],[]⟩)) (λ_=>⟨[],[]⟩))) h
instance {F:I fI}:CK (Ad F) 91 [ed F,AV.fn 100 []] [] ed oN:=Wf 0 Tryz.f91 λh=>by unfold Ad at h;exact Wg .z h
instance QD {F:qC}:CK (J1 F) 49 [ed F] [] ed oN:=Wf 0 Tryz.f49 λh=>by unfold J1 at h;exact Wg (.y 39 39 (.k (λH=>⟨[(1,yr 1 0),(32,yb H)],[(1,yB (qC.av F))]⟩))) h
instance {F:I Int}:CK (C5 F) 105 [ed F] [] ed oN:=Wf 0 Tryz.f105 λh=>by unfold C5 at h;exact Wg .z h
instance {F:I S}:CK (CQ F) 106 [ed F] [] ed oN:=Wf 0 Tryz.f106 λh=>by unfold CQ at h;exact Wg .z h
instance {F:I oF}:CK (CC F) 107 [ed F] [] ed oN:=Wf 0 Tryz.f107 λh=>by unfold CC at h;exact Wg .z h
instance {F:I ls}:CK (DT F) 108 [ed F] [] ed oN:=Wf 0 Tryz.f108 λh=>by unfold DT at h;exact Wg .z h
instance SN {F:gE}:CK (Ff F) 53 [ed F] [] ed oN:=Wf 0 Tryz.f53 λh=>by unfold Ff at h;exact Wg (.y 62 62 (.c (.f0 15 2 oA.fv (λP J=>⟨[(1,yr 1 0),(2,yr 2 0),(4,AV.d (D.l 3 gF.fv F.gS)),(15,AV.d (D.l 2 oA.fv F.Path)),(16,yi (F.Path.length:Int)),(17,yi (P:Int))],[(1,yB [AV.d (D.i F.gT),yO 30 oA.fv J,AV.d (D.b F.Next.V6),AV.d (D.u64 F.Next.Hi),AV.d (D.u64 F.Next.Lo),AV.d (D.i F.qW),AV.d (D.i F.qd),AV.d (D.i F.qz),AV.d (D.l 2 oF.fv F.cW),AV.d (D.l 3 ls.fv F.ls),AV.d (D.nil 3)]),(2,yB gE.zv),(30,yR 93 2 oA.fv J)]⟩)) (λH=>⟨[(1,yr 1 0),(2,yr 2 0),(4,AV.d (D.l 3 gF.fv F.gS))],[(1,yB [AV.d (D.i F.gT),yO 30 oA.fv H,AV.d (D.b F.Next.V6),AV.d (D.u64 F.Next.Hi),AV.d (D.u64 F.Next.Lo),AV.d (D.i F.qW),AV.d (D.i F.qd),AV.d (D.i F.qz),AV.d (D.l 2 oF.fv F.cW),AV.d (D.l 3 ls.fv F.ls),AV.d (D.nil 3)]),(2,yB gE.zv),(30,yR 93 2 oA.fv H)]⟩) λH=>.a (.f0 33 3 gF.fv (λQ K=>⟨[(4,X),(33,AV.d (D.l 3 gF.fv F.gS)),(34,yi (F.gS.length:Int)),(35,yi (Q:Int))],[(1,yB [AV.d (D.i F.gT),yO 30 oA.fv H,AV.d (D.b F.Next.V6),AV.d (D.u64 F.Next.Hi),AV.d (D.u64 F.Next.Lo),AV.d (D.i F.qW),AV.d (D.i F.qd),AV.d (D.i F.qz),AV.d (D.l 2 oF.fv F.cW),AV.d (D.l 3 ls.fv F.ls),yO 50 gF.fv K]),(50,yR 96 3 gF.fv K)]⟩)) (λM=>⟨[(4,X)],[(1,yB [AV.d (D.i F.gT),yO 30 oA.fv H,AV.d (D.b F.Next.V6),AV.d (D.u64 F.Next.Hi),AV.d (D.u64 F.Next.Lo),AV.d (D.i F.qW),AV.d (D.i F.qd),AV.d (D.i F.qz),AV.d (D.l 2 oF.fv F.cW),AV.d (D.l 3 ls.fv F.ls),yO 50 gF.fv M]),(50,yR 96 3 gF.fv M)]⟩))) h
instance {F:o3}:CK (HD F) 132 [ed F] [] ed oN:=Wf 0 Tryz.f132 λh=>by unfold HD at h;exact Wg .z h
end Go.AX.Q25
end
section
namespace Go.AX.Q25
open Go Go.AX Go.Proofs
end Go.AX.Q25
end
section
namespace Go.AX.Q25
open Go Go.AX Go.Proofs
variable {wl:Prop}
instance TX {F:I fT}:CK (GU F) 70 [ed F] [] (λr=>AV.own 0 (Xj fT.fv r).length) (λr=>[.row 71 18 (Xj fT.fv r) .no]):=Wf 0 Tryz.f70 λh=>by unfold GU at h;exact Wg (.y 22 22 (.c (.f0 6 18 fT.fv (λK J=>⟨[(3,yO 3 fT.fv J),(6,y1 F),(7,yi (F.length:Int)),(8,yi (K:Int))],[(3,yR 71 18 fT.fv J)]⟩)) (λH=>⟨[(3,yO 3 fT.fv H)],[(3,yR 71 18 fT.fv H)]⟩) λH=>.l (.r .z))) h
instance {F:I Addr}:CK (Du F) 158 [ed F] [] ed oN:=Wf 0 Tryz.f158 λh=>by unfold Du at h;exact Wg .z h
instance TZ {F:kI}:CK (Gj F) 79 [ed F] [] ed oN:=Wf 0 Tryz.f79 λh=>by unfold Gj at h;exact Wg .z h
instance U1 {F:iA}:CK (FR F) 50 [ed F] [] (λr=>.agg [.d (D.i r.kI.ql),.d (D.s r.kI.Set),.d (D.i r.kI.qh),.d (D.i r.kI.qg),.d (D.l 3 Addr.fv r.kI.oE),.d (D.b r.Up),AV.own 0 (Xj fT.fv r.fT).length,.d (D.i r.oT)]) (λr=>[.row 71 18 (Xj fT.fv r.fT) .no]):=Wf 0 Tryz.f50 λh=>by refine⟨rfl,?_⟩;unfold FR at h;(conv=>whnf);refine .inl (dO ?_);refine DZ h (λ_=>TZ.ok) (λ_=>rfl) λ_ h=>?_;refine iO h (λ_=>TX.ok) rfl λ_ h=>?_;refine cO ?_;(conv=>whnf);refine .inr ⟨[8],?_⟩;exact fin h
instance {F:fT} {H:fI}:CK (DX F H) 104 [ed F,ed H] [] ed oN:=Wf 0 Tryz.f104 λh=>by unfold DX at h;exact Wg .z h
instance {F:I fT} {H:fI}:CK (AS F H) 103 [ed F,ed H,AV.fn 104 []] [] e2 oN:=Wf 0 Tryz.f103 λh=>by unfold AS at h;exact Wg (.y 49 49 (.c (.w (u2 λK M=>⟨[(0,y1 F),(2,AV.fn 104 []),(4,yr 4 0),(8,yi (F.length:Int)),(9,yi K),(10,yi M)],[(4,yB (fI.av H))]⟩) (u2 λK M=>.b (.g (.k (u2 λP Q=>⟨[(9,yi P),(10,yi Q)],[]⟩))) .z)) (λJ=>⟨[(0,y1 F),(2,AV.fn 104 []),(4,yr 4 0),(8,yi (F.length:Int)),(9,yi J)],[(4,yB (fI.av H))]⟩) λJ=>.k (λU=>⟨[(0,X),(2,X),(4,X),(6,yi J),(7,yb U),(8,X),(9,X)],[(4,N)]⟩))) h
instance MO {F:I fT}{H:fI}:CK (D8 F H) 51 [ed F,ed H] [] e2 oN:=Wf 0 Tryz.f51 λh=>by unfold D8 at h;exact Wg .z h
instance PX {F:o3}:CK (Iq F) 177 [ed F] [] ed oN:=Wf 0 Tryz.f177 λh=>by unfold Iq at h;exact Wg (.y 40 40 (.k (λH=>⟨[(2,yb H)],[]⟩))) h
instance TA {F:I oA}:CK (G9 F) 178 [ed F] [] ed oN:=Wf 0 Tryz.f178 λh=>by unfold G9 at h;exact Wg (.y 18 18 (.a (.f0 6 2 oA.fv (λK H=>⟨[(3,yO 3 D.i H),(6,y3 F),(7,yi (F.length:Int)),(8,yi (K:Int))],[(3,yR 3 1 D.i H)]⟩)) (λJ=>⟨[(3,yO 3 D.i J)],[(3,yR 3 1 D.i J)]⟩))) h
instance {F:I oF} {H:oF}:CK (BO F H) 329 [ed F,ed H] [] ed oN:=Wf 0 Tryz.f329 λh=>by unfold BO at h;exact Wg (.y 19 19 (.a (.f0 6 2 oF.fv (λJ _=>⟨[(0,y4 F),(3,yr 3 0),(6,y4 F),(7,yi (F.length:Int)),(8,yi (J:Int))],[(3,yB (oF.av H))]⟩)) (λ_=>⟨[],[]⟩))) h
instance {F:I oF} {H:oF}:CK (BF F H) 295 [ed F,ed H] [] ed oN:=Wf 0 Tryz.f295 λh=>by unfold BF at h;exact Wg .z h
instance {F:I oF} {H:oF}:CK (Io F H) 244 [ed F,ed H] [] ed oN:=Wf 0 Tryz.f244 λh=>by unfold Io at h;exact Wg .z h
instance SU {F:gE}:CK (KQ F) 179 [ed F] [] ed oN:=Wf 0 Tryz.f179 λh=>by unfold KQ at h;exact Wg .z h
instance Of {F:I oA}:CK (It F) 180 [ed F] [] e2 oN:=Wf 0 Tryz.f180 λh=>by unfold It at h;exact Wg (.y 35 35 (.k (λH=>⟨[(0,y3 F),(21,yb H)],[]⟩))) h
instance {F:I oA}:CK (Ju F) 246 [ed F] [] e2 oN:=Wf 0 Tryz.f246 λh=>by unfold Ju at h;exact Wg (.y 24 24 (.k (λH=>⟨[(0,y3 F),(17,yb H)],[]⟩))) h
instance Nh {F:qR}:CK (H7 F) 245 [.ref 0 0] [.box (qR.av F)] (λr=>.d (D.b r.1)) (λr=>[.box (qR.av r.2)]):=Wf 0 Tryz.f245 λh=>by unfold H7 at h;exact Wg (.y 26 27 (.k (λH=>⟨[(2,yb H)],[(0,yB (qR.av F))]⟩))) h
instance {F:I Addr} {H:Addr}:CK (B9 F H) 296 [ed F,ed H] [] ed oN:=Wf 0 Tryz.f296 λh=>by unfold B9 at h;exact Wg (.y 19 19 (.a (.f0 6 3 Addr.fv (λJ _=>⟨[(0,y0 F),(3,yr 3 0),(6,y0 F),(7,yi (F.length:Int)),(8,yi (J:Int))],[(3,yB (Addr.av H))]⟩)) (λ_=>⟨[],[]⟩))) h
instance {F:I Addr} {H:Addr}:CK (Bm F H) 248 [ed F,ed H] [] ed oN:=Wf 0 Tryz.f248 λh=>by unfold Bm at h;exact Wg .z h
instance OH {F:qR}:CK (IP F) 247 [.ref 0 0] [.box (qR.av F)] (λr=>.d (D.b r.1)) (λr=>[.box (qR.av r.2)]):=Wf 0 Tryz.f247 λh=>by unfold IP at h;exact Wg .z h
instance {F:I oA}:CK (Dn F) 250 [ed F] [] ed oN:=Wf 0 Tryz.f250 λh=>by unfold Dn at h;exact Wg (.y 23 23 (.a (.f 6 2 oA.fv (λH J=>⟨[(3,yi J),(6,y3 F),(7,yi (F.length:Int)),(8,yi (H:Int))],[]⟩) (λJ H P=>.g (.k (λK=>⟨[(3,yi K)],[]⟩)))) (λM=>⟨[(3,yi M)],[]⟩))) h
instance OT {F:qR}:CK (K0 F) 249 [.ref 0 0] [.box (qR.av F)] (λr=>.d (D.b r.1)) (λr=>[.box (qR.av r.2)]):=.mk λh=>by cases h
instance Nb {F:qR}:CK (LP F) 251 [.ref 0 0] [.box (qR.av F)] (λr=>.d (D.b r.1)) (λr=>[.box (qR.av r.2)]):=.mk λh=>by cases h
instance Nx {F:qR}:CK (KL F) 253 [.ref 0 0] [.box (qR.av F)] (λr=>.d (D.b r.1)) (λr=>[.box (qR.av r.2)]):=.mk λh=>by cases h
instance JE {F:qR}:CK (G3 F) 256 [.ref 0 0] [.box (qR.av F)] (λr=>.d (D.b r.1)) (λr=>[.box (qR.av r.2)]):=.mk λh=>by cases h
instance Ko {F:qR}:CK (Ic F) 257 [.ref 0 0] [.box (qR.av F)] (λr=>.d (D.b r.1)) (λr=>[.box (qR.av r.2)]):=.mk λh=>by cases h
instance Nl {F:qR}:CK (KZ F) 258 [.ref 0 0] [.box (qR.av F)] (λr=>.d (D.b r.1)) (λr=>[.box (qR.av r.2)]):=.mk λh=>by cases h
instance {F:fI} {H:Addr}:CK (ED F H) 304 [ed F,ed H] [] ed oN:=Wf 0 Tryz.f304 λh=>by unfold ED at h;exact Wg (.y 32 32 (.k (λJ=>⟨[(4,yb J)],[]⟩))) h
instance N2 {F:qR}:CK (KW F) 260 [.ref 0 0] [.box (qR.av F)] (λr=>.d (D.b r.1)) (λr=>[.box (qR.av r.2)]):=.mk λh=>by cases h
instance N9 {F:qR}:CK (LA F) 263 [.ref 0 0] [.box (qR.av F)] (λr=>.d (D.b r.1)) (λr=>[.box (qR.av r.2)]):=.mk λh=>by cases h
instance Jd {F:qR}:CK (HT F) 265 [.ref 0 0] [.box (qR.av F)] (λr=>.d (D.b r.1)) (λr=>[.box (qR.av r.2)]):=.mk λh=>by cases h
def N4 {F:qR}{r:C×qR}(h:KI F=some r):A0 (Wl True) Xai 266 [.ref 0 0] [.box (qR.av F)] (.d (D.b r.1)) [.box (qR.av r.2)]:=by cases h
instance NF {F:qR}:CK (J4 F) 269 [.ref 0 0] [.box (qR.av F)] (λr=>.d (D.b r.1)) (λr=>[.box (qR.av r.2)]):=.mk λh=>by cases h
instance QN:CK (Jr) 181 [] [] ed oN:=Wf 0 Tryz.f181 λh=>by unfold Jr at h;exact Wg .z h
def Nn {J:qI}{a1:kI}{H:o3}{a3:Int}{r:(I Int)}(h:Hz J a1 H a3=some r):A0 (Wl True) Xai 109 [AV.d (qI.fv J),AV.d (kI.fv a1),AV.d (o3.fv H),AV.d (D.i a3)] [] (.d (D.l 1 D.i r)) []:=by
 refine oK Tryz.f109 ⟨rfl,?_⟩;unfold Hz at h;(conv=>whnf);refine A7 h (λ_=>PX.ok) λ_ h=>?_;refine rf ?_;refine EQ h ?_ ?_<;>intro h
 ·(conv=>whnf);refine .inl ?_;(conv=>whnf);refine .inl ?_;refine⟨rfl,?_⟩;exact fin h
 refine .inl (dO ?_);refine DZ h (λ_=>TA.ok) (λ_=>rfl) λv1 h=>?_;refine DZ h (λ_=>SU.ok) (λ_=>rfl) λv2 h=>?_;refine cO ?_;refine A7 h (λ_=>Of.ok) ?_;rintro⟨_,_⟩ h;refine A8 h (λv3=>⟨X::X::X::yi a3::dd 5 (yr 30 0::dd 56 ([])),nn 30 (yB [AV.d (D.i J.tg),AV.d (D.l 4 fI.fv J.rD),AV.d (D.i J.sd),AV.d (D.i J.qh),AV.d (D.i J.s8),AV.d (D.i J.qg),AV.d (D.i J.rK),AV.d (D.i J.rM),AV.d (D.l 4 fI.fv J.qF),AV.d (D.l 2 rc.fv J.qp),AV.d (D.l 1 D.i J.qX),AV.d (D.i J.sf),AV.d (D.l 3 Set.fv J.qS.pk),AV.d (D.l 6 oB.fv J.qS.oX),AV.d (D.l 6 oB.fv J.qi),AV.d (D.i a1.ql),AV.d (D.s a1.Set),AV.d (D.i a1.qh),AV.d (D.i a1.qg),AV.d (D.l 3 Addr.fv a1.oE),AV.d (D.b H.fI.Addr.V6),AV.d (D.u64 H.fI.Addr.Hi),AV.d (D.u64 H.fI.Addr.Lo),AV.d (D.i H.fI.qo),AV.d (D.i H.qM),AV.d (D.i H.gE.gT),AV.d (D.l 2 oA.fv H.gE.Path),AV.d (D.b H.gE.Next.V6),AV.d (D.u64 H.gE.Next.Hi),AV.d (D.u64 H.gE.Next.Lo),AV.d (D.i H.gE.qW),AV.d (D.i H.gE.qd),AV.d (D.i H.gE.qz),AV.d (D.l 2 oF.fv H.gE.cW),AV.d (D.l 3 ls.fv H.gE.ls),AV.d (D.l 3 gF.fv H.gE.gS),y2 v1,yi v3,yb v2]::nn 35 ([]))⟩) ?_ ?_
 ·intro _ h;exact vD h
 rintro v3 h;refine A7 h (λ_=>QN.ok) λv4 h=>?_;refine⟨v4.length,X6 _,?_⟩;refine A8 h (λv5=>⟨dd 12 (yO 12 D.i v5::dd 53 ([])),nn 12 (yR 3 1 D.i v5::nn 53 ([]))⟩) ?_ ?_
 ·intro _ h;revert h;refine EF 43 2 sj.fv rfl (λi6 (v7,v8)=>⟨X::X::X::yi a3::dd 5 (yr 30 0::X::X::yO 12 D.i v8::dd 30 (wo v4::yi (v4.length:Int)::yi (i6:Int)::dd 20 ([]))),nn 12 (yR 3 1 D.i v8::nn 17 (yB (qR.av v7)::nn 35 ([])))⟩) ?_ ?_ ?_
  ·exact wk
  ·rintro⟨v7,v8⟩ K9 h;refine rf ?_;refine ZU kL ?_;exact r6 h
  rintro _ i6 F ⟨v7,v8⟩ K9 b6 c6 e6 h ah;refine rf ?_;refine IB (NM b6) ?_;refine rf ?_;refine⟨GO (f:=sj.fv) b6,sj.fv F,c6,rfl,?_⟩;refine A8 h (λ(ag,ae)=>⟨X::X::X::yi a3::dd 5 (yr 30 0::X::X::yO 12 D.i v8::X::yr 14 0::dd 28 (wo v4::yi (v4.length:Int)::yi (i6:Int)::dd 12 (yb ag::dd 7 ([])))),nn 12 (yR 3 1 D.i v8::N::yB (sj.av F)::nn 15 (yB (qR.av ae)::nn 35 ([])))⟩) ?_ ?_
  ·intro _ h;refine⟨v8.length,IU,?_⟩;refine LL h λh=>?_;(conv=>whnf);by_cases K:(F.qq==245)=true
   ·replace h:=JQ K h;revert h;obtain⟨b0,ai⟩:=F;have K:ai=245:=eq_of_beq K;subst K;intro h;refine A7 h (λ_=>Nh.ok) ?_;rintro⟨_,_⟩ h;exact r6 h
   replace h:=I4 K h;by_cases M:(F.qq==247)=true
   ·replace h:=JQ M h;revert h;obtain⟨ba,aj⟩:=F;have M:aj=247:=eq_of_beq M;subst M;intro h;refine A7 h (λ_=>OH.ok) ?_;rintro⟨_,_⟩ h;exact r6 h
   replace h:=I4 M h;by_cases P:(F.qq==249)=true
   ·replace h:=JQ P h;revert h;obtain⟨bb,ak⟩:=F;have P:ak=249:=eq_of_beq P;subst P;intro h;refine A7 h (λ_=>OT.ok) ?_;rintro⟨_,_⟩ h;exact r6 h
   replace h:=I4 P h;by_cases Q:(F.qq==251)=true
   ·replace h:=JQ Q h;revert h;obtain⟨bc,al⟩:=F;have Q:al=251:=eq_of_beq Q;subst Q;intro h;refine A7 h (λ_=>Nb.ok) ?_;rintro⟨_,_⟩ h;exact r6 h
   replace h:=I4 Q h;by_cases U:(F.qq==253)=true
   ·replace h:=JQ U h;revert h;obtain⟨bd,an⟩:=F;have U:an=253:=eq_of_beq U;subst U;intro h;refine A7 h (λ_=>Nx.ok) ?_;rintro⟨_,_⟩ h;exact r6 h
   replace h:=I4 U h;by_cases V:(F.qq==256)=true
   ·replace h:=JQ V h;revert h;obtain⟨be,ao⟩:=F;have V:ao=256:=eq_of_beq V;subst V;intro h;refine A7 h (λ_=>JE.ok) ?_;rintro⟨_,_⟩ h;exact r6 h
   replace h:=I4 V h;by_cases Y:(F.qq==257)=true
   ·replace h:=JQ Y h;revert h;obtain⟨bf,ap⟩:=F;have Y:ap=257:=eq_of_beq Y;subst Y;intro h;refine A7 h (λ_=>Ko.ok) ?_;rintro⟨_,_⟩ h;exact r6 h
   replace h:=I4 Y h;by_cases Z:(F.qq==258)=true
   ·replace h:=JQ Z h;revert h;obtain⟨bg,aq⟩:=F;have Z:aq=258:=eq_of_beq Z;subst Z;intro h;refine A7 h (λ_=>Nl.ok) ?_;rintro⟨_,_⟩ h;exact r6 h
   replace h:=I4 Z h;by_cases a6:(F.qq==260)=true
   ·replace h:=JQ a6 h;revert h;obtain⟨bh,ar⟩:=F;have a6:ar=260:=eq_of_beq a6;subst a6;intro h;refine A7 h (λ_=>N2.ok) ?_;rintro⟨_,_⟩ h;exact r6 h
   replace h:=I4 a6 h;by_cases a7:(F.qq==263)=true
   ·replace h:=JQ a7 h;revert h;obtain⟨bi,au⟩:=F;have a7:au=263:=eq_of_beq a7;subst a7;intro h;refine A7 h (λ_=>N9.ok) ?_;rintro⟨_,_⟩ h;exact r6 h
   replace h:=I4 a7 h;by_cases a8:(F.qq==265)=true
   ·replace h:=JQ a8 h;revert h;obtain⟨bj,ax⟩:=F;have a8:ax=265:=eq_of_beq a8;subst a8;intro h;refine A7 h (λ_=>Jd.ok) ?_;rintro⟨_,_⟩ h;exact r6 h
   replace h:=I4 a8 h;by_cases aa:(F.qq==266)=true
   ·replace h:=JQ aa h;revert h;obtain⟨bk,ay⟩:=F;have aa:ay=266:=eq_of_beq aa;subst aa;intro h;refine A7 h (λ_=>N4) ?_;rintro⟨_,_⟩ h;exact r6 h
   replace h:=I4 aa h;by_cases ab:(F.qq==269)=true
   ·replace h:=JQ ab h;revert h;obtain⟨bl,az⟩:=F;have ab:az=269:=eq_of_beq ab;subst ab;intro h;refine A7 h (λ_=>NF.ok) ?_;rintro⟨_,_⟩ h;exact r6 h
   replace h:=I4 ab h;exact nomatch h
  rintro⟨ag,ae⟩ h;refine A8 h (λaf=>⟨X::X::X::yi a3::dd 5 (yr 30 0::X::X::yO 12 D.i af::dd 30 (wo v4::yi (v4.length:Int)::yi (i6:Int)::dd 20 ([]))),nn 12 (yR 3 1 D.i af::nn 17 (yB (qR.av ae)::nn 35 ([])))⟩) ?_ ?_
  ·intro _ h;refine LL h λh=>?_;refine⟨rfl,?_⟩;refine vS (f:=D.i) h rfl λ_ h=>?_;exact r6 h
  rintro af h;refine⟨_,e6,?_⟩;exact ah _ _ wk h
 rintro v5 h;(conv=>whnf);refine .inl ?_;(conv=>whnf);refine .inl ?_;refine⟨rfl,?_⟩;exact fin h
def QS {F:qI}{H:kI}{J:o3}{r:Int}(h:Jb F H J=some r):A0 (Wl True) Xai 54 [AV.d (qI.fv F),AV.d (kI.fv H),AV.d (o3.fv J)] [] (.d (D.i r)) []:=by
 refine oK Tryz.f54 ⟨rfl,?_⟩;unfold Jb at h;(conv=>whnf);refine A7 h (λ_=>Nn) λK h=>?_;refine⟨K.length,X6 _,?_⟩;refine rf ?_;refine EQ h ?_ ?_<;>intro h
 ·(conv=>whnf);refine I8 h (λ_=>rfl) λ_ h=>?_;exact fin h
 exact fin h
instance Oq {F:iA}:CK (Bn F) 57 [ed F] [] ed oN:=Wf 0 Tryz.f57 λh=>by unfold Bn at h;exact Wg (.y 9 9 (.k (λH=>⟨[(1,yr 1 0),(2,yr 2 0)],[(1,yB [AV.d (D.i F.kI.ql),AV.d (D.s F.kI.Set),AV.d (D.i F.kI.qh),AV.d (D.i F.kI.qg),AV.d (D.l 3 Addr.fv F.kI.oE),AV.d (D.b F.Up),AV.d (D.l 18 fT.fv F.fT),yi H]),(2,yB iA.zv)]⟩))) h
end Go.AX.Q25
end
section
namespace Go.AX.Q25
open Go Go.AX Go.Shelf Go.RowKit Go.Lib Go.Proofs
namespace I55
section
variable (k:Nat) (zE :∀w,(Go.sizeOf 71).run Tryz.prog w=.ok k w) (qE:(Tryz.prog.info? 71).map (·.size)=some k) (hk:0<k)
include zE qE hk
end
section
variable (i0:TypeInfo) (z:A) (hi0:Tryz.prog.info? 71=some i0) (hz0:i0.zero=some z)
include hi0 hz0
theorem Wm (b off n c J K U:Nat)(F:I A)(w:B)(H:n+1<=c)(a7:c<=9223372036854775807) (M:F.length=i0.size) (V :∀j,j<i0.size->(w.cell? ⟨b,off+n*i0.size+j,none⟩).isSome=true) (Y :∀j,j<i0.size->w.frozen? ⟨b,off+n*i0.size+j,none⟩=false) (Z :∀j v,F[j]?=some v->w.cell? ⟨J,K+j,none⟩=some v) (a1 :∀v∈F,v.oneCell'=true) : Calls Xai 55 #[.slice (some ⟨b,off,none⟩) n c,.int .i64 n,.slice (some ⟨J,K,none⟩) 1 U] w λe w'=> e=.returned (.slice (some ⟨b,off,none⟩) (n+1) c)/\w'=w.setCells b (off+n*i0.size) F:=by
 have a8:=Wo Tryz.underlying25;have u9:=Wo Tryz.underlying71;have u3:=Wo Xd2;have u4:=Wo Tryz.underlying4;have zE :∀w,(Go.sizeOf 71).run Xai w=.ok i0.size w:=λw=>by first|(simp[sizeOf,Xde,hi0];done)|(simp[sizeOf,Xde];simpa using Xae (Option.map TypeInfo.size) hi0)|(simp[sizeOf,Xde];exact X24 (Eq.trans (show some _=Option.map TypeInfo.size (Xai.info? 71) by kernel_rfl) (Xae (Option.map TypeInfo.size) hi0)))
 have a6:Xai.follows .mixedOrders=true:=by kernel_rfl
 have P:Src Xai i0.size 25 (.slice (some ⟨J,K,none⟩) 1 U) 1 F w:=Src.ofSlice w Tryz.underlying25 ⟨J,K,none⟩ 1 U F (by omega) (λj u hj=>by rw[Addr.add_lit];exact Z j u hj) a1;have Q :∀ty,(Xc8 #[25,25] ty #[.slice (some ⟨b,off,none⟩) n c,.slice (some ⟨J,K,none⟩) 1 U]).run Xai w=_:=λty=>
  run_append_room_src w 25 25 ty 71 i0 Tryz.underlying25 hi0 b off n c _ 1 F P H (by rw[M];exact V) (by rw[M];exact Y)
 go_enter Tryz.func55,Tryz.ntmps55
 go_wp2_with (at_builtin;refine Lib.wpList_append_run _ rfl _ _ _ _ rfl _ _ rfl rfl _ _ (Q _) ?_)
 go_ret
 exact⟨rfl,rfl⟩
theorem P6 (base:O Go.Addr)(n c P Q U:Nat)(K M:I A)(w:B)(ag:n<=c)(F:c<n+1)(V:(n+1)*i0.bytes<=140737488355328)(af:n<=140737488355328) (Y:K.length=n*i0.size) (ah:M.length=i0.size) (J:base=none->n=0) (a6 :∀a,base=some a->∀j v,K[j]?=some v->w.cell? (a.add j)=some v) (a7 :∀j v,M[j]?=some v->w.cell? ⟨P,Q+j,none⟩=some v) (a8 :∀v∈M,v.oneCell'=true) : Calls Xai 55 #[.slice base n c,.int .i64 n,.slice (some ⟨P,Q,none⟩) 1 U] w λe w'=> e=.returned (.slice (some ⟨w.heap.size,0,none⟩) (n+1) (Xck w (n+1) c 71))/\ w'=w.drew.alloc (.cells ((K++M).toArray++Xa8 z.cells (Xck w (n+1) c 71-(n+1))) 71):=by
 have ai:=Wo Tryz.underlying25;have u9:=Wo Tryz.underlying71;have u3:=Wo Xd2;have u4:=Wo Tryz.underlying4;have zE :∀w,(Go.sizeOf 71).run Xai w=.ok i0.size w:=λw=>by first|(simp[sizeOf,Xde,hi0];done)|(simp[sizeOf,Xde];simpa using Xae (Option.map TypeInfo.size) hi0)|(simp[sizeOf,Xde];exact X24 (Eq.trans (show some _=Option.map TypeInfo.size (Xai.info? 71) by kernel_rfl) (Xae (Option.map TypeInfo.size) hi0)))
 have aa:Xai.follows .mixedOrders=true:=by kernel_rfl
 have Z:Src Xai i0.size 25 (.slice (some ⟨P,Q,none⟩) 1 U) 1 M w:=Src.ofSlice w Tryz.underlying25 ⟨P,Q,none⟩ 1 U M (by omega) (λj u hj=>by rw[Addr.add_lit];exact a7 j u hj) a8;have a1:(Builtin.firstCells i0.size n (.slice base n c)).run Xai w.drew=.ok K.toArray w.drew:=by
  cases base with
  | none=>have h0:=J rfl;subst h0;have ae:K=[]:=List.length_eq_zero_iff.1 (by rw[Y,Xdg]);rw[ae];exact run_firstCells_none w.drew i0.size 0 0 c
  | some a=>exact run_firstCells_some w.drew i0.size n a n c K Y (λj v hj=>a6 a rfl j v hj)
 have H :∀ty,(Xc8 #[25,25] ty #[.slice base n c,.slice (some ⟨P,Q,none⟩) 1 U]).run Xai w=_:=λty=>
  run_append_grow_src w 25 25 ty 71 i0 _ Tryz.underlying25 hi0 hz0 base n c K a1 _ 1 M Z F (by omega) (growslice_fits F V)
 clear hz0;generalize z.cells=zc at H⊢;cases base with
 | none=>
  have h0:=J rfl;subst h0;show Calls Xai 55 #[.slice none 0 c,.int .i64 0,.slice (some ⟨P,Q,none⟩) 1 U] w _
  go_enter Tryz.func55,Tryz.ntmps55
  go_wp2_with (at_builtin;refine Lib.wpList_append_run _ rfl _ _ _ _ rfl _ _ rfl rfl _ _ (H _) ?_)
  go_ret
  exact⟨rfl,rfl⟩
 | some a=>
  obtain⟨ab,ao,aj⟩:=a
  go_enter Tryz.func55,Tryz.ntmps55
  go_wp2_with (at_builtin;refine Lib.wpList_append_run _ rfl _ _ _ _ rfl _ _ rfl rfl _ _ (H _) ?_)
  all_goals (go_ret;exact⟨rfl,rfl⟩)
end
section
variable (i0:TypeInfo) (z:A) (hi0:Tryz.prog.info? 71=some i0) (hz0:i0.zero=some z) (hzs:z.cells.size=i0.size)
include hi0 hz0 hzs
theorem tB {wl:WL}{es:I D}{x:D}{i:Nat}(Q:i<=es.length)(ag:¬ i<es.length)(hb:(es.length+1)*i0.bytes<=140737488355328)(hn:es.length+1<=140737488355328) : A0 wl Xai 55 [.own 0 es.length,.d (D.i i),.own 1 1] [.row 71 i0.size es .no,.row 71 i0.size [x] .no] (.own 0 (es.length+1)) [.row 71 i0.size (rE es i x) .no,.row 71 i0.size [x] .no]:=by
 refine⟨jj Tryz.func55 (by kernel_rfl) (by kernel_rfl),λw S φ gb hg V hs hr ax m=>?_⟩;have r0:=(hr 0 (by simp)).1;have r1:=(hr 1 (by simp)).1;have r2:=(hr 2 (by simp)).1;simp only[Xao,List.getElem_cons_succ] at r0 r1 r2;have hv:=aR hs rfl rfl rfl;generalize V.getD 0 Xbn=v0 at r0 hv;generalize V.getD 1 Xbn=v1 at r1 hv;generalize V.getD 2 Xbn=v2 at r2 hv;obtain rfl:=r1.int;subst hv;have ah:qt [OB.row 71 i0.size es .no,.row 71 i0.size [x] .no] 0=some (.row 71 i0.size es .no):=rfl;have ay:qt [OB.row 71 i0.size es .no,.row 71 i0.size [x] .no] 1=some (.row 71 i0.size [x] .no):=rfl;obtain⟨hk,s1,s2,s3⟩:=Wc m ah r0;obtain⟨_,t1,t2,t3⟩:=Wc m ay r2;rcases t3 with ⟨_,hx,_⟩|⟨Z,H,az,g,y1,y2,y3,y4,y5,y6,y7,y8,y9⟩
 ·cases hx
 have ai :∀j,j<i0.size->az[H.2+j]?=some (g 0 j):=λj J=>by have:=y7 0 j (by simp) J;rwa [Xdg,Xaa] at this
 obtain rfl:v2=.slice (some ⟨Z,H.2,none⟩) 1 H.1:=y2;have U:=Wj x Q;have q1 :∀q (M:q<(rE es i x).length),(rE es i x)[q].cells.length=i0.size:=λq M=>by
  have b0:q<es.length+1:=by rw[<- U];exact M
  rw[RD Q q M];split
  ·exact s1 _ _
  split
  ·exact t1 0 (by simp)
  exact s1 _ _
 have q2 :∀q (M:q<(rE es i x).length) j (J:j<(rE es i x)[q].cells.length),(rE es i x)[q].cells[j].isAgg=false:=λq M=>by
  rw[RD Q q M];split
  ·exact s2 _ _
  split
  ·exact t2 0 (by simp)
  exact s2 _ _
 have q3 :∀(f:Nat->Nat->A),(∀i (Q:i<es.length) j (J:j<es[i].cells.length),qf S w es[i].cells[j] (f i j))->∀q (M:q<(rE es i x).length) j (J:j<(rE es i x)[q].cells.length),qf S w (rE es i x)[q].cells[j] (S3 f g i q j):=λf hf q M=>by
  have b0:q<es.length+1:=by rw[<- U];exact M
  rw[RD Q q M];unfold S3;by_cases h1:q<i
  ·rw[Xdw h1];intro j J;rw[Xl h1];exact hf _ _ j J
  rw[Xdu h1];by_cases h2:q=i
  ·rw[Xdw h2];intro j J;rw[Xk h1,Xl h2];exact y8 0 (by simp) j J
  rw[Xdu h2];intro j J;rw[Xk h1,Xk h2];exact hf _ _ j J
 have aj:gN (qt [OB.row 71 i0.size (rE es i x) .no,.row 71 i0.size [x] .no]) (.own 0 (es.length+1)):=λr hr=>by simp only[AV.refs,X13] at hr;subst hr;simp[qt]
 have ak:qn (qt [OB.row 71 i0.size es .no,.row 71 i0.size [x] .no]) 0 (some (.row 71 i0.size (rE es i x) .no))=qt [OB.row 71 i0.size (rE es i x) .no,.row 71 i0.size [x] .no]:=by
  funext q;match q with
  | 0=>simp[qt,qn]
  | q+1=>simp[qt,qn]
 have done :∀(w':B) (b:Nat) (c:Rp) (a8:Array A) (f:Nat->Nat->A),(∀i (Q:i<es.length) j (J:j<es[i].cells.length),qf S w es[i].cells[j] (f i j))->(φ 0=some (b,c)\/w.heap.size<=b)->w'.heap[b]?=some (.cells a8 71 (0,0))->es.length+1<=c.1->c.1<=Xb6->c.2+c.1*i0.size<=a8.size->
   (∀k,k<w.heap.size->(∀c,φ 0≠some (k,c))->w'.heap[k]?=w.heap[k]?)->w.heap.size<=w'.heap.size->(w'.os=w.os/\w'.output=w.output/\w'.tape=w.tape/\w.drawn<=w'.drawn)->
   (∀q j,q<es.length+1->j<i0.size->cellAt w' b (c.2+(q*i0.size+j))=some (S3 f g i q j))->
   ∃v,Ending.returned (Value.slice (some ⟨b,c.2,none⟩) (es.length+1) c.1)=Ending.returned v/\∃S' φ',Mem ⟨w,S,IT φ 2,wl,gb,hg⟩ w' S' φ' (qt [OB.row 71 i0.size (rE es i x) .no,.row 71 i0.size [x] .no])/\Kept w S φ (qt [OB.row 71 i0.size es .no,.row 71 i0.size [x] .no]) w' S' φ' (qt [OB.row 71 i0.size (rE es i x) .no,.row 71 i0.size [x] .no])/\gM S' w' φ' (qt [OB.row 71 i0.size (rE es i x) .no,.row 71 i0.size [x] .no]) (.own 0 (es.length+1)) v/\gN (qt [OB.row 71 i0.size (rE es i x) .no,.row 71 i0.size [x] .no]) (.own 0 (es.length+1)):=by
  intro w' b c a8 f hf al hc hl hm a6 hw qE ba K
  obtain⟨m',k'⟩:=Mem.vA m ah (es':=rE es i x) al (by rw[U];omega) hc (by rw[U];exact hl) hm a6 hw qE ba q1 q2 (S3 f g i) (λq j M J=>by
   have:=K q j (by rw[<- U];exact M) J
   rwa [A1 hc] at this) (q3 f hf)
  rw[ak] at m' k';refine⟨_,rfl,S,_,m',k',.own 0 (es.length+1) _ (es.length+1) c.1 _ rfl rfl (λe' bd es' f' hx=>?_) (λcs hx=>by simp[qt] at hx),aj⟩;simp only[qt,List.getElem?_cons_zero,X23,OB.row.injEq] at hx;obtain⟨_,_,rfl,_⟩:=hx;exact⟨by rw[U];exact Xa2 _,λ_=>.inr ⟨b,c,gL _ _ _,rfl⟩⟩
 rcases s3 with ⟨z1,z2,a,z3⟩|⟨b,F,vs,f,x1,x2,x3,x4,x5,x6,x7,x8,x9⟩
 ·
  subst z2 z3;obtain rfl:i=0:=by simpa using Q
  have aa:=grownCap_ge w 1 0 71;have ab:=grownCap_le_maxLen w 1 0 71 (by unfold Xb6;omega)
  refine (P6 i0 z hi0 hz0 a 0 0 Z H.2 H.1 [] (flat 1 i0.size g) w (Xa2 _) (by omega) (by simpa using hb) (by omega) (by simp) (by rw[n4,Nat.one_mul]) (λ_=>rfl) (λ_ _ j v h=>by simp at h) (λj v h=>Hl (n:=1) (f:=g) (g:=λt=>w.cell? ⟨Z,H.2+t,none⟩) (λi j Q J=>by
    obtain rfl:i=0:=by omega
    have:=ai j J;rw[Xdg,Xaa]
    exact (A1 y3 _).trans this) j v h)
   (Ro (es:=[x]) rfl t1 t2 y8 hk)).mono λe w' ⟨he,Y⟩=>?_
  subst he Y;refine done _ w.heap.size (Xck w 1 0 71,0) _ (λ_ _=>Xbn) (λi Q=>by simp at Q) (.inr (Xa2 _)) (Xcq w.drew _) aa ab ?_ (λk hk _=>Dv w.drew _ hk) (by simp) ⟨rfl,rfl,rfl,Nat.le_succ _⟩ ?_
  ·simp only[Array.size_append,Xb9,Xba,n4,size_zeroCells,hzs,<- X31];exact Nat.le_of_eq (by rw[Xaa];congr 1;show _=1+(Xck w 1 0 71-1);omega)
  intro q j M J;refine (A1 (b:=w.heap.size) (Xcq w.drew _) _).trans ?_;have:=UT (n:=0) (f:=λ_ _=>Xbn) (g:=g) (Xa8 z.cells (Xck w (0+1) 0 71-(0+1))) M J;rw[show flat 0 i0.size (λ_ _=>Xbn)=[] by simp[flat]] at this;rw[<- this];congr 1;exact Xaa _
 ·
  subst x2;have be:=sg x3;have bf:=sg y3;have bg:Z≠b:=λe=>by have:=m.inj 1 0 Z H F (by simp[qt]) (by simp[qt]) y1 (e▸x1);omega
  have an:(flat es.length i0.size f).length=es.length*i0.size:=n4 _ _ _;have ao:(flat 1 i0.size g).length=i0.size:=by rw[n4,Nat.one_mul]
  have K :∀t,w.cell? ⟨b,t,none⟩=vs[t]?:=λt=>A1 x3 t;have bb :∀j v,(flat es.length i0.size f)[j]?=some v->w.cell? ⟨b,F.2+j,none⟩=some v:=λj v h=>
   Hl (g:=λt=>w.cell? ⟨b,F.2+t,none⟩) (λi j Q J=>(K _).trans (x7 i j Q J)) j v h
  have ap :∀j v,(flat 1 i0.size g)[j]?=some v->w.cell? ⟨Z,H.2+j,none⟩=some v:=λj v h=>
   Hl (n:=1) (f:=g) (g:=λt=>w.cell? ⟨Z,H.2+t,none⟩) (λi j Q J=>by
    obtain rfl:i=0:=by omega
    rw[Xdg,Xaa]
    exact (A1 y3 _).trans (ai j J)) j v h
  have o1:=Ro (n:=es.length) rfl s1 s2 x8 hk;have o2:=Ro (n:=1) (es:=[x]) rfl t1 t2 y8 hk;have bc :∀t,w.frozen? ⟨b,t,none⟩=false:=λt=>by simp[World.frozen?,x3]
  have bh :∀t,w.frozen? ⟨Z,t,none⟩=false:=λt=>by simp[World.frozen?,y3]
  have aq:F.1<=9223372036854775807:=by have:=x5;unfold Xb6 at this;omega
  by_cases P:es.length+1<=F.1
  ·have a6:(es.length+1)*i0.size<=F.1*i0.size:=X30 _ P;have e2:(es.length+1)*i0.size=es.length*i0.size+i0.size:=Nat.succ_mul _ _;have ar :∀j,j<es.length*i0.size+i0.size->(w.cell? ⟨b,F.2+j,none⟩).isSome=true:=λj J=>by rw[K,Array.getElem?_eq_getElem (by omega)];rfl
   have h0 :∀q j,q<i->j<i0.size->w.cell? ⟨b,F.2+(q*i0.size+j),none⟩=some (f q j):=λq j M J=>(K _).trans (x7 q j (by omega) J);have fin :∀(W:B) (h:W=w\/W=w.drew),∃a7,((W.setCells b (F.2+(i*i0.size+i0.size)) ((flat es.length i0.size f).drop (i*i0.size))).setCells b (F.2+i*i0.size) (flat 1 i0.size g)).heap[b]?=some (.cells a7 71 (0,0))/\a7.size=vs.size/\
     (∀k,k≠b->((W.setCells b (F.2+(i*i0.size+i0.size)) ((flat es.length i0.size f).drop (i*i0.size))).setCells b (F.2+i*i0.size) (flat 1 i0.size g)).heap[k]?=w.heap[k]?)/\((W.setCells b (F.2+(i*i0.size+i0.size)) ((flat es.length i0.size f).drop (i*i0.size))).setCells b (F.2+i*i0.size) (flat 1 i0.size g)).heap.size=w.heap.size/\
     (((W.setCells b (F.2+(i*i0.size+i0.size)) ((flat es.length i0.size f).drop (i*i0.size))).setCells b (F.2+i*i0.size) (flat 1 i0.size g)).os=w.os/\((W.setCells b (F.2+(i*i0.size+i0.size)) ((flat es.length i0.size f).drop (i*i0.size))).setCells b (F.2+i*i0.size) (flat 1 i0.size g)).output=w.output/\ ((W.setCells b (F.2+(i*i0.size+i0.size)) ((flat es.length i0.size f).drop (i*i0.size))).setCells b (F.2+i*i0.size) (flat 1 i0.size g)).tape=w.tape/\w.drawn<=((W.setCells b (F.2+(i*i0.size+i0.size)) ((flat es.length i0.size f).drop (i*i0.size))).setCells b (F.2+i*i0.size) (flat 1 i0.size g)).drawn)/\
     ∀q j,q<es.length+1->j<i0.size->cellAt ((W.setCells b (F.2+(i*i0.size+i0.size)) ((flat es.length i0.size f).drop (i*i0.size))).setCells b (F.2+i*i0.size) (flat 1 i0.size g)) b (F.2+(q*i0.size+j))=some (S3 f g i q j):=by
    intro W hW;have ae:W.heap=w.heap:=by rcases hW with rfl|rfl<;>rfl
    have au :∀a,W.cell? a=w.cell? a:=by rcases hW with rfl|rfl<;>exact λ_=>rfl
    have a1:w.drawn<=W.drawn/\W.os=w.os/\W.output=w.output/\W.tape=w.tape:=by
     rcases hW with rfl|rfl
     ·exact⟨Xa2 _,rfl,rfl,rfl⟩
     exact⟨Nat.le_succ _,rfl,rfl,rfl⟩
    obtain⟨c1,p1,p2,p3,p4,p5,p6,p7,p8⟩:=Jm b ((flat es.length i0.size f).drop (i*i0.size)) (F.2+(i*i0.size+i0.size)) W (by rw[ae];exact x3);obtain⟨c2,u1,u2,u3,u4,u5,u6,u7,u8⟩:=Jm b (flat 1 i0.size g) (F.2+i*i0.size) _ p1;refine⟨c2,u1,by omega,λk hk=>by rw[u3 k hk,p3 k hk,ae],by rw[u4,p4,ae],⟨by rw[u5,p5,a1.2.1],by rw[u6,p6,a1.2.2.1],by rw[u7,p7,a1.2.2.2],by rw[u8,p8];exact a1.1⟩,?_⟩;exact (dE Q W (λt ht=>by rw[au];exact ar t ht) (λq j M J=>by rw[au];exact h0 q j M J)).1
   by_cases af:i<es.length
   ·exact absurd af ag
   obtain rfl:i=es.length:=by omega
   have hd:(flat es.length i0.size f).drop (es.length*i0.size)=[]:=List.drop_eq_nil_of_le (by rw[an];exact Xa2 _);refine (Wm i0 z hi0 hz0 b F.2 es.length F.1 Z H.2 H.1 _ w P aq ao (λj J=>by rw[Xaq];exact ar _ (by omega)) (λj _=>bc _) ap o2).mono λe w' ⟨he,Y⟩=>?_;subst he Y;obtain⟨c2,u1,u2,u3,u4,u5,u6⟩:=fin w (.inl rfl);rw[hd] at u1 u3 u4 u5 u6;exact done _ b F c2 f x8 (.inl x1) u1 P x5 (by rw[u2];exact x6) (λk _ hk=>u3 k λe=>hk F (by rw[e];exact x1)) (Nat.le_of_eq u4.symm) u5 u6
  have aa:=grownCap_ge w (es.length+1) F.1 71;have ab:=grownCap_le_maxLen w (es.length+1) F.1 71 (by unfold Xb6;omega);by_cases af:i<es.length
  ·exact absurd af ag
  obtain rfl:i=es.length:=by omega
  refine (P6 i0 z hi0 hz0 (some ⟨b,F.2,none⟩) es.length F.1 Z H.2 H.1 _ _ w x4 (by omega) hb (by omega) an ao (λh=>by cases h) (λa ha j v h=>by
   cases ha;rw[Addr.qV]
   exact bb j v h) ap o2).mono λe w' ⟨he,Y⟩=>?_
  subst he Y;refine done _ w.heap.size (Xck w (es.length+1) F.1 71,0) _ f x8 (.inr (Xa2 _)) (Xcq w.drew _) aa ab ?_ (λk hk _=>Dv w.drew _ hk) (by simp) ⟨rfl,rfl,rfl,Nat.le_succ _⟩ ?_
  ·simp only[Array.size_append,Xb9,X10,n4,size_zeroCells,hzs,<- X31];exact Nat.le_of_eq (by rw[Xaa];congr 1;show _=es.length+1+(Xck w (es.length+1) F.1 71-(es.length+1));omega)
  intro q j M J;refine (A1 (b:=w.heap.size) (Xcq w.drew _) _).trans ?_;rw[<- UT (Xa8 z.cells (Xck w (es.length+1) F.1 71-(es.length+1))) M J];congr 1;exact Xaa _
end
end I55
namespace I52
section
variable (i0:TypeInfo) (z:A) (hi0:Tryz.prog.info? 71=some i0) (hz0:i0.zero=some z) (hzs:z.cells.size=i0.size)
include hi0 hz0 hzs
end
section
variable (i0:TypeInfo) (z:A) (hi0:Tryz.prog.info? 71=some i0) (hz0:i0.zero=some z) (hzs:z.cells.size=i0.size) (h1z :∀v∈(Builtin.zeroCells z.cells 1).toList,v.oneCell'=true)
include hi0 hz0 hzs h1z
end
end I52
theorem lF :∃(i0:TypeInfo) (z:A),Xai.info? 71=some i0/\i0.zero=some z/\i0.size=18/\i0.bytes=208/\z.cells.size=i0.size/\∀v∈(Xa8 z.cells 1).toList,v.oneCell'=true:=by
 have h:(Xai.info? 71).map (λi=>(i.size,i.bytes,i.zero.map λz=>(z.cells.size,(Xa8 z.cells 1).toList.all λv=>v.oneCell')))=some (18,208,some (18,true)):=by kernel_rfl
 cases J:Xai.info? 71 with
 | none=>rw[J] at h;cases h
 | some i=>
  rw[J] at h;simp only[Xbf,X23,X25] at h;obtain⟨K,M,F⟩:=h;cases H:i.zero with
  | none=>rw[H] at F;cases F
  | some z=>rw[H] at F;simp only[Xbf,X23,X25] at F;exact⟨i,z,rfl,H,K,M,by rw[F.1,K],Xm.1 F.2⟩
theorem WM {wl:WL}{X:Type}{f:X->D}{l r:I X}{i:Int}{x:X}(h:jF 208 l i x=some r) : A0 wl Xai 55 [.own 0 (Xj f l).length,.d (D.i i),.own 1 (Xj f [x]).length] [.row 71 18 (Xj f l) .no,.row 71 18 (Xj f [x]) .no] (.own 0 (Xj f r).length) [.row 71 18 (Xj f r) .no,.row 71 18 (Xj f [x]) .no]:=by obtain⟨rfl,F,H,rfl⟩:=gx h;obtain⟨i0,z,J,K,M,P,Q,_⟩:=lF;have:=I55.tB i0 z J K Q (wl:=wl) (es:=Xj f l) (x:=f x) (i:=l.length) (by simp) (by simp) (by rw[X6,P];exact F) (by rw[X6];exact H);rw[M,show rE (Xj f l) l.length (f x)=Xj f (l++[x]) by (rw[rE,List.take_of_length_le (by simp),List.drop_eq_nil_of_le (by simp)];simp),show (Xj f l).length+1=(Xj f (l++[x])).length by simp] at this;exact this
theorem W5 {wl:WL}{X:Type}{f:X->D}{l r:I X}{i j:Int}(h:oI l i j=some r) : A0 wl Xai 52 [.own 0 (Xj f l).length,.d (D.i i),.d (D.i j)] [.row 71 18 (Xj f l) .no] (.own 1 (Xj f r).length) [.gone,.row 71 18 (Xj f r) .no]:=by cases h
end Go.AX.Q25
end
