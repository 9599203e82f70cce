/-
  Texts of one proof, packed.
-/
import Derived.Test.YtppcmaidcgimpaaGreatDoorU18
import Derived.Test.YtppcmaidcgimpaaGreatDoorU28
import Derived.Test.YtppcmaidcgimpaaGreatDoorU29
set_option linter.all false
set_option maxRecDepth 100000
set_option maxHeartbeats 4000000
open List renaming length_map→X10,length_append→X11,length_drop→X17,length_take→X18,length_replicate→X20,length_set→X21
open Nat renaming le_of_ble_eq_true→X29
open Int renaming toNat→Wo
open List renaming map→Xa1,replicate→Xav,take→Xbx,drop→Xc2
open Go renaming FuncId→Xdm
open Go.Proofs.Tryz renaming prog→Xa9
open Nat renaming beq→Xab
open ByteArray renaming empty→Xac
section
namespace Go.AX.Q25
open Go Go.AX Go.Proofs
variable {wl:Prop}
instance {F:tT}:CK (JG F) 174 [ed F] [] ed oN:=Wf 131 Tryz.f174 λh=>by
 refine⟨rfl,?_⟩;unfold JG at h;(conv=>whnf);refine Ap h (λ(v1,v2)=>⟨X::yr 1 0::dd 8 (AV.wx [yO 54 gH.fv v2,yi v1]::dd 44 ([])),N::yB (tT.av F)::nn 52 (yR 96 3 gH.fv v2::nn 131 ([]))⟩) ?_ ?_
 ·intro _ h;(conv=>whnf);refine inl Tryz.f240 55 (by kernel_rfl) (by kernel_rfl) ⟨rfl,?_⟩;refine Ah h (λ_=>O5.ok) λ_ h=>?_;refine vX ?_;refine Jx h λh=>?_;refine⟨_,UF _,?_⟩;refine Ap h (λv3=>⟨X::yr 56 0::X::X::yr 59 0::AV.fn 287 [yr 59 0]::dd 14 (AV.wx []::dd 93 ([])),CI v3 F F.gE⟩) ?_ ?_
  ·intro _ h;exact Wg (.i Tryz.f287 169 (.y 17 186 (.d (λv4=>⟨[],[(1,yB (tT.av F)),(2,some (OB.row 96 3 (Xa1 gH.fv []) .no)),(56,yB (gE.av F.gE)),(57,some (OB.row 96 3 (Xa1 gH.fv []) .no)),(59,yB [yO 185 gH.fv v4]),(74,some (OB.row 5 1 (Xa1 D.u8 ([(A4 F.gE.gO)]:I S)) .wS)),(185,yR 96 3 gH.fv v4)]⟩) λv4=>.x 185 168))) h
  rintro v3 h;refine Ap h (λv7=>⟨X::yr 56 0::X::X::yr 59 0::AV.fn 287 [yr 59 0]::dd 108 ([]),CI v7 F F.gE⟩) ?_ ?_
  ·intro _ h;exact Wg (.r (.b (.y 114 186 (.a (.i Tryz.f287 169 .z) (λv8=>⟨[(1,yr 56 0),(4,yr 59 0),(5,AV.fn 287 [yr 59 0]),(34,AV.wx [])],[(1,yB (tT.av F)),(2,some (OB.row 96 3 (Xa1 gH.fv []) .no)),(56,yB (gE.av F.gE)),(59,yB [yO 168 gH.fv v8]),(168,yR 96 3 gH.fv v8)]⟩))) (.y 114 186 (.a (.i Tryz.f287 169 (.y 17 186 (.k (λM=>⟨[],[(1,yB (tT.av F)),(2,some (OB.row 96 3 (Xa1 gH.fv []) .no)),(56,yB (gE.av F.gE)),(59,yB [yO 168 gH.fv M]),(168,yR 96 3 gH.fv M)]⟩)))) (λP=>⟨[(1,yr 56 0),(4,yr 59 0),(5,AV.fn 287 [yr 59 0]),(34,AV.wx [])],[(1,yB (tT.av F)),(2,some (OB.row 96 3 (Xa1 gH.fv []) .no)),(56,yB (gE.av F.gE)),(59,yB [yO 168 gH.fv P]),(168,yR 96 3 gH.fv P)]⟩))))) h
  rintro v7 h;refine Ap h (λQ=>⟨X::yr 56 0::X::X::yr 59 0::AV.fn 287 [yr 59 0]::dd 108 ([]),CI Q F F.gE⟩) ?_ ?_
  ·intro _ h;exact Wg (.r (.b (.y 114 186 (.a (.i Tryz.f287 169 (.y 17 186 (.k (λU=>⟨[],[(1,yB (tT.av F)),(2,some (OB.row 96 3 (Xa1 gH.fv []) .no)),(56,yB (gE.av F.gE)),(59,yB [yO 168 gH.fv U]),(168,yR 96 3 gH.fv U)]⟩)))) (λV=>⟨[(1,yr 56 0),(4,yr 59 0),(5,AV.fn 287 [yr 59 0]),(49,AV.wx [])],[(1,yB (tT.av F)),(2,some (OB.row 96 3 (Xa1 gH.fv []) .no)),(56,yB (gE.av F.gE)),(59,yB [yO 168 gH.fv V]),(168,yR 96 3 gH.fv V)]⟩))) (.y 114 186 (.a (.i Tryz.f287 169 .z) (λ_=>⟨[(1,yr 56 0),(4,yr 59 0),(5,AV.fn 287 [yr 59 0]),(49,AV.wx [])],[(1,yB (tT.av F)),(2,some (OB.row 96 3 (Xa1 gH.fv []) .no)),(56,yB (gE.av F.gE)),(59,yB [yO 168 gH.fv v7]),(168,yR 96 3 gH.fv v7)]⟩))))) h
  rintro Q h;refine .inr (Fi (by kernel_rfl) ?_);refine⟨rfl,?_⟩;refine Db h (λ_=>Fo.ok) (λ_=>rfl) λ_ h=>?_;refine cO ?_;refine Ap h (λY=>⟨X::yr 56 0::X::X::yr 59 0::AV.fn 287 [yr 59 0]::dd 52 (AV.wx []::dd 55 ([])),CI Y F F.gE⟩) ?_ ?_
  ·intro _ h;exact Wg (.i Tryz.f287 169 (.y 17 186 (.k (λZ=>⟨[],[(1,yB (tT.av F)),(2,some (OB.row 96 3 (Xa1 gH.fv []) .no)),(56,yB (gE.av F.gE)),(59,yB [yO 168 gH.fv Z]),(111,some (OB.row 3 1 (Xa1 D.i ([F.gE.wo]:I Int)) .wS)),(168,yR 96 3 gH.fv Z)]⟩)))) h
  rintro Y h;refine .inr (Fi (by kernel_rfl) ?_);refine⟨rfl,?_⟩;refine Db h (λ_=>Fo.ok) (λ_=>rfl) λ_ h=>?_;refine cO ?_;refine Ap h (λa1=>⟨X::yr 56 0::X::X::yr 59 0::AV.fn 287 [yr 59 0]::dd 61 (AV.wx []::dd 46 ([])),CI a1 F F.gE⟩) ?_ ?_
  ·intro _ h;exact Wg (.i Tryz.f287 169 (.y 17 186 (.k (λa6=>⟨[],[(1,yB (tT.av F)),(2,some (OB.row 96 3 (Xa1 gH.fv []) .no)),(56,yB (gE.av F.gE)),(59,yB [yO 168 gH.fv a6]),(120,some (OB.row 3 1 (Xa1 D.i ([F.gE.th]:I Int)) .wS)),(168,yR 96 3 gH.fv a6)]⟩)))) h
  rintro a1 h;refine .inr (Fi (by kernel_rfl) ?_);refine⟨F.gE.cW.length,X10 _,?_⟩;refine Db h (λ_=>Kv.ok) (λ_=>rfl) λ_ h=>?_;refine cO ?_;refine Ap h (λa7=>⟨X::yr 56 0::X::X::yr 59 0::AV.fn 287 [yr 59 0]::dd 70 (AV.wx []::dd 37 ([])),CI a7 F F.gE⟩) ?_ ?_
  ·intro _ h;exact Wg (.i Tryz.f287 169 (.y 17 186 (.k (λa8=>⟨[],[(1,yB (tT.av F)),(2,some (OB.row 96 3 (Xa1 gH.fv []) .no)),(56,yB (gE.av F.gE)),(59,yB [yO 168 gH.fv a8]),(168,yR 96 3 gH.fv a8)]⟩)))) h
  rintro a7 h;refine .inr (Fi (by kernel_rfl) ?_);refine⟨F.gE.oB.length,X10 _,?_⟩;refine Db h (λ_=>O8.ok) (λ_=>rfl) λ_ h=>?_;refine cO ?_;refine Ap h (λaa=>⟨X::yr 56 0::X::X::yr 59 0::AV.fn 287 [yr 59 0]::dd 79 (AV.wx []::dd 28 ([])),CI aa F F.gE⟩) ?_ ?_
  ·intro _ h;exact Wg (.i Tryz.f287 169 (.y 17 186 (.k (λab=>⟨[],[(1,yB (tT.av F)),(2,some (OB.row 96 3 (Xa1 gH.fv []) .no)),(56,yB (gE.av F.gE)),(59,yB [yO 168 gH.fv ab]),(168,yR 96 3 gH.fv ab)]⟩)))) h
  rintro aa h;refine .inr (Fi (by kernel_rfl) ?_);refine⟨rfl,?_⟩;refine Db h (λ_=>Fo.ok) (λ_=>rfl) λ_ h=>?_;refine cO ?_;refine Ap h (λae=>⟨X::yr 56 0::X::X::yr 59 0::dd 89 (AV.wx []::dd 19 ([])),CI ae F F.gE⟩) ?_ ?_
  ·intro _ h;exact Wg (.i Tryz.f287 169 (.y 17 186 (.k (λaf=>⟨[],[(1,yB (tT.av F)),(2,some (OB.row 96 3 (Xa1 gH.fv []) .no)),(56,yB (gE.av F.gE)),(59,yB [yO 168 gH.fv af]),(147,some (OB.row 3 1 (Xa1 D.i ([F.gE.vS]:I Int)) .wS)),(168,yR 96 3 gH.fv af)]⟩)))) h
  rintro ae h;refine⟨F.gE.iX.length,X10 _,?_⟩;refine Ap h (λH=>⟨dd 4 (yr 59 0::dd 109 ([])),N::yB (tT.av F)::some (OB.row 96 3 (Xa1 gH.fv []) .no)::nn 56 (Mo H::nn 108 (yR 96 3 gH.fv H::nn 17 ([])))⟩) ?_ ?_
  ·intro _ h;exact Wg (.y 114 186 (.f0 96 3 gH.fv (λak ag=>⟨[(4,yr 59 0),(96,AV.d (D.l 3 gH.fv F.gE.iX)),(97,yi (F.gE.iX.length:Int)),(98,yi (ak:Int))],[(1,yB (tT.av F)),(2,some (OB.row 96 3 (Xa1 gH.fv []) .no)),(59,yB [yO 168 gH.fv ag]),(168,yR 96 3 gH.fv ag)]⟩))) h
  rintro H h;obtain⟨ap,ah,h⟩:=AY h;have an:=OX ah;refine⟨_,_,some [],S8 (f:=gH.fv) (enters_of Tryz.func293 (by kernel_rfl) rfl) (λh=>Nj.ok h) ah,?_⟩;exact Wg (.x 168 54) h
 rintro⟨v1,v2⟩ h;refine Ap h (λai=>⟨X::yr 1 0::X::yO 54 gH.fv v2::dd 18 (yb ai::dd 32 ([])),N::yB (tT.av F)::nn 52 (yR 96 3 gH.fv v2::nn 131 ([]))⟩) ?_ ?_
 ·intro _ h;exact Wg .z h
 rintro ai h;refine Ap h (λJ=>⟨X::yr 1 0::X::yO 54 gH.fv J::dd 51 ([]),N::yB (tT.av F)::nn 52 (yR 96 3 gH.fv J::nn 131 ([]))⟩) ?_ ?_
 ·intro _ h;exact Wg .z h
 rintro J h;refine Ah h (λ_=>Oh.ok) λal h=>?_;refine⟨al.length,X10 _,?_⟩;refine Ap h (λK=>⟨X::X::X::yO 54 gH.fv K::dd 51 ([]),nn 54 (yR 96 3 gH.fv K::nn 131 ([]))⟩) ?_ ?_
 ·intro _ h;exact Wg .z h
 rintro K h;obtain⟨aq,aj,h⟩:=AY h;have ao:=OX aj;refine⟨_,_,some [],S8 (f:=gH.fv) (enters_of Tryz.func243 (by kernel_rfl) rfl) (λh=>RQ.ok h) aj,?_⟩;exact Wg .z h
instance {F:I S} {H:Int}:CK (J6 F H) 176 [AV.own 0 (Xa1 D.u8 F).length,ed H] [.row 5 1 (Xa1 D.u8 F) .no] (λr=>AV.own 0 (Xa1 D.u8 r).length) (λr=>[.row 5 1 (Xa1 D.u8 r) .no]):=Wf 0 Tryz.f176 λh=>by unfold J6 at h;exact Wg .z h
instance {F:Int}:CK (GO F) 176 [.d (D.nil 1),ed F] [] (λr=>AV.own 0 (Xa1 D.u8 r).length) (λr=>[.row 5 1 (Xa1 D.u8 r) .no]):=Wf 0 Tryz.f176 λh=>by unfold GO at h;exact Wg (.l (.r .z)) h
instance {F:tT}:CK (HY F) 102 [ed F] [] e2 oN:=Wf 0 Tryz.f102 λh=>by unfold HY at h;exact Wg (.s (.s (.s (.n [19] (.v λ_=>.v λ_=>.v λ_=>.v λ_=>.v λH=>.y 40 40 (.k (λJ=>⟨[(2,yO 19 D.u8 H),(3,yb J)],[(19,yR 5 1 D.u8 H)]⟩))))))) h
instance {F:I fI}:CK (BA F) 162 [ed F,AV.fn 100 []] [] ed oN:=Wf 0 Tryz.f162 λh=>by unfold BA at h;exact Wg (.y 19 19 (.a (.f0 6 4 fI.fv (λH _=>⟨[(0,y8 F),(1,AV.fn 100 []),(6,y8 F),(7,yi (F.length:Int)),(8,yi (H:Int))],[]⟩)) (λ_=>⟨[],[]⟩))) h
instance {F:I fI}:CK (Ac F) 91 [ed F,AV.fn 100 []] [] ed oN:=Wf 0 Tryz.f91 λh=>by unfold Ac at h;exact Wg .z h
instance Ta {F:tT}:CK (H5 F) 49 [ed F] [] ed oN:=Wf 0 Tryz.f49 λh=>by unfold H5 at h;exact Wg (.y 39 39 (.k (λv1=>⟨[(1,yr 1 0),(32,yb v1)],[(1,yB (tT.av F))]⟩))) h
instance {F:I Int}:CK (Dz F) 105 [ed F] [] ed oN:=Wf 0 Tryz.f105 λh=>by unfold Dz at h;exact Wg .z h
instance {F:I S}:CK (DR F) 106 [ed F] [] ed oN:=Wf 0 Tryz.f106 λh=>by unfold DR at h;exact Wg .z h
instance {F:I qv}:CK (B9 F) 107 [ed F] [] ed oN:=Wf 0 Tryz.f107 λh=>by unfold B9 at h;exact Wg .z h
instance {F:I oB}:CK (C2 F) 108 [ed F] [] ed oN:=Wf 0 Tryz.f108 λh=>by unfold C2 at h;exact Wg .z h
instance Vg {F:gE}:CK (EM F) 53 [ed F] [] ed oN:=Wf 0 Tryz.f53 λh=>by unfold EM at h;exact Wg (.y 62 62 (.c (.f0 15 2 oF.fv (λM H=>⟨[(1,yr 1 0),(2,yr 2 0),(4,AV.d (D.l 3 gH.fv F.iX)),(15,AV.d (D.l 2 oF.fv F.Path)),(16,yi (F.Path.length:Int)),(17,yi (M:Int))],[(1,yB [AV.d (D.i F.gO),yO 30 oF.fv H,AV.d (D.b F.Next.V6),AV.d (D.u64 F.Next.Hi),AV.d (D.u64 F.Next.Lo),AV.d (D.i F.wo),AV.d (D.i F.th),AV.d (D.i F.vS),AV.d (D.l 2 qv.fv F.cW),AV.d (D.l 3 oB.fv F.oB),AV.d (D.nil 3)]),(2,yB gE.zv),(30,yR 93 2 oF.fv H)]⟩)) (λv1=>⟨[(1,yr 1 0),(2,yr 2 0),(4,AV.d (D.l 3 gH.fv F.iX))],[(1,yB [AV.d (D.i F.gO),yO 30 oF.fv v1,AV.d (D.b F.Next.V6),AV.d (D.u64 F.Next.Hi),AV.d (D.u64 F.Next.Lo),AV.d (D.i F.wo),AV.d (D.i F.th),AV.d (D.i F.vS),AV.d (D.l 2 qv.fv F.cW),AV.d (D.l 3 oB.fv F.oB),AV.d (D.nil 3)]),(2,yB gE.zv),(30,yR 93 2 oF.fv v1)]⟩) λv1=>.a (.f0 33 3 gH.fv (λP J=>⟨[(4,X),(33,AV.d (D.l 3 gH.fv F.iX)),(34,yi (F.iX.length:Int)),(35,yi (P:Int))],[(1,yB [AV.d (D.i F.gO),yO 30 oF.fv v1,AV.d (D.b F.Next.V6),AV.d (D.u64 F.Next.Hi),AV.d (D.u64 F.Next.Lo),AV.d (D.i F.wo),AV.d (D.i F.th),AV.d (D.i F.vS),AV.d (D.l 2 qv.fv F.cW),AV.d (D.l 3 oB.fv F.oB),yO 50 gH.fv J]),(50,yR 96 3 gH.fv J)]⟩)) (λK=>⟨[(4,X)],[(1,yB [AV.d (D.i F.gO),yO 30 oF.fv v1,AV.d (D.b F.Next.V6),AV.d (D.u64 F.Next.Hi),AV.d (D.u64 F.Next.Lo),AV.d (D.i F.wo),AV.d (D.i F.th),AV.d (D.i F.vS),AV.d (D.l 2 qv.fv F.cW),AV.d (D.l 3 oB.fv F.oB),yO 50 gH.fv K]),(50,yR 96 3 gH.fv K)]⟩))) h
instance {F:oA}:CK (JB F) 132 [ed F] [] ed oN:=Wf 0 Tryz.f132 λh=>by unfold JB at h;exact Wg .z h
end Go.AX.Q25
end
section
namespace Go.AX.Q25
open Go Go.AX Go.Proofs
def Xg:Xdm->C:=λf=>(match Xab f 301 with|true=>true|false=>(match Xab f 299 with|true=>true|false=>(match Xab f 264 with|true=>true|false=>(match Xab f 261 with|true=>true|false=>(match Xab f 167 with|true=>true|false=>(match Xab f 167 with|true=>true|false=>(match Xab f 162 with|true=>true|false=>(match Xab f 162 with|true=>true|false=>(match Xab f 94 with|true=>true|false=>(match Xab f 94 with|true=>true|false=>(match Xab f 91 with|true=>true|false=>(match Xab f 91 with|true=>true|false=>Uj f))))))))))))
theorem fm {wl:Prop}{f:Xdm}(ex:Nat)(fn:Func){args:I AV}{gL:I OB}{H:AV}{F:I OB} (J : Xa9.funcs[f]? = some fn) (K : (fn.name == "runtime.NumGoroutine") = false) (h : Yy (zw (Wl wl) Xa9 tt wc Xg ex gL.length) fn args gL fun r o => r = H ∧ o = F) : Ao (Wl wl) Xa9 f args gL H F :=
 lu Ys (by kernel_rfl) wc Xg ex J K h
theorem M7 {wl:Prop}{f:Xdm}(fn:Func)(np:Nat){args:I AV}{ob:I (O OB)}{K:AV->I (O OB)->Prop} (F : Xa9.funcs[f]? = some fn) (H : (fn.name == "runtime.NumGoroutine") = false) (h : jt (zw (Wl wl) Xa9 tt wc Xg 0 np) fn args ob K) : Xa (Wl wl) Xa9 f args ob K :=
 j9 Ys (by kernel_rfl) wc Xg np F H h
end Go.AX.Q25
end
section
namespace Go.AX.Q25
open Go Go.AX Go.Proofs
variable {wl:Prop}
instance WN {F:I gD}:CK (IQ F) 70 [ed F] [] (λr=>AV.own 0 (Xa1 gD.fv r).length) (λr=>[.row 71 18 (Xa1 gD.fv r) .no]):=Wf 0 Tryz.f70 λh=>by unfold IQ at h;exact Wg (.y 22 22 (.c (.f0 6 18 gD.fv (λJ H=>⟨[(3,yO 3 gD.fv H),(6,y1 F),(7,yi (F.length:Int)),(8,yi (J:Int))],[(3,yR 71 18 gD.fv H)]⟩)) (λv1=>⟨[(3,yO 3 gD.fv v1)],[(3,yR 71 18 gD.fv v1)]⟩) λv1=>.l (.r .z))) h
instance {F:I Addr}:CK (Ec F) 158 [ed F] [] ed oN:=Wf 0 Tryz.f158 λh=>by unfold Ec at h;exact Wg .z h
instance WQ {F:lf}:CK (Ie F) 79 [ed F] [] ed oN:=Wf 0 Tryz.f79 λh=>by unfold Ie at h;exact Wg .z h
instance Xs {F:ls}:CK (HE F) 50 [ed F] [] (λr=>.agg [.d (D.i r.lf.tS),.d (D.s r.lf.Set),.d (D.i r.lf.tb),.d (D.i r.lf.tv),.d (D.l 3 Addr.fv r.lf.oT),.d (D.b r.Up),AV.own 0 (Xa1 gD.fv r.gD).length,.d (D.i r.oX)]) (λr=>[.row 71 18 (Xa1 gD.fv r.gD) .no]):=Wf 0 Tryz.f50 λh=>by refine⟨rfl,?_⟩;unfold HE at h;(conv=>whnf);refine .inl (dO ?_);refine Db h (λ_=>WQ.ok) (λ_=>rfl) λ_ h=>?_;refine m7 h (λ_=>WN.ok) rfl λ_ h=>?_;refine cO ?_;(conv=>whnf);refine .inr ⟨[8],?_⟩;exact fin h
instance {F:gD} {H:fI}:CK (Cm F H) 104 [ed F,ed H] [] ed oN:=Wf 0 Tryz.f104 λh=>by unfold Cm at h;exact Wg .z h
instance {F:I gD} {H:fI}:CK (AN F H) 103 [ed F,ed H,AV.fn 104 []] [] e2 oN:=Wf 0 Tryz.f103 λh=>by unfold AN at h;exact Wg (.y 49 49 (.c (.w (u2 λv2 J=>⟨[(0,y1 F),(2,AV.fn 104 []),(4,yr 4 0),(8,yi (F.length:Int)),(9,yi v2),(10,yi J)],[(4,yB (fI.av H))]⟩) (u2 λv2 J=>.b (.g (.k (u2 λK M=>⟨[(9,yi K),(10,yi M)],[]⟩))) .z)) (λv1=>⟨[(0,y1 F),(2,AV.fn 104 []),(4,yr 4 0),(8,yi (F.length:Int)),(9,yi v1)],[(4,yB (fI.av H))]⟩) λv1=>.k (λP=>⟨[(0,X),(2,X),(4,X),(6,yi v1),(7,yb P),(8,X),(9,X)],[(4,N)]⟩))) h
instance Oq {F:I gD}{H:fI}:CK (Ci F H) 51 [ed F,ed H] [] e2 oN:=Wf 0 Tryz.f51 λh=>by unfold Ci at h;exact Wg .z h
instance Sz {F:oA}:CK (Gq F) 177 [ed F] [] ed oN:=Wf 0 Tryz.f177 λh=>by unfold Gq at h;exact Wg (.y 40 40 (.k (λv1=>⟨[(2,yb v1)],[]⟩))) h
instance V2 {F:I oF}:CK (I7 F) 178 [ed F] [] ed oN:=Wf 0 Tryz.f178 λh=>by unfold I7 at h;exact Wg (.y 18 18 (.a (.f0 6 2 oF.fv (λJ H=>⟨[(3,yO 3 D.i H),(6,y3 F),(7,yi (F.length:Int)),(8,yi (J:Int))],[(3,yR 3 1 D.i H)]⟩)) (λv1=>⟨[(3,yO 3 D.i v1)],[(3,yR 3 1 D.i v1)]⟩))) h
instance {F:I qv} {H:qv}:CK (BJ F H) 329 [ed F,ed H] [] ed oN:=Wf 0 Tryz.f329 λh=>by unfold BJ at h;exact Wg (.y 19 19 (.a (.f0 6 2 qv.fv (λJ _=>⟨[(0,y4 F),(3,yr 3 0),(6,y4 F),(7,yi (F.length:Int)),(8,yi (J:Int))],[(3,yB (qv.av H))]⟩)) (λ_=>⟨[],[]⟩))) h
instance {F:I qv} {H:qv}:CK (BC F H) 295 [ed F,ed H] [] ed oN:=Wf 0 Tryz.f295 λh=>by unfold BC at h;exact Wg .z h
instance {F:I qv} {H:qv}:CK (Ij F H) 244 [ed F,ed H] [] ed oN:=Wf 0 Tryz.f244 λh=>by unfold Ij at h;exact Wg .z h
instance Vm {F:gE}:CK (Iz F) 179 [ed F] [] ed oN:=Wf 0 Tryz.f179 λh=>by unfold Iz at h;exact Wg .z h
instance RZ {F:I oF}:CK (Gt F) 180 [ed F] [] e2 oN:=Wf 0 Tryz.f180 λh=>by unfold Gt at h;exact Wg (.y 35 35 (.k (λv1=>⟨[(0,y3 F),(21,yb v1)],[]⟩))) h
instance {F:I oF}:CK (Hy F) 246 [ed F] [] e2 oN:=Wf 0 Tryz.f246 λh=>by unfold Hy at h;exact Wg (.y 24 24 (.k (λv1=>⟨[(0,y3 F),(17,yb v1)],[]⟩))) h
instance P4 {F:vZ}:CK (Ek F) 245 [.ref 0 0] [.box (vZ.av F)] (λr=>.d (D.b r.1)) (λr=>[.box (vZ.av r.2)]):=Wf 0 Tryz.f245 λh=>by unfold Ek at h;exact Wg (.y 26 27 (.k (λv1=>⟨[(2,yb v1)],[(0,yB (vZ.av F))]⟩))) h
instance {F:I Addr} {H:Addr}:CK (B0 F H) 296 [ed F,ed H] [] ed oN:=Wf 0 Tryz.f296 λh=>by unfold B0 at h;exact Wg (.y 19 19 (.a (.f0 6 3 Addr.fv (λJ _=>⟨[(0,y0 F),(3,yr 3 0),(6,y0 F),(7,yi (F.length:Int)),(8,yi (J:Int))],[(3,yB (Addr.av H))]⟩)) (λ_=>⟨[],[]⟩))) h
instance {F:I Addr} {H:Addr}:CK (BL F H) 248 [ed F,ed H] [] ed oN:=Wf 0 Tryz.f248 λh=>by unfold BL at h;exact Wg .z h
instance Qg {F:vZ}:CK (Eu F) 247 [.ref 0 0] [.box (vZ.av F)] (λr=>.d (D.b r.1)) (λr=>[.box (vZ.av r.2)]):=Wf 0 Tryz.f247 λh=>by unfold Eu at h;exact Wg .z h
instance {F:I oF}:CK (Dj F) 250 [ed F] [] ed oN:=Wf 0 Tryz.f250 λh=>by unfold Dj at h;exact Wg (.y 23 23 (.a (.f 6 2 oF.fv (λH J=>⟨[(3,yi J),(6,y3 F),(7,yi (F.length:Int)),(8,yi (H:Int))],[]⟩) (λJ H M=>.g (.k (λK=>⟨[(3,yi K)],[]⟩)))) (λv1=>⟨[(3,yi v1)],[]⟩))) h
instance Q0 {F:vZ}:CK (Ej F) 249 [.ref 0 0] [.box (vZ.av F)] (λr=>.d (D.b r.1)) (λr=>[.box (vZ.av r.2)]):=Wf 0 Tryz.f249 λh=>by unfold Ej at h;exact Wg .z h
instance {F:I Int} {H:Int}:CK (ES F H) 297 [ed F,ed H] [] ed oN:=Wf 0 Tryz.f297 λh=>by unfold ES at h;exact Wg (.y 19 19 (.a (.f0 6 1 D.i (λJ _=>⟨[(0,y2 F),(1,yi H),(6,y2 F),(7,yi (F.length:Int)),(8,yi (J:Int))],[]⟩)) (λ_=>⟨[],[]⟩))) h
instance F4 {F:I Int}{H:Int}:CK (Aw F H) 252 [ed F,ed H] [] ed oN:=Wf 0 Tryz.f252 λh=>by unfold Aw at h;exact Wg .z h
instance P2 {F:vZ}:CK (Et F) 251 [.ref 0 0] [.box (vZ.av F)] (λr=>.d (D.b r.1)) (λr=>[.box (vZ.av r.2)]):=Wf 0 Tryz.f251 λh=>by unfold Et at h;exact Wg .z h
instance {F:oF}:CK (Gf F) 255 [ed F] [] ed oN:=Wf 0 Tryz.f255 λh=>by unfold Gf at h;exact Wg .z h
instance {F:I oF}:CK (An F) 298 [ed F,AV.fn 255 []] [] ed oN:=Wf 0 Tryz.f298 λh=>by unfold An at h;exact Wg (.y 19 19 (.a (.f0 6 2 oF.fv (λH _=>⟨[(0,y3 F),(1,AV.fn 255 []),(6,y3 F),(7,yi (F.length:Int)),(8,yi (H:Int))],[]⟩)) (λ_=>⟨[],[]⟩))) h
instance {F:I oF}:CK (AU F) 254 [ed F,AV.fn 255 []] [] ed oN:=Wf 0 Tryz.f254 λh=>by unfold AU at h;exact Wg .z h
instance QL {F:vZ}:CK (Ee F) 253 [.ref 0 0] [.box (vZ.av F)] (λr=>.d (D.b r.1)) (λr=>[.box (vZ.av r.2)]):=Wf 0 Tryz.f253 λh=>by unfold Ee at h;exact Wg .z h
instance {F:wz} {H:Int}:CK (BO F H) 300 [ed F,.ref 0 0] [.box [.d (D.i H)]] (λr=>.d (D.b r.1)) (λr=>[.box [.d (D.i r.2)]]):=Wf 0 Tryz.f300 λh=>by unfold BO at h;exact Wg .z h
instance {H:I wz} {F:Int}:CK (Ai H F) 166 [ed H,AV.fn 300 [.ref 0 0]] [.box [.d (D.i F)]] (λr=>.d (D.i r.1)) (λr=>[.box [.d (D.i r.2)]]):=Wf 0 Tryz.f166 λh=>by unfold Ai at h;exact Wg (.y 19 20 (.a (.f0 6 2 wz.fv (λJ K=>⟨[(0,y9 H),(1,AV.fn 300 [yr 0 0]),(6,y9 H),(7,yi (H.length:Int)),(8,yi (J:Int))],[(0,CA K)]⟩)) (λv1=>⟨[],[(0,CA v1)]⟩))) h
instance {H:I wz} {F:Int}:CK (AP H F) 92 [ed H,AV.fn 300 [.ref 0 0]] [.box [.d (D.i F)]] (λr=>.d (D.b r.1)) (λr=>[.box [.d (D.i r.2)]]):=Wf 0 Tryz.f92 λh=>by unfold AP at h;exact Wg .z h
instance LX {F:vZ}:CK (CH F) 256 [.ref 0 0] [.box (vZ.av F)] (λr=>.d (D.b r.1)) (λr=>[.box (vZ.av r.2)]):=.mk λh=>by
 refine fm 39 Tryz.f256 (by kernel_rfl) (by kernel_rfl) ⟨rfl,?_⟩;unfold CH at h;(conv=>whnf);refine Ap h (λv1=>⟨X::X::yb false::dd 5 (yb v1::[]),yB (vZ.av F)::nn 48 ([])⟩) ?_ ?_
 ·intro _ h;(conv=>whnf);refine M7 Tryz.f94 10 (by kernel_rfl) (by kernel_rfl) ⟨rfl,?_⟩;refine Ap h (λv2=>⟨dd 4 (yb false::X::X::yi v2::X::[]),yB (vZ.av F)::N::zi::nn 46 ([])⟩) ?_ ?_
  ·intro _ h;(conv=>whnf);refine M7 Tryz.f167 19 (by kernel_rfl) (by kernel_rfl) ⟨rfl,?_⟩;refine⟨F.path.length,X10 _,?_⟩;refine Ap h (λ_=>⟨dd 19 ([]),yB (vZ.av F)::N::zi::nn 46 ([])⟩) ?_ ?_
   ·intro _ h;revert h;refine Bi 6 1 D.i rfl (λH _=>⟨AV.d (D.l 1 D.i F.path)::AV.fn 299 [yr 2 0]::dd 4 (AV.d (D.l 1 D.i F.path)::yi (F.path.length:Int)::yi (H:Int)::dd 10 ([])),yB (vZ.av F)::N::zi::nn 46 ([])⟩) ?_ ?_ ?_
    ·exact wk
    ·rintro _ K h;exact Wg (.e .z) h
    rintro _ H M _ K b3 P e3 h Q;refine vX ?_;refine Ea (IC b3) ?_;refine vX ?_;refine⟨D6 (f:=D.i) b3,D.i M,P,rfl,?_⟩;refine Ap h (λJ=>⟨AV.d (D.l 1 D.i F.path)::AV.fn 299 [yr 2 0]::X::X::X::yi (H:Int)::AV.d (D.l 1 D.i F.path)::yi (F.path.length:Int)::yi (H:Int)::dd 7 (yb J::X::X::[]),yB (vZ.av F)::N::zi::nn 46 ([])⟩) ?_ ?_
    ·intro _ h;(conv=>whnf);refine M7 Tryz.f299 38 (by kernel_rfl) (by kernel_rfl) ⟨rfl,?_⟩;exact Wg .z h
    rintro J h;exact Wg .z h
   rintro _ h;exact vu h
  rintro v2 h;exact vu h
 rintro v1 h;exact fin h
instance NZ {F:vZ}:CK (C7 F) 257 [.ref 0 0] [.box (vZ.av F)] (λr=>.d (D.b r.1)) (λr=>[.box (vZ.av r.2)]):=.mk λh=>by
 refine fm 48 Tryz.f257 (by kernel_rfl) (by kernel_rfl) ⟨rfl,?_⟩;unfold C7 at h;(conv=>whnf);refine .inl (dO ?_);refine Db h (λ_=>F4.ok) (λ_=>rfl) λ_ h=>?_;refine cO ?_;refine vX ?_;refine CN h ?_ ?_<;>intro h
 ·exact fin h
 refine Ap h (λv1=>⟨X::X::yb false::dd 16 (yb v1::[]),yB (vZ.av F)::nn 68 ([])⟩) ?_ ?_
 ·intro _ h;(conv=>whnf);refine M7 Tryz.f94 21 (by kernel_rfl) (by kernel_rfl) ⟨rfl,?_⟩;refine Ap h (λv2=>⟨dd 4 (yb false::X::X::yi v2::X::[]),yB (vZ.av F)::N::zi::nn 66 ([])⟩) ?_ ?_
  ·intro _ h;(conv=>whnf);refine M7 Tryz.f167 30 (by kernel_rfl) (by kernel_rfl) ⟨rfl,?_⟩;refine⟨F.path.length,X10 _,?_⟩;refine Ap h (λ_=>⟨dd 19 ([]),yB (vZ.av F)::N::zi::nn 66 ([])⟩) ?_ ?_
   ·intro _ h;revert h;refine Bi 6 1 D.i rfl (λH _=>⟨AV.d (D.l 1 D.i F.path)::AV.fn 301 [yr 2 0]::dd 4 (AV.d (D.l 1 D.i F.path)::yi (F.path.length:Int)::yi (H:Int)::dd 10 ([])),yB (vZ.av F)::N::zi::nn 66 ([])⟩) ?_ ?_ ?_
    ·exact wk
    ·rintro _ K h;exact Wg (.e .z) h
    rintro _ H M _ K b3 P e3 h U;refine vX ?_;refine Ea (IC b3) ?_;refine vX ?_;refine⟨D6 (f:=D.i) b3,D.i M,P,rfl,?_⟩;refine Ap h (λJ=>⟨AV.d (D.l 1 D.i F.path)::AV.fn 301 [yr 2 0]::X::X::X::yi (H:Int)::AV.d (D.l 1 D.i F.path)::yi (F.path.length:Int)::yi (H:Int)::dd 7 (yb J::X::X::[]),yB (vZ.av F)::N::zi::nn 66 ([])⟩) ?_ ?_
    ·intro _ h;(conv=>whnf);refine M7 Tryz.f301 49 (by kernel_rfl) (by kernel_rfl) ⟨rfl,?_⟩;exact Wg (.y 20 69 (.k (λQ=>⟨[(3,yb Q)],[(0,yB (vZ.av F)),(2,yB [yr 0 0])]⟩))) h
    rintro J h;exact Wg .z h
   rintro _ h;exact vu h
  rintro v2 h;exact vu h
 rintro v1 h;exact fin h
instance:CK (MH) 330 [] [] ed oN:=Wf 0 Tryz.f330 λh=>by unfold MH at h;exact Wg .z h
instance {F:Int}:CK (M4 F) 302 [ed F] [] ed oN:=Wf 0 Tryz.f302 λh=>by unfold M4 at h;exact Wg (.y 11 11 (.k (λv1=>⟨[(2,yb v1)],[]⟩))) h
instance {F:Int}:CK (KZ F) 303 [ed F] [] ed oN:=Wf 0 Tryz.f303 λh=>by unfold KZ at h;exact Wg (.y 9 9 (.k (λv1=>⟨[(2,yb v1)],[]⟩))) h
instance {J:Int} {K:Int} {H:gE}:CK (H7 J K H) 259 [ed J,ed K,ed H] [] e2 oN:=Wf 0 Tryz.f259 λh=>by unfold H7 at h;exact Wg (.y 58 58 (.d (λv1=>⟨[(0,yi J),(1,yi K),(5,yr 5 0),(6,yr 6 0),(18,yb v1)],[(5,yB (gE.av H)),(6,yB gE.zv)]⟩) λv1=>.b .z (.d (λv2=>⟨[(8,yb (H.vS !=(-1))),(9,yb v2),(18,X)],[]⟩) λv2=>.d (λM=>⟨[(0,X),(45,yb M)],[]⟩) λM=>.b .z (.v λ(F:gE)=>.d (λP=>⟨[(5,X),(8,X),(9,X),(10,yr 10 0),(45,X),(54,yb P)],[(5,N),(10,yB (gE.av F))]⟩) λP=>.k (λQ=>⟨[(1,X),(54,X)],[(10,yB [AV.d (D.i F.gO),AV.d (D.l 2 oF.fv F.Path),AV.d (D.b F.Next.V6),AV.d (D.u64 F.Next.Hi),AV.d (D.u64 F.Next.Lo),AV.d (D.i F.wo),AV.d (D.i F.th),yi Q,AV.d (D.l 2 qv.fv F.cW),AV.d (D.l 3 oB.fv F.oB),AV.d (D.l 3 gH.fv F.iX)])]⟩))))) h
instance P9 {F:vZ}:CK (Eh F) 258 [.ref 0 0] [.box (vZ.av F)] (λr=>.d (D.b r.1)) (λr=>[.box (vZ.av r.2)]):=Wf 0 Tryz.f258 λh=>by unfold Eh at h;exact Wg .z h
instance {F:fI} {H:Addr}:CK (EF F H) 304 [ed F,ed H] [] ed oN:=Wf 0 Tryz.f304 λh=>by unfold EF at h;exact Wg (.y 32 32 (.k (λv1=>⟨[(4,yb v1)],[]⟩))) h
instance {F:fI} {H:fI}:CK (Br F H) 262 [ed F,ed H] [] ed oN:=Wf 0 Tryz.f262 λh=>by unfold Br at h;exact Wg (.y 16 16 (.k (λv1=>⟨[(4,yb v1)],[]⟩))) h
instance QQ {F:vZ}:CK (Eg F) 260 [.ref 0 0] [.box (vZ.av F)] (λr=>.d (D.b r.1)) (λr=>[.box (vZ.av r.2)]):=.mk λh=>by
 refine fm 48 Tryz.f260 (by kernel_rfl) (by kernel_rfl) ⟨rfl,?_⟩;unfold Eg at h;(conv=>whnf);refine Ap h (λv1=>⟨X::X::yb false::dd 6 (yb v1::[]),yB (vZ.av F)::nn 58 ([])⟩) ?_ ?_
 ·intro _ h;(conv=>whnf);refine M7 Tryz.f91 11 (by kernel_rfl) (by kernel_rfl) ⟨rfl,?_⟩;refine Ap h (λv2=>⟨dd 4 (yb false::X::X::yi v2::X::[]),yB (vZ.av F)::N::zi::nn 56 ([])⟩) ?_ ?_
  ·intro _ h;(conv=>whnf);refine M7 Tryz.f162 20 (by kernel_rfl) (by kernel_rfl) ⟨rfl,?_⟩;refine⟨F.f.wF.length,X10 _,?_⟩;refine Ap h (λ_=>⟨dd 19 ([]),yB (vZ.av F)::N::zi::nn 56 ([])⟩) ?_ ?_
   ·intro _ h;revert h;refine Bi 6 4 fI.fv rfl (λH _=>⟨AV.d (D.l 4 fI.fv F.f.wF)::AV.fn 261 [yr 2 0]::dd 4 (AV.d (D.l 4 fI.fv F.f.wF)::yi (F.f.wF.length:Int)::yi (H:Int)::dd 10 ([])),yB (vZ.av F)::N::zi::nn 56 ([])⟩) ?_ ?_ ?_
    ·exact wk
    ·rintro _ K h;exact Wg (.e .z) h
    rintro _ H M _ K b3 P e3 h U;refine vX ?_;refine Ea (IC b3) ?_;refine vX ?_;refine⟨D6 (f:=fI.fv) b3,fI.fv M,P,rfl,?_⟩;refine Ap h (λJ=>⟨AV.d (D.l 4 fI.fv F.f.wF)::AV.fn 261 [yr 2 0]::X::X::X::yi (H:Int)::AV.d (D.l 4 fI.fv F.f.wF)::yi (F.f.wF.length:Int)::yi (H:Int)::dd 7 (yb J::X::X::[]),yB (vZ.av F)::N::zi::nn 56 ([])⟩) ?_ ?_
    ·intro _ h;(conv=>whnf);refine M7 Tryz.f261 39 (by kernel_rfl) (by kernel_rfl) ⟨rfl,?_⟩;exact Wg (.y 20 59 (.k (λQ=>⟨[(3,yb Q)],[(0,yB (vZ.av F)),(2,yB [yr 0 0])]⟩))) h
    rintro J h;exact Wg .z h
   rintro _ h;exact vu h
  rintro v2 h;exact vu h
 rintro v1 h;exact fin h
instance QY {F:vZ}:CK (En F) 263 [.ref 0 0] [.box (vZ.av F)] (λr=>.d (D.b r.1)) (λr=>[.box (vZ.av r.2)]):=.mk λh=>by
 refine fm 39 Tryz.f263 (by kernel_rfl) (by kernel_rfl) ⟨rfl,?_⟩;unfold En at h;(conv=>whnf);refine Ap h (λv1=>⟨X::X::yb false::dd 6 (yb v1::[]),yB (vZ.av F)::nn 49 ([])⟩) ?_ ?_
 ·intro _ h;(conv=>whnf);refine M7 Tryz.f91 11 (by kernel_rfl) (by kernel_rfl) ⟨rfl,?_⟩;refine Ap h (λv2=>⟨dd 4 (yb false::X::X::yi v2::X::[]),yB (vZ.av F)::N::zi::nn 47 ([])⟩) ?_ ?_
  ·intro _ h;(conv=>whnf);refine M7 Tryz.f162 20 (by kernel_rfl) (by kernel_rfl) ⟨rfl,?_⟩;refine⟨F.f.vt.length,X10 _,?_⟩;refine Ap h (λ_=>⟨dd 19 ([]),yB (vZ.av F)::N::zi::nn 47 ([])⟩) ?_ ?_
   ·intro _ h;revert h;refine Bi 6 4 fI.fv rfl (λH _=>⟨AV.d (D.l 4 fI.fv F.f.vt)::AV.fn 264 [yr 2 0]::dd 4 (AV.d (D.l 4 fI.fv F.f.vt)::yi (F.f.vt.length:Int)::yi (H:Int)::dd 10 ([])),yB (vZ.av F)::N::zi::nn 47 ([])⟩) ?_ ?_ ?_
    ·exact wk
    ·rintro _ K h;exact Wg (.e .z) h
    rintro _ H M _ K b3 P e3 h Q;refine vX ?_;refine Ea (IC b3) ?_;refine vX ?_;refine⟨D6 (f:=fI.fv) b3,fI.fv M,P,rfl,?_⟩;refine Ap h (λJ=>⟨AV.d (D.l 4 fI.fv F.f.vt)::AV.fn 264 [yr 2 0]::X::X::X::yi (H:Int)::AV.d (D.l 4 fI.fv F.f.vt)::yi (F.f.vt.length:Int)::yi (H:Int)::dd 7 (yb J::X::X::[]),yB (vZ.av F)::N::zi::nn 47 ([])⟩) ?_ ?_
    ·intro _ h;(conv=>whnf);refine M7 Tryz.f264 39 (by kernel_rfl) (by kernel_rfl) ⟨rfl,?_⟩;exact Wg .z h
    rintro J h;exact Wg .z h
   rintro _ h;exact vu h
  rintro v2 h;exact vu h
 rintro v1 h;exact fin h
instance ME {F:vZ}:CK (CW F) 265 [.ref 0 0] [.box (vZ.av F)] (λr=>.d (D.b r.1)) (λr=>[.box (vZ.av r.2)]):=Wf 0 Tryz.f265 λh=>by unfold CW at h;exact Wg (.y 65 66 (.k (u3 λv1 v2 H=>⟨[(0,yr 0 0),(3,yi v1),(4,yi v2),(5,yi H)],[(0,yB (vZ.av F))]⟩))) h
instance {F:I kI}:CK (D9 F) 305 [ed F] [] (λr=>AV.own 0 (Xa1 kI.fv r).length) (λr=>[.row 140 6 (Xa1 kI.fv r) .no]):=Wf 0 Tryz.f305 λh=>by unfold D9 at h;exact Wg (.l (.r .z)) h
instance TZ {F:I kI}:CK (FD F) 267 [ed F] [] ed oN:=Wf 0 Tryz.f267 λh=>by unfold FD at h;exact Wg (.n [6] (.v λ(v1:I kI)=>.y 25 25 (.a (.w0 (u2 λJ H=>⟨[(3,yO 6 kI.fv H),(8,yi (v1.length:Int)),(9,yi J)],[(6,yR 140 6 kI.fv H)]⟩)) (λv2=>⟨[(3,yO 6 kI.fv v2)],[(6,yR 140 6 kI.fv v2)]⟩)))) h
def WF {Y:we}{Z:T}{r:(I Int)×(I T)×Int}(h:HC Y Z=some r):Ao (Wl True) Xa9 306 [AV.d (we.fv Y),AV.d (D.s Z)] [] (.wx [.d (D.l 1 D.i r.1),.d (D.l 1 D.s r.2.1),.d (D.i r.2.2)]) []:=by
 refine oK Tryz.f306 ⟨rfl,?_⟩;unfold HC at h;(conv=>whnf);refine Ah h (λ_=>Qs.ok) λ_ h=>?_;refine vX ?_;refine CN h ?_ ?_<;>intro h
 ·exact fin h
 refine⟨Y.ph.length,X10 _,?_⟩;refine Ap h (λv1=>⟨X::ys Z::dd 5 (AV.mp 23::dd 90 ([])),nn 23 (some (OB.map 9 143 (Am D.s Set.fv v1))::nn 74 ([]))⟩) ?_ ?_
 ·intro _ h;revert h;refine Bi 25 3 Set.fv rfl (λi2 v3=>⟨X::ys Z::dd 5 (AV.mp 23::dd 17 (AV.d (D.l 3 Set.fv Y.ph)::yi (Y.ph.length:Int)::yi (i2:Int)::dd 70 ([]))),nn 23 (some (OB.map 9 143 (Am D.s Set.fv v3))::nn 74 ([]))⟩) ?_ ?_ ?_
  ·exact wk
  ·rintro v3 K4 h;refine vX ?_;refine M8 Tv ?_;exact vu h
  rintro _ i2 x5 v3 K4 b2 c2 e2 h p6;refine vX ?_;refine Ea (IC b2) ?_;refine vX ?_;refine⟨D6 (f:=Set.fv) b2,Set.fv x5,c2,rfl,?_⟩;refine⟨_,IV (ek:=D.s) (ev:=Set.fv) (l:=v3) (k:=x5.Name) (v:=x5) Iq,?_⟩;refine⟨_,e2,?_⟩;exact p6 _ _ wk h
 rintro v1 h;obtain⟨v7,g8,h⟩:=AY h;obtain⟨v9,ba,h⟩:=AY h;refine⟨_,GT (ek:=D.s) (ev:=Set.fv) (l:=v1) (k:=Z) Iq,Set.fv v7,UI (z:=(⟨Xac,[],[]⟩:Set)) rfl g8,v9,Yg ba,?_⟩;refine vX ?_;refine CN h ?_ ?_<;>intro h
 ·(conv=>whnf);refine .inl ?_;refine⟨rfl,?_⟩;(conv=>whnf);refine .inl ?_;refine⟨rfl,?_⟩;exact fin h
 refine Ap h (λ(a6,a7)=>⟨dd 13 (AV.mp 45::AV.mp 46::dd 83 ([])),nn 45 (some (OB.map 3 4 (Am D.i D.b a6))::some (OB.map 9 4 (Am D.s D.b a7))::nn 51 ([]))⟩) ?_ ?_
 ·intro _ h;revert h;refine F9 (λ(J,a8,K,H)=>⟨kD H,nn 23 (some (OB.map 9 143 (Am D.s Set.fv v1))::nn 20 (some (OB.map 9 4 (Am D.s D.b J))::some (OB.map 3 4 (Am D.i D.b a8))::some (OB.map 9 4 (Am D.s D.b K))::N::yR 9 1 D.s H::nn 49 ([])))⟩) ?_ ?_
  ·exact wk
  rintro _ ⟨J,a8,K,H⟩ _ h bb;refine⟨H.length,JZ,?_⟩;refine vX ?_;refine G9 h λh=>?_;refine Ap h (λ(aa,ab,ae,P)=>⟨kD P,nn 23 (some (OB.map 9 143 (Am D.s Set.fv v1))::nn 20 (some (OB.map 9 4 (Am D.s D.b aa))::some (OB.map 3 4 (Am D.i D.b ab))::some (OB.map 9 4 (Am D.s D.b ae))::N::yR 9 1 D.s P::nn 49 ([])))⟩) ?_ ?_
  ·intro _ h;obtain⟨af,ag,h⟩:=AY h;refine⟨rfl,MP (f:=D.s) ag,?_⟩;refine⟨rfl,D.s af,(Kt (f:=D.s) ag),?_⟩;obtain⟨F,bc,h⟩:=AY h;obtain⟨bd,be,h⟩:=AY h;refine⟨_,GT (ek:=D.s) (ev:=Set.fv) (l:=v1) (k:=af) Iq,Set.fv F,UI (z:=(⟨Xac,[],[]⟩:Set)) rfl bc,bd,Yg be,?_⟩;refine Ap h (λ(ah,ai,aj,Q)=>⟨kD Q,nn 23 (some (OB.map 9 143 (Am D.s Set.fv v1))::nn 20 (some (OB.map 9 4 (Am D.s D.b ah))::some (OB.map 3 4 (Am D.i D.b ai))::some (OB.map 9 4 (Am D.s D.b aj))::N::yR 9 1 D.s Q::nn 49 ([])))⟩) ?_ ?_
   ·intro _ h;refine Ap h (λ(ak,al,an,U)=>⟨kD U,nn 23 (some (OB.map 9 143 (Am D.s Set.fv v1))::nn 20 (some (OB.map 9 4 (Am D.s D.b ak))::some (OB.map 3 4 (Am D.i D.b al))::some (OB.map 9 4 (Am D.s D.b an))::N::yR 9 1 D.s U::nn 49 ([])))⟩) ?_ ?_
    ·intro _ h;refine CN h ?_ ?_<;>intro h
     ·obtain⟨ao,ap,h⟩:=AY h;refine⟨rfl,MP (f:=D.s) ap,?_⟩;refine⟨rfl,D.s ao,(Kt (f:=D.s) ap),?_⟩;refine⟨_,IV (ek:=D.s) (ev:=D.b) (l:=K) (k:=ao) (v:=true) Iq,?_⟩;exact vu h
     obtain⟨bf,bg,h⟩:=AY h;refine⟨_,GT (ek:=D.s) (ev:=D.b) (l:=J) (k:=F.Name) Iq,D.b bf,UI (z:=false) rfl bg,_,rfl,?_⟩;refine Ap h (λ(aq,ar,V)=>⟨kD V,nn 23 (some (OB.map 9 143 (Am D.s Set.fv v1))::nn 20 (some (OB.map 9 4 (Am D.s D.b aq))::some (OB.map 3 4 (Am D.i D.b ar))::some (OB.map 9 4 (Am D.s D.b K))::N::yR 9 1 D.s V::nn 49 ([])))⟩) ?_ ?_
     ·intro _ h;refine G9 h λh=>?_;refine⟨_,IV (ek:=D.s) (ev:=D.b) (l:=J) (k:=F.Name) (v:=true) Iq,?_⟩;refine⟨F.o3.length,X10 _,?_⟩;refine Ap h (λau=>⟨dd 7 (AV.mp 23::dd 4 (AV.mp 44::AV.mp 45::AV.mp 46::yO 48 D.s H::yr 16 0::dd 81 ([]))),nn 16 (yB (Set.av F)::nn 6 (some (OB.map 9 143 (Am D.s Set.fv v1))::nn 20 (some (OB.map 9 4 (Am D.s D.b (BN J F.Name true)))::some (OB.map 3 4 (Am D.i D.b au))::some (OB.map 9 4 (Am D.s D.b K))::N::yR 9 1 D.s H::nn 49 ([]))))⟩) ?_ ?_
      ·intro _ h;revert h;refine Bi 79 1 D.i rfl (λax M=>⟨dd 7 (AV.mp 23::dd 4 (AV.mp 44::AV.mp 45::AV.mp 46::yO 48 D.s H::yr 16 0::dd 62 (AV.d (D.l 1 D.i F.o3)::yi (F.o3.length:Int)::yi (ax:Int)::dd 16 ([])))),nn 16 (yB (Set.av F)::nn 6 (some (OB.map 9 143 (Am D.s Set.fv v1))::nn 20 (some (OB.map 9 4 (Am D.s D.b (BN J F.Name true)))::some (OB.map 3 4 (Am D.i D.b M))::some (OB.map 9 4 (Am D.s D.b K))::N::yR 9 1 D.s H::nn 49 ([]))))⟩) ?_ ?_ ?_
       ·exact wk
       ·rintro M bh h;refine vX ?_;refine M8 Tv ?_;exact vu h
       rintro _ ax ay M bh az bi bj h bk;refine vX ?_;refine Ea (IC az) ?_;refine vX ?_;refine⟨D6 (f:=D.i) az,D.i ay,bi,rfl,?_⟩;refine⟨_,IV (ek:=D.i) (ev:=D.b) (l:=M) (k:=ay) (v:=true) Je,?_⟩;refine⟨_,bj,?_⟩;exact bk _ _ wk h
      rintro au h;refine Ev (f:=D.s) h rfl λ_ h=>?_;exact vu h
     rintro⟨aq,ar,V⟩ h;exact vu h
    rintro⟨ak,al,an,U⟩ h;exact vu h
   rintro⟨ah,ai,aj,Q⟩ h;exact vu h
  rintro⟨aa,ab,ae,P⟩ h;(conv=>whnf);refine .inr (.inr ?_);obtain⟨bl,b0,h⟩:=AY h;refine⟨fe (f:=D.s) b0,rfl,_,YH (f:=D.s) b0,?_⟩;exact bb _ _ (.swap 53 48 rfl rfl rfl wk) h
 rintro⟨a6,a7⟩ h;refine⟨_,_,some [],eB,?_⟩;refine NC [94] h (λ_ g=>YE g) λ_ h=>?_;refine⟨_,_,some [],bI,?_⟩;refine NC [97] h (λ_ g=>YM g) λ_ h=>?_;(conv=>whnf);refine .inl ?_;refine⟨rfl,?_⟩;(conv=>whnf);refine .inl ?_;refine⟨rfl,?_⟩;exact fin h
instance Vy {F:I kI}{H:fI}{J:Int}:CK (HK F H J) 307 [ed F,ed H,ed J] [] ed oN:=Wf 0 Tryz.f307 λh=>by unfold HK at h;exact Wg (.b .z (.y 40 40 (.a (.f 13 6 kI.fv (λK M=>⟨[(2,yi J),(4,yr 4 0),(7,yi M),(13,zd F),(14,yi (F.length:Int)),(15,yi (K:Int))],[(4,yB (fI.av H))]⟩) (λM K V=>.g (.g (.a (.b .z (.a (.b (.k (λP=>⟨[(7,yi P)],[]⟩)) .z) (λQ=>⟨[(7,yi Q)],[]⟩))) (λU=>⟨[(7,yi U)],[]⟩))))) (λv1=>⟨[(7,yi v1)],[]⟩)))) h
instance GW {F:I kI}:CK (A6 F) 337 [ed F] [] (λr=>AV.own 0 (Xa1 kI.fv r).length) (λr=>[.row 140 6 (Xa1 kI.fv r) .no]):=Wf 0 Tryz.f337 λh=>by
 refine⟨rfl,?_⟩;unfold A6 at h;refine⟨?_,λH=>?_⟩
 ·exact Wg (.l (.r .z)) h
 obtain rfl:F=[]:=(by simpa using H);replace h:=aL h;refine vX ?_;(conv=>whnf);refine .inr ⟨X29 rfl,140,?_⟩;exact fin h
instance Vb {F:kI}{H:kI}:CK (E1 F H) 353 [ed F,ed H] [] ed oN:=Wf 0 Tryz.f353 λh=>by unfold E1 at h;exact Wg .z h
instance FX {F:I kI}:CK (BE F) 354 [AV.own 0 (Xa1 kI.fv F).length] [.row 140 6 (Xa1 kI.fv F) .no] (λr=>AV.own 1 (Xa1 kI.fv r).length) (λr=>[.gone,.row 140 6 (Xa1 kI.fv r) .no]):=Wf 0 Tryz.f354 λh=>by
 refine⟨rfl,?_⟩;unfold BE at h;refine⟨F.length,JZ,?_⟩;refine vX ?_;refine CN h ?_ ?_<;>intro h
 ·exact Wg (.r .z) h
 refine Ap h (λ_=>⟨yO 0 kI.fv F::dd 60 ([]),iy F⟩) ?_ ?_
 ·intro _ h;revert h;refine F9 (λv1=>⟨yO 0 kI.fv F::X::X::yi v1::dd 57 ([]),iy F⟩) ?_ ?_
  ·exact wk
  rintro _ v1 _ h p2;refine⟨F.length,JZ,?_⟩;refine vX ?_;refine G9 h λh=>?_;refine Ap h (λ_=>⟨yO 0 kI.fv F::X::X::yi v1::dd 57 ([]),iy F⟩) ?_ ?_
  ·intro _ h;refine .inl (dO ?_);obtain⟨v3,g4,h⟩:=AY h;refine⟨rfl,MP (f:=kI.fv) g4,?_⟩;refine⟨rfl,kI.fv v3,(Kt (f:=kI.fv) g4),?_⟩;refine⟨_,rfl,?_⟩;obtain⟨v5,g6,h⟩:=AY h;refine⟨rfl,MP (f:=kI.fv) g6,?_⟩;refine⟨rfl,kI.fv v5,(Kt (f:=kI.fv) g6),?_⟩;refine cO ?_;refine vX ?_;refine G9 h λh=>?_;(conv=>whnf);refine .inr (.inl ?_);obtain⟨_,g7,h⟩:=AY h;have ab:=G0 g7;refine⟨Oc (f:=kI.fv) g7,rfl,(Wo v1),(Wo (F.length:Int)-Wo v1),rfl,(by rw[X10]),?_⟩;refine Ap h (λ(K,M)=>⟨yO 0 kI.fv M::X::X::yi K::dd 57 ([]),iy M⟩) ?_ ?_
   ·intro _ h;revert h;refine F9 (λ(Q,P,H)=>⟨yO 0 kI.fv H::X::X::yi Q::AV.xn 0 (Wo v1) (Wo (F.length:Int)-Wo v1) (Xa1 kI.fv H).length::yi P::dd 55 ([]),iy H⟩) ?_ ?_
    ·exact wk
    rintro _ ⟨Q,P,H⟩ _ h af;refine⟨(Wo (F.length:Int)-Wo v1),rfl,?_⟩;refine vX ?_;refine G9 h λh=>?_;refine vX ?_;refine .inl (dO ?_);obtain⟨a7,U,h⟩:=AY h;refine⟨JZ,bv U,_,rfl,?_⟩;refine⟨rfl,kI.fv a7,(dI (f:=kI.fv) U),?_⟩;refine⟨_,rfl,?_⟩;obtain⟨a8,V,h⟩:=AY h;refine⟨JZ,bv V,_,rfl,?_⟩;refine⟨rfl,kI.fv a8,(dI (f:=kI.fv) V),?_⟩;refine cO ?_;refine Ap h (λ(Y,J)=>⟨yO 0 kI.fv J::X::X::yi Y::AV.xn 0 (Wo v1) (Wo (F.length:Int)-Wo v1) (Xa1 kI.fv J).length::yi P::dd 55 ([]),iy J⟩) ?_ ?_
    ·intro _ h;refine G9 h λh=>?_;obtain⟨aa,Z,h⟩:=AY h;refine⟨JZ,bv Z,_,rfl,?_⟩;refine⟨rfl,kI.fv aa,(dI (f:=kI.fv) Z),?_⟩;exact Wg .z h
    rintro⟨Y,J⟩ h;exact Wg .z h
   rintro⟨K,M⟩ h;(conv=>whnf);refine .inr (.inl ?_);obtain⟨_,a1,h⟩:=AY h;have ae:=G0 a1;refine⟨Oc (f:=kI.fv) a1,rfl,(Wo K),(Wo (M.length:Int)-Wo K),rfl,(by rw[X10]),?_⟩;refine⟨JZ,kI.fv (⟨(⟨(⟨false,(0:j),(0:j)⟩:Addr),0⟩:fI),0,0⟩:kI),rfl,Xa1 kI.fv (Xbx (Wo K) M++Xav (Wo (M.length:Int)-Wo K) (⟨(⟨(⟨false,(0:j),(0:j)⟩:Addr),0⟩:fI),0,0⟩:kI)++Xc2 ((Wo K)+(Wo (M.length:Int)-Wo K)) M),YY,?_⟩;(conv=>whnf);refine .inr (.inr ?_);obtain⟨ag,a6,h⟩:=AY h;refine⟨cJ (f:=kI.fv) a6,JZ,_,Sj (f:=kI.fv) a6,?_⟩;exact Wg (.l (.r .z)) h
  rintro _ h;exact Wg .z h
 rintro _ h;exact Wg (.r .z) h
end Go.AX.Q25
end
