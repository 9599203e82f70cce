/-
  Texts of one proof, packed.
-/
import Derived.Test.YtgbncopbacigiaaGreatDoorD15
import Derived.Test.YtgbncopbacigiaaGreatDoorD17
import Derived.Test.YtgbncopbacigiaaGreatDoorD27
import Derived.Test.YtgbncopbacigiaaGreatDoorD28
import Derived.Test.YtgbncopbacigiaaGreatDoorD29
import Derived.Test.YtgbncopbacigiaaGreatDoorD8
import Derived.IntWalk
import Derived.Shelf.Lays
import Derived.Shelf.SlSortCmp.NoneTotal
set_option linter.all false
set_option maxRecDepth 100000
set_option maxHeartbeats 4000000
open List renaming length_map→X10,length_append→X11,getElem?_eq_getElem→X15,length_drop→X17,length_take→X18,length_replicate→X20,length_set→X21
open Option.some renaming injEq→X24,inj→X25
open Prod.mk renaming injEq→X26
open Nat renaming mul_le_mul_right→X31,add_mul→X32
open Int renaming toNat→Xi
open List renaming map→Wr,take→Xaq,drop→Xat,range→Xb4,replicate→Xb6
open Go renaming undef→Xc3,Program→Xcz
open Array renaming range→Xdd
open Go.Proofs.Tryz renaming prog→Xc9
section
namespace Go.AX.Q29
open Go Go.AX Go.Proofs
variable {wl:Prop}
instance {M:O oB} {P:fv} {Q:Int}:CK (Gk M P Q) 190 [ed M,ed P,ed Q] [] e2 oN:=Wf 0 Tryz.f190 λh=>by unfold Gk at h;exact Wg (.y 47 47 (.a (.f 12 6 oB.cW (λY=>u2 λZ U=>⟨[(2,yi Q),(4,yr 4 0),(8,yi Z),(9,yO 9 oB.cW U),(12,uE M),(13,yi (M.length:Int)),(14,yi (Y:Int))],[(4,yB (fv.av P)),(9,yR 134 6 oB.cW U)]⟩) (u2 λZ U Y x7=>.a (.b .z (.v λF=>.d (λH=>⟨[(8,yi H),(9,yO 9 oB.cW F),(11,yr 11 0)],[(9,yR 134 6 oB.cW F),(11,yB (oB.av x7))]⟩) λH=>.d (λJ=>⟨[(11,X),(43,yb J)],[(11,N)]⟩) λJ=>.k (λV=>⟨[(8,yi V),(43,X)],[]⟩))) (u2 λv9 K=>⟨[(8,yi v9),(9,yO 9 oB.cW K)],[(9,yR 134 6 oB.cW K)]⟩))) (u2 λv1 v2=>⟨[(8,yi v1),(9,yO 9 oB.cW v2)],[(9,yR 134 6 oB.cW v2)]⟩))) h
instance {F:mu} {a1:r6} {a2:gD}:CK (Ib F a1 a2) 127 [ed F,ed a1,ed a2] [] ed oN:=Wf 0 Tryz.f127 λh=>by unfold Ib at h;exact Wg (.b .z (.n [27] (.v λv1=>.y 127 127 (.c (.f 29 4 fv.cW (λi3 v4=>⟨[(3,yr 3 0),(4,yr 4 0),(5,yr 5 0),(7,yO 27 D.i v1),(8,yb v4),(9,yb false),(29,AV.d (D.l 4 fv.cW F.rU)),(30,yi (F.rU.length:Int)),(31,yi (i3:Int))],[(3,yB (mu.av F)),(4,yB (r6.av a1)),(5,yB (gD.av a2)),(27,yR 3 1 D.i v1)]⟩) (λv4 i3 x6=>.g (.k (λv8=>⟨[(8,yb v8)],[]⟩)))) (λv2=>⟨[(3,yr 3 0),(4,yr 4 0),(5,yr 5 0),(7,yO 27 D.i v1),(8,yb v2),(9,yb false)],[(3,yB (mu.av F)),(4,yB (r6.av a1)),(5,yB (gD.av a2)),(27,yR 3 1 D.i v1)]⟩) λv2=>.c (.f 50 4 fv.cW (λP Q=>⟨[(9,yb Q),(50,AV.d (D.l 4 fv.cW F.r7)),(51,yi (F.r7.length:Int)),(52,yi (P:Int))],[]⟩) (λQ P a7=>.g (.k (λa6=>⟨[(9,yb a6)],[]⟩)))) (λv9=>⟨[(9,yb v9)],[]⟩) λv9=>.d (λH=>⟨[(7,yO 27 D.i H),(8,X)],[(27,yR 3 1 D.i H)]⟩) λH=>.d (λJ=>⟨[(7,yO 27 D.i J),(9,X)],[(27,yR 3 1 D.i J)]⟩) λJ=>.d (λK=>⟨[(7,yO 27 D.i K)],[(27,yR 3 1 D.i K)]⟩) λK=>.d (u2 λU V=>⟨[(3,X),(14,yr 14 0),(15,uE U)],[(3,N),(14,yB [AV.d (D.l 3 Set.cW F.ry.oT),uE V])]⟩) (u2 λU V=>.d (λY=>⟨[(16,yi Y)],[]⟩) λY=>.d (λM=>⟨[(4,X),(7,yO 27 D.i M),(14,X)],[(4,N),(14,N),(27,yR 3 1 D.i M)]⟩) λM=>.k (λZ=>⟨[(5,X),(7,yO 27 D.i Z),(15,X),(16,X)],[(5,N),(27,yR 3 1 D.i Z)]⟩)))))) h
instance P1 {F:mu}{H:r6}{J:gD}:CK (Gn F H J) 76 [ed F,ed H,ed J] [] ed oN:=Wf 0 Tryz.f76 λh=>by unfold Gn at h;exact Wg .z h
instance {F:pk}:CK (BX F) 78 [ed F] [] ed oN:=Wf 0 Tryz.f78 λh=>by unfold BX at h;exact Wg (.y 18 18 (.a (.f0 6 18 gN.cW (λH _=>⟨[(1,yr 1 0),(2,yr 2 0),(6,AV.d (D.l 18 gN.cW F.gN)),(7,yi (F.gN.length:Int)),(8,yi (H:Int))],[(1,yB (pk.av F)),(2,yB pk.zv)]⟩)) (λ_=>⟨[(1,yr 1 0),(2,yr 2 0)],[(1,yB (pk.av F)),(2,yB pk.zv)]⟩))) h
instance {V:mu} {Q:pk} {H:rZ}:CK (FV V Q H) 46 [ed V,ed Q,ed H] [] e2 oN:=Wf 0 Tryz.f46 λh=>by
 refine⟨rfl,?_⟩;unfold FV at h;(conv=>whnf);refine Ar h (λv1=>⟨X::X::X::yr 3 0::yr 4 0::yr 5 0::yr 6 0::dd 25 (yb v1::dd 104 ([])),N::N::N::yB (mu.av V)::yB (pk.av Q)::yB (rZ.av H)::yB pk.zv::nn 130 ([])⟩) ?_ ?_
 ·intro _ h;exact Wg .z h
 rintro v1 h;refine sI ?_;refine Ce h ?_ ?_<;>intro h
 ·exact fin h
 refine sI ?_;refine Ce h ?_ ?_<;>intro h
 ·exact fin h
 refine QL [39] h (λ_=>Rb.ok) λv2 h=>?_;refine⟨H.qv.length,X10 _,?_⟩;refine Ar h (λv3=>⟨X::X::X::yr 3 0::yr 4 0::yr 5 0::yr 6 0::X::yr 8 0::dd 128 ([]),N::N::N::yB (mu.av V)::yB (pk.av Q)::yB (rZ.av H)::yB pk.zv::N::xO v3 v2.r6.r4 v2.r6.Set v2.r6.rj v2.r6.ri v2.Up v2.ru v2.r6.rz::nn 30 (yR 143 18 gN.cW v3::nn 97 ([]))⟩) ?_ ?_
 ·intro _ h;exact Wg (.y 137 137 (.f 41 4 fv.cW (λi4 v5=>⟨[(3,yr 3 0),(4,yr 4 0),(5,yr 5 0),(6,yr 6 0),(8,yr 8 0),(41,AV.d (D.l 4 fv.cW H.qv)),(42,yi (H.qv.length:Int)),(43,yi (i4:Int))],[(3,yB (mu.av V)),(4,yB (pk.av Q)),(5,yB (rZ.av H)),(6,yB pk.zv),(8,yB [AV.d (D.i v2.r6.r4),AV.d (D.s v2.r6.Set),AV.d (D.i v2.r6.rj),AV.d (D.i v2.r6.ri),AV.d (D.l 3 Addr.cW v2.r6.rz),AV.d (D.b v2.Up),yO 39 gN.cW v5,AV.d (D.i v2.ru)]),(39,yR 143 18 gN.cW v5)]⟩) (λv5 i4 x7=>.n [50] (.x 50 39)))) h
 rintro v3 h;refine⟨H.gT.length,X10 _,?_⟩;refine Ar h (λZ=>⟨dd 4 (yr 4 0::X::yr 6 0::X::yr 8 0::dd 128 ([])),nn 4 (yB (pk.av Q)::N::yB pk.zv::N::xO Z v2.r6.r4 v2.r6.Set v2.r6.rj v2.r6.ri v2.Up v2.ru v2.r6.rz::nn 30 (yR 143 18 gN.cW Z::nn 97 ([])))⟩) ?_ ?_
 ·intro _ h;revert h;refine By 54 4 fv.cW rfl (λU K=>⟨nZ (H.gT.length:Int) (U:Int) H.gT,N::N::N::yB (mu.av V)::yB (pk.av Q)::yB (rZ.av H)::yB pk.zv::N::xO K v2.r6.r4 v2.r6.Set v2.r6.rj v2.r6.ri v2.Up v2.ru v2.r6.rz::nn 30 (yR 143 18 gN.cW K::nn 97 ([]))⟩) ?_ ?_ ?_
  ·exact wk
  ·rintro K ab h;exact Wg (.e .z) h
  rintro _ U J K ab vq ae aj h ak;refine sI ?_;refine GH (JV vq) ?_;refine Ar h (λY=>⟨nZ (H.gT.length:Int) (U:Int) H.gT,N::N::N::yB (mu.av V)::yB (pk.av Q)::yB (rZ.av H)::yB pk.zv::N::yB [AV.d (D.i v2.r6.r4),AV.d (D.s v2.r6.Set),AV.d (D.i v2.r6.rj),AV.d (D.i v2.r6.ri),AV.d (D.l 3 Addr.cW v2.r6.rz),AV.d (D.b v2.Up),yO 103 gN.cW Y,AV.d (D.i v2.ru)]::nn 94 (yR 143 18 gN.cW Y::nn 33 ([]))⟩) ?_ ?_
  ·intro _ h;refine⟨Eo (f:=fv.cW) vq,fv.cW J,ae,rfl,?_⟩;refine .inl (dO ?_);refine IZ h (λ_=>La.ok) (λ_=>rfl) λF h=>?_;refine cO ?_;refine .inl (dO ?_);refine IZ h (λ_=>P1.ok) (λ_=>rfl) λa6 h=>?_;refine cO ?_;refine⟨rfl,?_⟩;refine QL [78] h (λ_=>Nx.ok) λM h=>?_;refine Ar h (λP=>⟨X::X::X::yr 3 0::yr 4 0::yr 5 0::yr 6 0::X::yr 8 0::dd 5 (yr 14 0::yO 78 gN.cW M::yi P::dd 37 (AV.d (D.l 4 fv.cW H.gT)::yi (H.gT.length:Int)::yi (U:Int)::dd 80 ([]))),N::N::N::yB (mu.av V)::yB (pk.av Q)::yB (rZ.av H)::yB pk.zv::N::xO K v2.r6.r4 v2.r6.Set v2.r6.rj v2.r6.ri v2.Up v2.ru v2.r6.rz::nn 5 (yB [AV.d (D.b J.Addr.V6),AV.d (D.u64 J.Addr.Hi),AV.d (D.u64 J.Addr.Lo),AV.d (D.i J.rL),AV.d (D.i Q.r6.r4),AV.d (D.i F.gS),AV.d (D.l 2 oF.cW F.Path),AV.d (D.b F.Next.V6),AV.d (D.u64 F.Next.Hi),AV.d (D.u64 F.Next.Lo),AV.d (D.i F.sd),AV.d (D.i F.rh),AV.d (D.i F.rX),AV.d (D.l 2 r8.cW F.fT),AV.d (D.l 3 n8.cW F.n8),AV.d (D.l 3 kI.cW F.lf),yi a6,yb false]::nn 24 (some (OB.row 143 18 (Wr gN.cW K) .sQ)::nn 38 (yR 143 18 gN.cW M::nn 58 ([]))))⟩) ?_ ?_
   ·intro _ h;exact Wg (.y 137 137 (.w (λa7=>⟨[(3,yr 3 0),(4,yr 4 0),(5,yr 5 0),(6,yr 6 0),(8,yr 8 0),(12,yr 12 0),(14,yr 14 0),(15,yO 78 gN.cW M),(16,yi a7),(54,AV.d (D.l 4 fv.cW H.gT)),(55,yi (H.gT.length:Int)),(56,yi (U:Int))],[(3,yB (mu.av V)),(4,yB (pk.av Q)),(5,yB (rZ.av H)),(6,yB pk.zv),(8,yB [AV.d (D.i v2.r6.r4),AV.d (D.s v2.r6.Set),AV.d (D.i v2.r6.rj),AV.d (D.i v2.r6.ri),AV.d (D.l 3 Addr.cW v2.r6.rz),AV.d (D.b v2.Up),yO 39 gN.cW K,AV.d (D.i v2.ru)]),(12,yB (fv.av J)),(14,yB [AV.d (D.b J.Addr.V6),AV.d (D.u64 J.Addr.Hi),AV.d (D.u64 J.Addr.Lo),AV.d (D.i J.rL),AV.d (D.i Q.r6.r4),AV.d (D.i F.gS),AV.d (D.l 2 oF.cW F.Path),AV.d (D.b F.Next.V6),AV.d (D.u64 F.Next.Hi),AV.d (D.u64 F.Next.Lo),AV.d (D.i F.sd),AV.d (D.i F.rh),AV.d (D.i F.rX),AV.d (D.l 2 r8.cW F.fT),AV.d (D.l 3 n8.cW F.n8),AV.d (D.l 3 kI.cW F.lf),yi a6,yb false]),(39,some (OB.row 143 18 (Wr gN.cW K) .sQ)),(78,yR 143 18 gN.cW M)]⟩) (λa7=>.k (λaf=>⟨[(93,yb af)],[]⟩)))) h
   rintro P h;(conv=>whnf);refine .inr (.inl ?_);obtain⟨_,a8,h⟩:=Aa h;have ai:=Ew a8;refine⟨Kp (f:=gN.cW) a8,rfl,(Xi P),(Xi (M.length:Int)-Xi P),rfl,(by rw[X10]),?_⟩;refine⟨MO,Wr gN.cW (Xaq (Xi (M.length:Int)-Xi P) (Xat (Xi P) M)),LK,?_⟩;refine vH (f:=gN.cW) h λ_ h=>?_;refine .inl (dO ?_);obtain⟨_,ag,h⟩:=Aa h;obtain⟨al,aa,h⟩:=Aa h;refine⟨YP (f:=gN.cW) aa ag,rfl,_,Lh (f:=gN.cW) aa,?_⟩;exact Wg .z h
  rintro Y h;exact Wg (.x 103 39) h
 rintro Z h;exact Wg (.m (.y 137 137 (.k (λah=>⟨[(6,yr 6 0),(8,yr 8 0),(133,yb ah)],[(6,yB pk.zv),(8,yB [AV.d (D.i v2.r6.r4),AV.d (D.s v2.r6.Set),AV.d (D.i v2.r6.rj),AV.d (D.i v2.r6.ri),AV.d (D.l 3 Addr.cW v2.r6.rz),AV.d (D.b v2.Up),yO 39 gN.cW Z,AV.d (D.i v2.ru)]),(39,yR 143 18 gN.cW Z)]⟩)))) h
instance {F:pk}:CK (FA F) 47 [ed F] [] e2 oN:=Wf 0 Tryz.f47 λh=>by unfold FA at h;exact Wg (.b .z (.b .z (.n [13] .z))) h
instance {K:pk} {F:Int} {H:Int}:CK (GW K F H) 48 [ed K,ed F,ed H] [] e2 oN:=Wf 0 Tryz.f48 λh=>by unfold GW at h;exact Wg (.y 58 58 (.d (λv1=>⟨[(1,yi F),(2,yi H),(3,yr 3 0),(6,yr 6 0),(28,yb v1)],[(3,yB (pk.av K)),(6,yB pk.zv)]⟩) λv1=>.b .z (.b .z (.n [35] (.v λ(v2:pk)=>.c (.b (.x 35 57) .z) (λJ=>⟨[(1,X),(2,X),(3,X),(8,yr 8 0),(28,X)],[(3,N),(8,yB [AV.d (D.i v2.r6.r4),AV.d (D.s v2.r6.Set),AV.d (D.i v2.r6.rj),AV.d (D.i v2.r6.ri),AV.d (D.l 3 Addr.cW v2.r6.rz),yb false,yO 35 gN.cW J,yi (AQ (F+H))]),(35,yR 143 18 gN.cW J)]⟩) λJ=>.a (.w0 (u2 λQ M=>⟨[(46,yi (J.length:Int)),(47,yi Q)],[(8,yB [AV.d (D.i v2.r6.r4),AV.d (D.s v2.r6.Set),AV.d (D.i v2.r6.rj),AV.d (D.i v2.r6.ri),AV.d (D.l 3 Addr.cW v2.r6.rz),yb false,yO 35 gN.cW M,yi (AQ (F+H))]),(35,yR 143 18 gN.cW M)]⟩)) (λP=>⟨[],[(8,yB [AV.d (D.i v2.r6.r4),AV.d (D.s v2.r6.Set),AV.d (D.i v2.r6.rj),AV.d (D.i v2.r6.ri),AV.d (D.l 3 Addr.cW v2.r6.rz),yb false,yO 35 gN.cW P,yi (AQ (F+H))]),(35,yR 143 18 gN.cW P)]⟩)))))) h
instance {K:pk} {H:Int}:CK (FD K H) 51 [ed K,ed H] [] ed oN:=Wf 0 Tryz.f51 λh=>by unfold FD at h;exact Wg (.n [10] (.v λ(v1:pk)=>.n [13] (.v λ(v2:pk)=>.y 52 52 (.a (.o 13 143 18 gN.cW (λM J=>⟨[(1,yi H),(4,yr 4 0),(5,yr 5 0),(14,AV.own 13 (Wr gN.cW v2.gN).length),(15,yi (v2.gN.length:Int)),(16,yi (M:Int))],[(4,yB pk.zv),(5,yB [AV.d (D.i v1.r6.r4),AV.d (D.s v1.r6.Set),AV.d (D.i v1.r6.rj),AV.d (D.i v1.r6.ri),AV.d (D.l 3 Addr.cW v1.r6.rz),AV.d (D.b v1.Up),yO 47 gN.cW J,AV.d (D.i v1.ru)]),(13,some (OB.row 143 18 (Wr gN.cW v2.gN) .no)),(47,yR 143 18 gN.cW J)]⟩) (λJ M U=>.g (.d (λP=>⟨[(7,yr 7 0),(42,yb P)],[(7,yB (gN.av U))]⟩) λP=>.k (λF=>⟨[(7,X),(42,X)],[(5,yB [AV.d (D.i v1.r6.r4),AV.d (D.s v1.r6.Set),AV.d (D.i v1.r6.rj),AV.d (D.i v1.r6.ri),AV.d (D.l 3 Addr.cW v1.r6.rz),AV.d (D.b v1.Up),yO 47 gN.cW F,AV.d (D.i v1.ru)]),(7,N),(47,yR 143 18 gN.cW F)]⟩)))) (λQ=>⟨[(4,yr 4 0),(5,yr 5 0)],[(4,yB pk.zv),(5,yB [AV.d (D.i v1.r6.r4),AV.d (D.s v1.r6.Set),AV.d (D.i v1.r6.rj),AV.d (D.i v1.r6.ri),AV.d (D.l 3 Addr.cW v1.r6.rz),AV.d (D.b v1.Up),yO 47 gN.cW Q,AV.d (D.i v1.ru)]),(47,yR 143 18 gN.cW Q)]⟩))))) h
instance {F:sM} {a1:sX}:CK (FC F a1) 19 [ed F,ed a1] [] e3 oN:=Wf 0 Tryz.f19 λh=>by
 refine⟨rfl,?_⟩;unfold FC at h;(conv=>whnf);refine QL [16,146] h (λ_=>RS.ok) λv1 h=>?_;refine⟨rfl,?_⟩;refine⟨rfl,?_⟩;refine ky h (λ_=>VV.ok) λv2 h=>?_;refine sI ?_;refine Ce h ?_ ?_<;>intro h
 ·exact fin h
 refine sI ?_;refine Ar h (λ(v3,J,v5)=>⟨X::X::yr 2 0::X::yr 4 0::X::X::yr 7 0::X::yi v3::dd 137 ([]),N::N::yB (sM.av F)::N::yB sM.zv::N::N::yB [AV.d (D.i v1.mu.sK),AV.d (D.l 4 fv.cW v1.mu.rU),AV.d (D.i v1.mu.sq),AV.d (D.i v1.mu.rj),AV.d (D.i v1.mu.sl),AV.d (D.i v1.mu.ri),AV.d (D.i v1.mu.rR),AV.d (D.i v1.mu.rS),AV.d (D.l 4 fv.cW v1.mu.r7),AV.d (D.l 2 s8.cW v1.mu.oE),AV.d (D.l 1 D.i v1.mu.rI),AV.d (D.i v1.mu.rV),AV.d (D.l 3 Set.cW v1.mu.ry.oT),AV.d (D.l 6 oB.cW v1.mu.ry.n5),AV.d (D.l 6 oB.cW v1.mu.n9),yO 16 r5.cW J,yO 146 pk.cW v5]::nn 8 (yR 72 7 r5.cW J::nn 129 (yR 108 8 pk.cW v5::[]))⟩) ?_ ?_
 ·intro _ h;exact Wg (.b .z (.y 147 147 (.a (.b .z (.a (.b .z (.a (.b (.v λaa=>.d (λM=>⟨[(2,yr 2 0),(3,yr 3 0),(4,yr 4 0),(7,yr 7 0),(8,yi v2),(9,yi aa),(93,yb M)],[(2,yB (sM.av F)),(3,yB (sX.av a1)),(4,yB sM.zv),(7,yB [AV.d (D.i v1.mu.sK),AV.d (D.l 4 fv.cW v1.mu.rU),AV.d (D.i v1.mu.sq),AV.d (D.i v1.mu.rj),AV.d (D.i v1.mu.sl),AV.d (D.i v1.mu.ri),AV.d (D.i v1.mu.rR),AV.d (D.i v1.mu.rS),AV.d (D.l 4 fv.cW v1.mu.r7),AV.d (D.l 2 s8.cW v1.mu.oE),AV.d (D.l 1 D.i v1.mu.rI),AV.d (D.i v1.mu.rV),AV.d (D.l 3 Set.cW v1.mu.ry.oT),AV.d (D.l 6 oB.cW v1.mu.ry.n5),AV.d (D.l 6 oB.cW v1.mu.n9),AV.own 16 (Wr r5.cW v1.fI).length,AV.own 146 (Wr pk.cW v1.o3).length]),(16,some (OB.row 72 7 (Wr r5.cW v1.fI) .no)),(146,some (OB.row 108 8 (Wr pk.cW v1.o3) .no))]⟩) λM=>.k (λab=>⟨[(9,yi ab),(93,X)],[]⟩)) (.k (u2 λae P=>⟨[(2,yr 2 0),(4,yr 4 0),(7,yr 7 0),(9,yi ae)],[(2,yB (sM.av F)),(4,yB sM.zv),(7,yB [AV.d (D.i v1.mu.sK),AV.d (D.l 4 fv.cW v1.mu.rU),AV.d (D.i v1.mu.sq),AV.d (D.i v1.mu.rj),AV.d (D.i v1.mu.sl),AV.d (D.i v1.mu.ri),AV.d (D.i v1.mu.rR),AV.d (D.i v1.mu.rS),AV.d (D.l 4 fv.cW v1.mu.r7),AV.d (D.l 2 s8.cW v1.mu.oE),AV.d (D.l 1 D.i v1.mu.rI),AV.d (D.i v1.mu.rV),AV.d (D.l 3 Set.cW v1.mu.ry.oT),AV.d (D.l 6 oB.cW v1.mu.ry.n5),AV.d (D.l 6 oB.cW v1.mu.n9),AV.own 16 (Wr r5.cW v1.fI).length,yO 146 pk.cW P]),(16,some (OB.row 72 7 (Wr r5.cW v1.fI) .no)),(146,yR 108 8 pk.cW P)]⟩))) (u3 λaf Q U=>⟨[(2,yr 2 0),(4,yr 4 0),(7,yr 7 0),(9,yi af)],[(2,yB (sM.av F)),(4,yB sM.zv),(7,yB [AV.d (D.i v1.mu.sK),AV.d (D.l 4 fv.cW v1.mu.rU),AV.d (D.i v1.mu.sq),AV.d (D.i v1.mu.rj),AV.d (D.i v1.mu.sl),AV.d (D.i v1.mu.ri),AV.d (D.i v1.mu.rR),AV.d (D.i v1.mu.rS),AV.d (D.l 4 fv.cW v1.mu.r7),AV.d (D.l 2 s8.cW v1.mu.oE),AV.d (D.l 1 D.i v1.mu.rI),AV.d (D.i v1.mu.rV),AV.d (D.l 3 Set.cW v1.mu.ry.oT),AV.d (D.l 6 oB.cW v1.mu.ry.n5),AV.d (D.l 6 oB.cW v1.mu.n9),yO 16 r5.cW Q,yO 146 pk.cW U]),(16,yR 72 7 r5.cW Q),(146,yR 108 8 pk.cW U)]⟩))) (u3 λag V Y=>⟨[(2,yr 2 0),(4,yr 4 0),(7,yr 7 0),(9,yi ag)],[(2,yB (sM.av F)),(4,yB sM.zv),(7,yB [AV.d (D.i v1.mu.sK),AV.d (D.l 4 fv.cW v1.mu.rU),AV.d (D.i v1.mu.sq),AV.d (D.i v1.mu.rj),AV.d (D.i v1.mu.sl),AV.d (D.i v1.mu.ri),AV.d (D.i v1.mu.rR),AV.d (D.i v1.mu.rS),AV.d (D.l 4 fv.cW v1.mu.r7),AV.d (D.l 2 s8.cW v1.mu.oE),AV.d (D.l 1 D.i v1.mu.rI),AV.d (D.i v1.mu.rV),AV.d (D.l 3 Set.cW v1.mu.ry.oT),AV.d (D.l 6 oB.cW v1.mu.ry.n5),AV.d (D.l 6 oB.cW v1.mu.n9),yO 16 r5.cW V,yO 146 pk.cW Y]),(16,yR 72 7 r5.cW V),(146,yR 108 8 pk.cW Y)]⟩))) (u3 λah Z a6=>⟨[(2,yr 2 0),(4,yr 4 0),(7,yr 7 0),(9,yi ah)],[(2,yB (sM.av F)),(4,yB sM.zv),(7,yB [AV.d (D.i v1.mu.sK),AV.d (D.l 4 fv.cW v1.mu.rU),AV.d (D.i v1.mu.sq),AV.d (D.i v1.mu.rj),AV.d (D.i v1.mu.sl),AV.d (D.i v1.mu.ri),AV.d (D.i v1.mu.rR),AV.d (D.i v1.mu.rS),AV.d (D.l 4 fv.cW v1.mu.r7),AV.d (D.l 2 s8.cW v1.mu.oE),AV.d (D.l 1 D.i v1.mu.rI),AV.d (D.i v1.mu.rV),AV.d (D.l 3 Set.cW v1.mu.ry.oT),AV.d (D.l 6 oB.cW v1.mu.ry.n5),AV.d (D.l 6 oB.cW v1.mu.n9),yO 16 r5.cW Z,yO 146 pk.cW a6]),(16,yR 72 7 r5.cW Z),(146,yR 108 8 pk.cW a6)]⟩)))) h
 rintro⟨v3,J,v5⟩ h;refine sI ?_;refine Ce h ?_ ?_<;>intro h
 ·exact Wg .z h
 refine⟨rfl,?_⟩;refine⟨rfl,?_⟩;refine B1 h (λ_=>Rn.ok) λa7 h=>?_;refine⟨J.length,MO,?_⟩;refine Ar h (λK=>⟨dd 4 (yr 4 0::dd 5 (yr 10 0::yO 11 rG.cW K::dd 135 ([]))),nn 4 (yB sM.zv::nn 5 (yB (sM.av a7)::yR 87 22 rG.cW K::nn 135 ([])))⟩) ?_ ?_
 ·intro _ h;revert h;refine QY 16 72 7 .sQ r5.cW rfl (λa8 H=>⟨X::X::yr 2 0::X::yr 4 0::dd 5 (yr 10 0::yO 11 rG.cW H::dd 110 (yO 16 r5.cW J::yi (J.length:Int)::yi (a8:Int)::dd 22 ([]))),N::N::yB (sM.av F)::N::yB sM.zv::nn 5 (yB (sM.av a7)::yR 87 22 rG.cW H::nn 4 (some (OB.row 72 7 (Wr r5.cW J) .sQ)::nn 130 ([])))⟩) ?_ ?_ ?_
  ·exact wk
  ·rintro H ai h;exact Wg (.e .z) h
  rintro _ a8 aj H ai ak al an h ao;exact Wg (.t .z) h
 rintro K h;exact Wg .z h
instance Hj {Q:oX}:CK (C0 Q) 5 [.ref 0 0] [.box (oX.av Q)] (λr=>.sH [ed r.1,ed r.2.1,ed r.2.2.1]) (λr=>[.box (oX.av r.2.2.2)]):=Wf 0 Tryz.f5 λh=>by unfold C0 at h;exact Wg (.v λv1=>.v λ_=>.y 53 54 (.a (.w (u4 λU V Y K=>⟨[(0,yr 0 0),(2,yr 3 0),(4,yr 5 0),(5,yr 6 0),(6,yr 7 0),(8,yO 9 sX.cW K),(9,yi U)],[(0,yB (oX.av V)),(3,yB sM.zv),(5,yB re.zv),(6,yB (re.av v1)),(7,yB (sM.av Y)),(9,yR 74 24 sX.cW K)]⟩) (u4 λU V Y K=>.d (u2 λF H=>⟨[(29,yb F)],[(0,yB (oX.av H))]⟩) (u2 λF H=>.b (.v λ_=>.v λM=>.k (u2 λP J=>⟨[(8,yO 9 sX.cW J),(29,X)],[(0,yB (oX.av M)),(7,yB (sM.av P)),(9,yR 74 24 sX.cW J)]⟩)) .z))) (u3 λv2 v3 Z=>⟨[(2,yr 3 0),(4,yr 5 0),(5,yr 6 0),(6,yr 7 0),(8,yO 9 sX.cW Z)],[(0,yB (oX.av v2)),(3,yB sM.zv),(5,yB re.zv),(6,yB (re.av v1)),(7,yB (sM.av v3)),(9,yR 74 24 sX.cW Z)]⟩))) h
instance {F:O rG} {H:O rG}:CK (C3 F H) 7 [ed F,ed H] [] ed oN:=Wf 0 Tryz.f7 λh=>by unfold C3 at h;exact Wg (.b .z (.y 68 68 (.a (.f 11 22 rG.cW (λJ _=>⟨[(0,vh F),(1,vh H),(11,vh F),(12,yi (F.length:Int)),(13,yi (J:Int))],[]⟩) (λ_ J M=>.g (.k (λK=>⟨[(66,yb K)],[]⟩)))) (λ_=>⟨[],[]⟩)))) h
instance {F:O Int}:CK (GX F) 54 [ed F] [] ed oN:=Wf 0 Tryz.f54 λh=>by unfold GX at h;exact Wg (.y 18 18 (.a (.f0 6 1 D.i (λH _=>⟨[(3,yi 0),(6,y0 F),(7,yi (F.length:Int)),(8,yi (H:Int))],[]⟩)) (λ_=>⟨[(3,yi 0)],[]⟩))) h
instance {F:Int}:CK (cmp_isNaN_int F) 83 [ed F] [] ed oN:=Wf 0 Tryz.f83 λh=>by unfold cmp_isNaN_int at h;exact Wg .z h
instance {F:Int} {H:Int}:CK (sg F H) 56 [ed F,ed H] [] ed oN:=Wf 0 Tryz.f56 λh=>by unfold sg at h;exact Wg .z h
instance {F:Addr}:CK (FP F) 81 [ed F] [] ed oN:=Wf 0 Tryz.f81 λh=>by unfold FP at h;exact Wg .z h
instance {F:j}:CK (Dh F) 128 [ed F] [] ed oN:=Wf 0 Tryz.f128 λh=>by unfold Dh at h;exact Wg .z h
instance {F:j} {H:j}:CK (Bn F H) 82 [ed F,ed H] [] ed oN:=Wf 0 Tryz.f82 λh=>by unfold Bn at h;exact Wg .z h
instance {F:Addr} {H:Addr}:CK (Lq F H) 55 [ed F,ed H] [] ed oN:=Wf 0 Tryz.f55 λh=>by unfold Lq at h;exact Wg .z h
instance {F:fv} {H:fv}:CK (E0 F H) 24 [ed F,ed H] [] ed oN:=Wf 0 Tryz.f24 λh=>by unfold E0 at h;exact Wg .z h
instance {F:O Int} {H:O Int}:CK (Bw F H) 85 [ed F,ed H] [] ed oN:=Wf 0 Tryz.f85 λh=>by unfold Bw at h;exact Wg (.b .z (.y 26 26 (.a (.f0 11 1 D.i (λJ _=>⟨[(0,y0 F),(1,y0 H),(11,y0 F),(12,yi (F.length:Int)),(13,yi (J:Int))],[]⟩)) (λ_=>⟨[],[]⟩)))) h
instance {F:oF} {H:oF}:CK (En F H) 84 [ed F,ed H] [] ed oN:=Wf 0 Tryz.f84 λh=>by unfold En at h;exact Wg (.y 17 17 (.k (λv1=>⟨[(4,yb v1)],[]⟩))) h
instance {F:O S} {H:O S}:CK (BW F H) 87 [ed F,ed H] [] ed oN:=Wf 0 Tryz.f87 λh=>by unfold BW at h;exact Wg (.b .z (.y 26 26 (.a (.f0 11 1 D.u8 (λJ _=>⟨[(0,y1 F),(1,y1 H),(11,y1 F),(12,yi (F.length:Int)),(13,yi (J:Int))],[]⟩)) (λ_=>⟨[],[]⟩)))) h
instance {F:kI} {H:kI}:CK (Ej F H) 86 [ed F,ed H] [] ed oN:=Wf 0 Tryz.f86 λh=>by unfold Ej at h;exact Wg (.y 24 24 (.k (λv1=>⟨[(4,yb v1)],[]⟩))) h
end Go.AX.Q29
end
section
namespace Go.AX
open Go.Proofs Go.Sort Go.Shelf Go.RowKit
def t8 {F:Array A}{v u:A}(J:F.size=2)(h:F.getD 0 Xc3=v)(H:F.getD 1 Xc3=u):F=#[v,u]:=by
 match F,J with
 | ⟨[a,b]⟩,_=>simp at h H;rw[h,H]
def rx {α:Type}[Inhabited α](enc:α->O A)(k:Nat)(w:B)(F off n:Nat)(d:Array α)(os:Array Obj)(J:F<w.heap.size) : (∀b,b<w.heap.size->b≠F->(sortWorldK enc k w F off n d os).heap[b]?=w.heap[b]?)/\w.heap.size<=(sortWorldK enc k w F off n d os).heap.size/\ (∀vs e fr,w.heap[F]?=some (.cells vs e fr)->(sortWorldK enc k w F off n d os).heap[F]?=some (.cells (putCells id off (flatK enc k d) vs) e fr))/\ (sortWorldK enc k w F off n d os).os=w.os/\(sortWorldK enc k w F off n d os).output=w.output/\(sortWorldK enc k w F off n d os).tape=w.tape/\w.drawn<=(sortWorldK enc k w F off n d os).drawn:=by
 have H:(sortWorldK enc k w F off n d os).heap=(w.heap.modify F (onCells (putCells id off (flatK enc k d))))++os:=rfl;refine⟨λb K M=>?_,?_,λvs e fr h=>?_,rfl,rfl,rfl,Nat.le_add_right _ _⟩
 ·rw[H,Array.getElem?_append_left (by simpa using K),Array.getElem?_modify,Xj (Ne.symm M)]
 ·rw[H];simp
 rw[H,Array.getElem?_append_left (by simpa using J),Array.getElem?_modify,Xy rfl,h];rfl
def ut {W w':B}(hp :∀b,b<W.heap.size->w'.heap[b]?=W.heap[b]?)(sz:W.heap.size<=w'.heap.size)(os:w'.os=W.os)(out:w'.output=W.output)(tape:w'.tape=W.tape)(dr:W.drawn<=w'.drawn) : ∃q J,w'=grow (W.drewN q) J:=by
 refine⟨w'.drawn-W.drawn,w'.heap.extract W.heap.size w'.heap.size,?_⟩;obtain⟨H,V,M,Y,u1⟩:=w';obtain⟨F,Z,P,o2,u2⟩:=W;simp only at hp sz os out tape dr;subst os out tape;have K:H=F++H.extract F.size H.size:=by
  apply Array.ext_getElem?;intro i;by_cases Q:i<F.size
  ·rw[Array.getElem?_append_left Q];exact hp i Q
  rw[Array.getElem?_append_right (by omega),Array.getElem?_extract];by_cases U:i<H.size
  ·rw[Xy (by omega),show F.size+(i-F.size)=i by omega]
  rw[Xj (by omega),Array.getElem?_eq_none (by omega)]
 have hd:M=P+(M-P):=by omega
 unfold grow World.drewN;simp only;congr 1
def t7 {wl:WL}{P:Xcz}{ρ:Ren}{X:Type}{f:X->D}{cmp:X->X->C Int}{g k e:Nat}(L:SlLaysF0.n6 P ρ)(hf:wn P (ρ.f 6))(aE :∀w,(isAgg (ρ.t 24)).run P w=.ok true w)(zE :∀w,(Go.sizeOf (ρ.t 24)).run P w=.ok k w) (eg :∀args w,(callFunc g args).run P w=.ok (.enter g args) w) (ax :∀x,(f x).isAgg=true) (ay :∀{a b r},cmp a b=some r->Bj wl.low P g [.d (f a),.d (f b)] [] (.i r) []) {l r:O X} (h:LD cmp l=some r):Bj wl P (ρ.f 6) [.own 0 (Wr f l).length,.fn g []] [.row e k (Wr f l) .no] (.sH []) [.row e k (Wr f r) .no]:=by
 refine⟨hf,λw S φ gb hg ak hs hr hn m=>?_⟩;have r0:=(hr 0 (by simp)).1;have r1:=(hr 1 (by simp)).1;simp only[Xb5,List.getElem_cons_succ] at r0 r1;have hv:=t8 hs rfl rfl;generalize ak.getD 0 Xc3=v0 at r0 hv;generalize ak.getD 1 Xc3=v1 at r1 hv;cases r1 with|fn _ _ bj _ bk _ _=>
 obtain rfl:bj=#[]:=Array.eq_empty_of_size_eq_zero (by simpa using bk);cases r0 with|own _ _ _ kk c a0 bl a7 h1 hb=>
 have ao:rY [OB.row e k (Wr f l) .no] 0=some (.row e k (Wr f l) .no):=rfl;obtain⟨_,a8⟩:=h1 _ _ _ _ ao;have a8:=a8 rfl;have az:=m.obj 0 _ ao;obtain⟨g0,g1,g2,g3⟩:=az;have bm :∀r',rY [OB.row e k (Wr f r') .no]=rJ (rY [OB.row e k (Wr f l) .no]) 0 (some (.row e k (Wr f r') .no)):=by
  intro r';funext q;match q with
  | 0=>simp[rY]
  | q+1=>simp[rY,rJ]
 by_cases hl:0<l.length;rotate_left
 ·
  have bn:l=[]:=Xab (by omega);subst bn;obtain⟨hp,_⟩:=RL h;obtain rfl:r=[]:=hp.eq_nil;obtain⟨p,F,bo⟩ :∃p F,v0=.slice p 0 F:=by rw[bl,a7];exact⟨_,_,rfl⟩
  rw[hv,bo];refine (AnyF.slices_SortFunc_none L p F _ w).mono λe' w' ⟨he,hw⟩=>⟨_,he,S,φ,hw▸m,hw▸.refl _ _ _ _,.sH [] #[] (λ_=>Xc3) rfl (λi H=>by simp at H) (λi H=>by simp at H),λq hq=>by simp[AV.refs,AV.refs.refsL] at hq⟩
 rcases g3 with ⟨_,al⟩|⟨b,F,vs,f0,f1,f2,f3,f4,f5,f6,f7,f8⟩
 ·simp at al;subst al;simp at hl
 obtain⟨b0,ba⟩:=aL h hl;have ae:Uf cmp l=true:=by
  unfold LD at h;split at h
  ·assumption
  simp at h
 obtain⟨an,bi,_⟩:=SE ae hl;have bb:v0=.slice (some ⟨b,F.2,none⟩) l.length F.1:=by
  rcases a8 with ⟨Y,_⟩|⟨K,c2,Y,ap⟩
  ·rw[f1] at Y;simp at Y
  rw[f1] at Y;simp only[X24,X26] at Y;obtain⟨rfl,rfl⟩:=Y;rw[ap];simp
 have af:=(m.ow 0 b F (by simp[rY]) f1).1;let Z:Nat->Nat:=λi=>min i (l.length-1);have ag :∀i,Z i<l.length:=λi=>by simp only[Z];omega
 let J:Nat->O A:=λi=>(Xb4 k).map λj=>f0 (Z i) j;have aq :∀x,(J x).length=k:=λx=>by simp[J]
 have M :∀i (H:i<l.length),(f l[i]).cells.length=k:=λi H=>by have:=g1 i (by simpa using H);simpa using this
 have a1 :∀i (H:i<l.length) j (Q:j<k),∃hj':j<(f l[i]).cells.length,rH S w ((f l[i]).cells[j]'hj') (f0 i j)/\((f l[i]).cells[j]'hj').isAgg=false:=by
  intro i H j Q;have hj':j<(f l[i]).cells.length:=by rw[M i H];exact Q
  refine⟨hj',?_,?_⟩
  ·have:=f7 i (by simpa using H) j (by simpa using hj');simpa using this
  have:=g2 i (by simpa using H) j (by simpa using hj');simpa using this
 have bc :∀x,∀v∈J x,v.oneCell'=true:=by intro x v hv;obtain⟨j,Q,rfl⟩:=Xa0.1 hv;obtain⟨hj',h2,h3⟩:=a1 (Z x) (ag x) j (by simpa using Q);exact h2.one h3
 have aa :∀(d:Array Nat) t,t<d.size*k->(flatK J k d)[t]! = f0 (Z d[t/k]!) (t%k):=by intro d t ht;have a7:0<k:=g0;rw[get_flatK _ _ _ _ ht];have:=Nat.mod_lt t a7;simp[J,this]
 have hH:HoldsK J k w b F.2 (Xdd l.length):=by
  intro t ht;have bp:t<l.length*k:=by simpa using ht
  have a7:0<k:=g0;have hq:t/k<l.length:=Nat.div_lt_of_lt_mul (by rwa [Xc0]);rw[aa _ t (by simpa using bp)];have h1:(Xdd l.length)[t/k]! = t/k:=by simp[hq]
  have h2:Z (t/k)=t/k:=by simp only[Z];omega
  have h3:=f6 (t/k) (t%k) (by simpa using hq) (Nat.mod_lt t a7);have h4:t/k*k+t%k=t:=by rw[Xc0];exact Nat.div_add_mod t k
  rw[h4] at h3;rw[h1,h2];refine⟨?_,?_⟩
  ·simp only[World.cell?,f2,id];exact h3
  simp[World.frozen?,f2]
 have ar :∀(n:Nat) (d:Array Nat) (os:Array Obj),Q9 S w S (sortWorldK J k w b F.2 n d os):=by intro n d os K o hS;obtain⟨h1,_⟩:=rx J k w b F.2 n d os af;have bq:K≠b:=λhe=>f8.1 o (by simp) (he▸hS);exact⟨hS,DT (h1 K (m.bS K o hS) bq) o⟩
 have ab :∀{W:B},Q9 S w S W->∀i (H:i<l.length),rH S W (f l[i]) (.agg ((Xb4 k).map λj=>f0 i j).toArray):=by
  intro W hK i H;have ha:=ax l[i];cases U:f l[i] with
  | agg cs=>
   have ah:cs.length=k:=by have:=M i H;rw[U] at this;exact this
   refine .agg cs _ (λj=>f0 i j) (by simp[ah]) (λj Q=>by simp[ah▸Q]) (λj Q=>?_) λj Q=>?_
   ·obtain⟨hj',_,h3⟩:=a1 i H j (ah▸Q);simp only[U,D.cells] at h3;exact h3
   obtain⟨hj',h2,_⟩:=a1 i H j (ah▸Q);simp only[U,D.cells] at h2;exact h2.mono hK
  | val v=>rw[U] at ha;simp[D.isAgg] at ha
  | nil sz=>rw[U] at ha;simp[D.isAgg] at ha
  | su sz es=>rw[U] at ha;simp[D.isAgg] at ha
 have br :∀x,∃(H:Z x<l.length),J x=(Xb4 k).map λj=>f0 (Z x) j:=λx=>⟨ag x,rfl⟩;have au:CmpLays P g #[] J k (wT cmp l) b F.2 (Xdd l.length).size w:=by
  intro q os dk c3 x y;obtain⟨w1,w2,w3,w4,w5,w6,w7⟩:=rx J k w b F.2 q dk os af;have hK:=ar q dk os;generalize hW:sortWorldK J k w b F.2 q dk os=W at *;have hx:=ag x;have hy:=ag y;obtain⟨c1,_⟩:=aU ae;obtain⟨rr,bd⟩:=c1 l[Z x] (Wx hx) l[Z y] (Wx hy);have bu:wT cmp l x y=rr:=by have e1:wj l x=some l[Z x]:=X15 hx;have e2:wj l y=some l[Z y]:=X15 hy;unfold wT;rw[e1,e2];simp[bd]
  have ai :∀r,rY [] r=none:=λr=>by simp[rY]
  have bw:tK wl.low gb (Js (λ_:Nat=>(none:C (Nat×Rp))) ([]:O OB).length) S W:=by
   have e :∀K,gb K->W.heap[K]?=w.heap[K]?:=λK V=>w1 K (hg.lt K V) λhe=>hg.pb K V ⟨0,F,by simp,he▸f1⟩;refine⟨wl.ext _ _ _ e hg.gf,λK V=>Xap (hg.lt K V) w2,?_,λK o V hc=>hg.st K o V ?_⟩
   ·rintro K V ⟨r,c,h1,_⟩;simp at h1
   rw[<- DT (e K V) o];exact hc
  refine ((ay bd).2 W S (λ_=>none) gb bw (#[.agg (J x).toArray,.agg (J y).toArray]++#[]) (by simp) (λi H=>?_) (λ_ _=>rfl) ⟨λr o ho=>by rw[ai] at ho;simp at ho,λr _ _ _ _ hr=>absurd (ai r) hr,λr o ho=>by rw[ai] at ho;simp at ho,λ_ _ h=>h,λ_ _ _=>rfl,λK o hS=>Xap (m.bS K o hS) w2,λ_ _ h _ _=>h,λ_ _ _=>rfl,Xa8 _,λr _ _ hr=>absurd (ai r) hr,⟨rfl,rfl,rfl,.inr (Xa8 _)⟩⟩).mono λe' w' he=>?_
  ·refine⟨?_,?_⟩
   ·match i,H with
    | 0,_=>exact .d _ _ (ab hK (Z x) hx)
    | 1,_=>exact .d _ _ (ab hK (Z y) hy)
   match i,H with
   | 0,_=>exact A1 _ _
   | 1,_=>exact A1 _ _
  obtain⟨v,rfl,S',φ',mm,_,ap,_⟩:=he;refine⟨by rw[ap.int,bu],?_⟩;have bx :∀K,¬ Js (λ_:Nat=>(none:C (Nat×Rp))) ([]:O OB).length K:=by rintro K ⟨r,c,h1,_⟩;simp at h1
  refine ut (λK V=>mm.fr K V (bx K)) mm.sz mm.os.1 mm.os.2.1 mm.os.2.2.1 ?_;rcases mm.os.2.2.2 with h|h
  ·exact h.elim
  exact h
 have hc:=AnyQ.slices_SortFunc_eq L k aE zE J aq bc (wT cmp l) (iz ae hl) g #[] b F.2 F.1 (Xdd l.length) w eg au hH af (by
  have:=(aU ae).2.2.2.2
  simp;omega)
 rw[hv,bb];have be:(Xdd l.length).size=l.length:=by simp
 rw[be] at hc;refine hc.mono λe' w' ⟨he,n,os,hw⟩=>?_;have hd:pdq (ltOf (wT cmp l)) (Xdd l.length) 0 l.length (Lib.bitLen l.length) true true=JU cmp l:=rfl;rw[hd] at hw;obtain⟨w1,w2,w3,w4,w5,w6,w7⟩:=rx J k w b F.2 n (JU cmp l) os af;rw[<- hw] at w1 w2 w3 w4 w5 w6 w7;have bf:=w3 _ _ _ f2;have aj :∀i (H:i<r.length),∃(hp:(JU cmp l)[i]!<l.length),r[i]=l[(JU cmp l)[i]!]:=by intro i H;obtain⟨p1,p2⟩:=ba i (by omega);rw[X15 H,X15 p1] at p2;exact⟨p1,X25 p2⟩
 obtain⟨m2,k2⟩:=m.wF (es':=Wr f r) (cur':=putCells id F.2 (flatK J k (JU cmp l)) vs) (w':=w') ao f1 f2 (by simp[b0])
  (λi H=>by
   have a6:i<r.length:=by simpa using H
   obtain⟨hp,he⟩:=aj i a6;simp only[Xas,he]
   exact M _ hp)
  (λi H j Q=>by
   have a6:i<r.length:=by simpa using H
   obtain⟨hp,he⟩:=aj i a6;simp only[Xas,he] at Q⊢;obtain⟨hj',_,h3⟩:=a1 _ hp j (by rw[M _ hp] at Q;exact Q)
   exact h3)
  bf (by simp[putCells]) (λK h1 h2=>w1 K h1 h2) w2 ⟨w4,w5,w6,w7⟩ (λi j=>f0 (JU cmp l)[i]! j)
  (λi j H Q=>by
   have a6:i<r.length:=by simpa using H
   obtain⟨hp,he⟩:=aj i a6;have bz:i<l.length:=by omega
   have c0:i*k+j<l.length*k:=by have:=X31 k (show i+1<=l.length from bz);rw[X32,Nat.one_mul] at this;omega
   have bg:F.2+(i*k+j)<vs.size:=by
    have h3:l.length<=F.1:=by simpa using f3
    have:=X31 k h3;omega
   have e1:(i*k+j)/k=i:=by rw[Xc0,Nat.mul_add_div g0,Nat.div_eq_of_lt Q,Xch]
   have e2:(i*k+j)%k=j:=by rw[Xc0,Nat.mul_add_mod,Xbe Q]
   have U:=aa (JU cmp l) (i*k+j) (by rw[an];exact c0);rw[e1,e2] at U;have bh:Z (JU cmp l)[i]! = (JU cmp l)[i]!:=by simp only[Z];omega
   rw[bh] at U;simp only[putCells,Array.getElem?_mapIdx,Array.getElem?_eq_getElem bg,Xbt];rw[Xy ⟨by omega,by rw[size_flatK,an];omega⟩,show F.2+(i*k+j)-F.2=i*k+j by omega,U]
   rfl)
  (λi H j Q=>by
   have a6:i<r.length:=by simpa using H
   obtain⟨hp,he⟩:=aj i a6;simp only[Xas,he] at Q⊢;obtain⟨hj',h2,_⟩:=a1 _ hp j (by rw[M _ hp] at Q;exact Q)
   exact h2)
 rw[<- bm r] at m2 k2;exact⟨_,he,S,φ,m2,k2,.sH [] #[] (λ_=>Xc3) rfl (λi H=>by simp at H) (λi H=>by simp at H),λq hq=>by simp[AV.refs,AV.refs.refsL] at hq⟩
end Go.AX
end
section
namespace Go.Proofs
open Go.Shelf
def Tryz.zD:Go.Shelf.Ren:=⟨λ| 6=>30|15=>61|14=>60|28=>104|29=>105|20=>96|21=>97|22=>98|23=>99|24=>100|25=>101|26=>102|27=>103|46=>129|47=>130|48=>131|49=>132|50=>133|57=>191|n=>n,λ| 22=>43|24=>82|25=>94|3=>3|39=>129|0=>0|53=>185|55=>60|4=>4|46=>178|45=>177|50=>182|5=>5|9=>9|66=>200|70=>204|76=>248|77=>152|n=>n,λ| n=>n⟩
theorem Tryz.zF:Go.Proofs.SlLaysF0.n6 Xc9 Tryz.zD:={
 mixed:=by kernel_rfl
 f6:=⟨Tryz.f30.name,by decide,Tryz.func30.trans (congrArg some (by kernel_rfl))⟩
 f14:=⟨Tryz.f60.name,by decide,Tryz.func60.trans (congrArg some (by kernel_rfl))⟩
 f15:=Tryz.func61.trans (congrArg some (by kernel_rfl))
 f20:=⟨Tryz.f96.name,by decide,Tryz.func96.trans (congrArg some (by kernel_rfl))⟩
 f21:=⟨Tryz.f97.name,by decide,Tryz.func97.trans (congrArg some (by kernel_rfl))⟩
 f22:=⟨Tryz.f98.name,by decide,Tryz.func98.trans (congrArg some (by kernel_rfl))⟩
 f23:=⟨Tryz.f99.name,by decide,Tryz.func99.trans (congrArg some (by kernel_rfl))⟩
 f24:=⟨Tryz.f100.name,by decide,Tryz.func100.trans (congrArg some (by kernel_rfl))⟩
 f25:=⟨Tryz.f101.name,by decide,Tryz.func101.trans (congrArg some (by kernel_rfl))⟩
 f26:=⟨Tryz.f102.name,by decide,Tryz.func102.trans (congrArg some (by kernel_rfl))⟩
 f27:=⟨Tryz.f103.name,by decide,Tryz.func103.trans (congrArg some (by kernel_rfl))⟩
 f28:=Tryz.func104.trans (congrArg some (by kernel_rfl))
 f29:=Tryz.func105.trans (congrArg some (by kernel_rfl))
 f46:=⟨Tryz.f129.name,by decide,Tryz.func129.trans (congrArg some (by kernel_rfl))⟩
 f47:=Tryz.func130.trans (congrArg some (by kernel_rfl))
 f48:=Tryz.func131.trans (congrArg some (by kernel_rfl))
 f49:=⟨Tryz.f132.name,by decide,Tryz.func132.trans (congrArg some (by kernel_rfl))⟩
 f50:=⟨Tryz.f133.name,by decide,Tryz.func133.trans (congrArg some (by kernel_rfl))⟩
 f57:=⟨Tryz.f191.name,by decide,Tryz.func191.trans (congrArg some (by kernel_rfl))⟩
 t0:=Tryz.underlying0
 a0:=Tryz.isAgg0
 z0:=Tryz.sizeOf0
 v0:=Tryz.zeroValue0
 t3:=Tryz.underlying3
 a3:=Tryz.isAgg3
 z3:=Tryz.sizeOf3
 v3:=Tryz.zeroValue3
 t4:=Tryz.underlying4
 a4:=Tryz.isAgg4
 z4:=Tryz.sizeOf4
 v4:=Tryz.zeroValue4
 t5:=Tryz.underlying5
 a5:=Tryz.isAgg5
 z5:=Tryz.sizeOf5
 v5:=Tryz.zeroValue5
 t9:=Tryz.underlying9
 a9:=Tryz.isAgg9
 z9:=Tryz.sizeOf9
 v9:=Tryz.zeroValue9
 t22:=Tryz.underlying43
 a22:=Tryz.isAgg43
 z22:=Tryz.sizeOf43
 v22:=Tryz.zeroValue43
 t25:=Tryz.underlying94
 a25:=Tryz.isAgg94
 z25:=Tryz.sizeOf94
 v25:=Tryz.zeroValue94
 t39:=Tryz.underlying129
 a39:=Tryz.isAgg129
 z39:=Tryz.sizeOf129
 v39:=Tryz.zeroValue129
 t45:=Tryz.underlying177
 a45:=Tryz.isAgg177
 z45:=Tryz.sizeOf177
 v45:=Tryz.zeroValue177
 t46:=Tryz.underlying178
 a46:=Tryz.isAgg178
 z46:=Tryz.sizeOf178
 v46:=Tryz.zeroValue178
 t50:=Tryz.underlying182
 a50:=Tryz.isAgg182
 z50:=Tryz.sizeOf182
 v50:=Tryz.zeroValue182
 t53:=Tryz.underlying185
 a53:=Tryz.isAgg185
 z53:=Tryz.sizeOf185
 v53:=Tryz.zeroValue185
 t55:=Tryz.underlying60
 a55:=Tryz.isAgg60
 z55:=Tryz.sizeOf60
 v55:=Tryz.zeroValue60
 t66:=Tryz.underlying200
 a66:=Tryz.isAgg200
 z66:=Tryz.sizeOf200
 v66:=Tryz.zeroValue200
 t70:=Tryz.underlying204
 a70:=Tryz.isAgg204
 z70:=Tryz.sizeOf204
 v70:=Tryz.zeroValue204
 t76:=Tryz.underlying248
 a76:=Tryz.isAgg248
 z76:=Tryz.sizeOf248
 v76:=Tryz.zeroValue248
 t77:=Tryz.underlying152
 a77:=Tryz.isAgg152
 z77:=Tryz.sizeOf152
 v77:=Tryz.zeroValue152 }
end Go.Proofs
namespace Go.Maps
end Go.Maps
namespace Go.AX.Q29
open Go Go.AX Go.Proofs Go.Maps Go.Sort Go.Shelf Go.RowKit
theorem t6 {wl:WL}{X:Type}{f:X->D}{cmp:X->X->Option Int}{g:Nat}(J :∀args w,(callFunc g args).run Tryz.prog w=.ok (.enter g args) w)(F :∀{a b r},cmp a b=some r->Bj wl.low Tryz.prog g [.d (f a),.d (f b)] [] (.d (D.i r)) []){l r:List X}(h:LD cmp l=some r)(H :∀x,(f x).isAgg=true:=by exact λ_=>rfl):Bj wl Tryz.prog 30 [.own 0 (List.map f l).length,.fn g []] [.row 82 16 (List.map f l) .no] (.sH []) [.row 82 16 (List.map f r) .no]:=
 t7 Tryz.zF (wt Tryz.func30 (by kernel_rfl) (by kernel_rfl)) Tryz.isAgg82 Tryz.sizeOf82 J H F h
end Go.AX.Q29
end
section
namespace Go.AX.Q29
open Go Go.AX Go.Proofs
variable {wl:Prop}
instance {F:O r8} {H:O r8}:CK (Af F H) 89 [ed F,ed H] [] ed oN:=Wf 0 Tryz.f89 λh=>by unfold Af at h;exact Wg (.b .z (.y 26 26 (.a (.f0 11 2 r8.cW (λJ _=>⟨[(0,y4 F),(1,y4 H),(11,y4 F),(12,yi (F.length:Int)),(13,yi (J:Int))],[]⟩)) (λ_=>⟨[],[]⟩)))) h
instance {F:O n8} {H:O n8}:CK (Au F H) 90 [ed F,ed H] [] ed oN:=Wf 0 Tryz.f90 λh=>by unfold Au at h;exact Wg (.b .z (.y 26 26 (.a (.f0 11 3 n8.cW (λJ _=>⟨[(0,y5 F),(1,y5 H),(11,y5 F),(12,yi (F.length:Int)),(13,yi (J:Int))],[]⟩)) (λ_=>⟨[],[]⟩)))) h
instance {F:O oF} {H:O oF}:CK (AM F H) 88 [ed F,ed H,AV.fn 84 []] [] ed oN:=Wf 0 Tryz.f88 λh=>by unfold AM at h;exact Wg (.b .z (.y 32 32 (.a (.f0 15 2 oF.cW (λJ _=>⟨[(1,y3 H),(2,AV.fn 84 []),(15,y3 F),(16,yi (F.length:Int)),(17,yi (J:Int))],[]⟩)) (λ_=>⟨[],[]⟩)))) h
instance {F:O kI} {H:O kI}:CK (AL F H) 91 [ed F,ed H,AV.fn 86 []] [] ed oN:=Wf 0 Tryz.f91 λh=>by unfold AL at h;exact Wg (.b .z (.y 32 32 (.a (.f0 15 3 kI.cW (λJ _=>⟨[(1,y7 H),(2,AV.fn 86 []),(15,y7 F),(16,yi (F.length:Int)),(17,yi (J:Int))],[]⟩)) (λ_=>⟨[],[]⟩)))) h
instance {F:gH} {H:gH}:CK (Gm F H) 57 [ed F,ed H] [] ed oN:=Wf 0 Tryz.f57 λh=>by unfold Gm at h;exact Wg (.y 70 70 (.k (λv1=>⟨[(4,yb v1)],[]⟩))) h
instance {F:gD} {H:gD}:CK (FU F H) 25 [ed F,ed H] [] ed oN:=Wf 0 Tryz.f25 λh=>by unfold FU at h;exact Wg (.y 24 24 (.k (λv1=>⟨[(4,yb v1)],[]⟩))) h
instance {F:O Int}:CK (BZ F) 92 [ed F] [] ed oN:=Wf 0 Tryz.f92 λh=>by unfold BZ at h;exact Wg .z h
instance {F:O S}:CK (B7 F) 93 [ed F] [] ed oN:=Wf 0 Tryz.f93 λh=>by unfold B7 at h;exact Wg .z h
instance {F:O r8}:CK (Bv F) 94 [ed F] [] ed oN:=Wf 0 Tryz.f94 λh=>by unfold Bv at h;exact Wg .z h
instance {F:O n8}:CK (C4 F) 95 [ed F] [] ed oN:=Wf 0 Tryz.f95 λh=>by unfold C4 at h;exact Wg .z h
instance {F:gH}:CK (Gv F) 58 [ed F] [] ed oN:=Wf 0 Tryz.f58 λh=>by unfold Gv at h;exact Wg (.y 62 62 (.c (.f0 15 2 oF.cW (λM H=>⟨[(1,yr 1 0),(2,yr 2 0),(4,AV.d (D.l 3 kI.cW F.lf)),(15,AV.d (D.l 2 oF.cW F.Path)),(16,yi (F.Path.length:Int)),(17,yi (M:Int))],[(1,yB [AV.d (D.i F.gS),yO 30 oF.cW H,AV.d (D.b F.Next.V6),AV.d (D.u64 F.Next.Hi),AV.d (D.u64 F.Next.Lo),AV.d (D.i F.sd),AV.d (D.i F.rh),AV.d (D.i F.rX),AV.d (D.l 2 r8.cW F.fT),AV.d (D.l 3 n8.cW F.n8),AV.d (D.nil 3)]),(2,yB gH.zv),(30,yR 98 2 oF.cW H)]⟩)) (λv1=>⟨[(1,yr 1 0),(2,yr 2 0),(4,AV.d (D.l 3 kI.cW F.lf))],[(1,yB [AV.d (D.i F.gS),yO 30 oF.cW v1,AV.d (D.b F.Next.V6),AV.d (D.u64 F.Next.Hi),AV.d (D.u64 F.Next.Lo),AV.d (D.i F.sd),AV.d (D.i F.rh),AV.d (D.i F.rX),AV.d (D.l 2 r8.cW F.fT),AV.d (D.l 3 n8.cW F.n8),AV.d (D.nil 3)]),(2,yB gH.zv),(30,yR 98 2 oF.cW v1)]⟩) λv1=>.a (.f0 33 3 kI.cW (λP J=>⟨[(4,X),(33,AV.d (D.l 3 kI.cW F.lf)),(34,yi (F.lf.length:Int)),(35,yi (P:Int))],[(1,yB [AV.d (D.i F.gS),yO 30 oF.cW v1,AV.d (D.b F.Next.V6),AV.d (D.u64 F.Next.Hi),AV.d (D.u64 F.Next.Lo),AV.d (D.i F.sd),AV.d (D.i F.rh),AV.d (D.i F.rX),AV.d (D.l 2 r8.cW F.fT),AV.d (D.l 3 n8.cW F.n8),yO 50 kI.cW J]),(50,yR 162 3 kI.cW J)]⟩)) (λK=>⟨[(4,X)],[(1,yB [AV.d (D.i F.gS),yO 30 oF.cW v1,AV.d (D.b F.Next.V6),AV.d (D.u64 F.Next.Hi),AV.d (D.u64 F.Next.Lo),AV.d (D.i F.sd),AV.d (D.i F.rh),AV.d (D.i F.rX),AV.d (D.l 2 r8.cW F.fT),AV.d (D.l 3 n8.cW F.n8),yO 50 kI.cW K]),(50,yR 162 3 kI.cW K)]⟩))) h
instance {F:gD}:CK (ET F) 26 [ed F] [] ed oN:=Wf 0 Tryz.f26 λh=>by unfold ET at h;exact Wg .z h
instance {K:Int} {U:O gD} {V:O gD}:CK (GV K U V) 8 [ed K,ed U,ed V] [] ed oN:=Wf 0 Tryz.f8 λh=>by unfold GV at h;exact Wg (.y 81 81 (.a (.w (u3 λv2 Y M=>⟨[(0,yi K),(1,y6 v2),(2,y6 Y),(7,yO 7 rG.cW M)],[(7,yR 87 22 rG.cW M)]⟩) (u3 λv2 Y M=>.d (λZ=>⟨[(16,yb Z)],[]⟩) λZ=>.b (.g (.g (.c (.b .z (.k (λv8=>⟨[(8,yi v8),(16,X)],[]⟩))) (λv7=>⟨[(8,yi v7),(16,X)],[]⟩) λv7=>.g (.c (.b .z (.d (λF=>⟨[(46,yb F)],[]⟩) λF=>.k (λH=>⟨[(7,yO 7 rG.cW H),(46,X)],[(7,yR 87 22 rG.cW H)]⟩))) (λP=>⟨[(7,yO 7 rG.cW P)],[(7,yR 87 22 rG.cW P)]⟩) λP=>.d (λJ=>⟨[(1,y6 J)],[]⟩) λJ=>.k (λQ=>⟨[(2,y6 Q),(8,X)],[]⟩))))) .z)) (λv1=>⟨[(7,yO 7 rG.cW v1)],[(7,yR 87 22 rG.cW v1)]⟩))) h
instance {F:O gD} {H:O gD}:CK (CM F H) 9 [ed F,ed H] [] ed oN:=Wf 0 Tryz.f9 λh=>by unfold CM at h;exact Wg (.b .z (.y 27 27 (.a (.f0 11 16 gD.cW (λJ _=>⟨[(0,y6 F),(1,y6 H),(11,y6 F),(12,yi (F.length:Int)),(13,yi (J:Int))],[]⟩)) (λ_=>⟨[],[]⟩)))) h
instance Oy {F:O gD}:CK (F2 F) 27 [ed F] [] (λr=>AV.own 0 (Wr gD.cW r).length) (λr=>[.row 82 16 (Wr gD.cW r) .no]):=Wf 0 Tryz.f27 λh=>by unfold F2 at h;exact Wg (.y 19 19 (.c (.f0 6 16 gD.cW (λJ H=>⟨[(3,yO 3 gD.cW H),(6,y6 F),(7,yi (F.length:Int)),(8,yi (J:Int))],[(3,yR 82 16 gD.cW H)]⟩)) (λv1=>⟨[(3,yO 3 gD.cW v1)],[(3,yR 82 16 gD.cW v1)]⟩) λv1=>.l (.r .z))) h
instance {F:gD} {H:rG}:CK (EV F H) 29 [ed F,.ref 0 0] [.box (rG.av H)] (λr=>.d (D.b r.1)) (λr=>[.box (rG.av r.2)]):=Wf 0 Tryz.f29 λh=>by unfold EV at h;exact Wg .z h
instance Oh {F:gD}{H:gD}:CK (Fv F H) 31 [ed F,ed H] [] ed oN:=Wf 0 Tryz.f31 λh=>by unfold Fv at h;exact Wg .z h
instance B2 {F:O gD}{H:rG}:CK (Ao F H) 59 [AV.own 0 (Wr gD.cW F).length,AV.fn 29 [.ref 1 0]] [.row 82 16 (Wr gD.cW F) .no,.box (rG.av H)] (λr=>.d (D.i r.1)) (λr=>[.row 82 16 (Wr gD.cW F) .no,.box (rG.av r.2)]):=Wf 0 Tryz.f59 λh=>by unfold Ao at h;exact Wg (.y 19 21 (.a (.o0 0 82 16 gD.cW (λJ K=>⟨[(0,yO 0 gD.cW F),(1,AV.fn 29 [yr 1 0]),(6,yO 0 gD.cW F),(7,yi (F.length:Int)),(8,yi (J:Int))],[(0,yR 82 16 gD.cW F),(1,yB (rG.av K))]⟩)) (λv1=>⟨[],[(0,yR 82 16 gD.cW F),(1,yB (rG.av v1))]⟩))) h
instance {M:O gD} {F:rG}:CK (Ac M F) 28 [AV.own 0 (Wr gD.cW M).length,AV.fn 29 [.ref 1 0]] [.row 82 16 (Wr gD.cW M) .no,.box (rG.av F)] (λr=>AV.own 2 (Wr gD.cW r.1).length) (λr=>[.gone,.box (rG.av r.2),.row 82 16 (Wr gD.cW r.1) .no]):=Wf 0 Tryz.f28 λh=>by
 refine⟨rfl,?_⟩;unfold Ac at h;(conv=>whnf);refine B1 h (λ_=>B2.ok) ?_;rintro⟨_,_⟩ h;refine sI ?_;refine Ce h ?_ ?_<;>intro h
 ·exact Wg (.r .z) h
 refine⟨_,rfl,?_⟩;refine Ar h (λ(v1,v2,V)=>⟨yO 0 gD.cW v2::dd 4 (yi v1::dd 36 ([])),yR 82 16 gD.cW v2::yB (rG.av V)::nn 42 ([])⟩) ?_ ?_
 ·intro _ h;exact Wg (.y 42 44 (.w (u4 λY Z P v7=>⟨[(0,yO 0 gD.cW P),(1,AV.fn 29 [yr 1 0]),(5,yi Y),(6,yi Z)],[(0,yR 82 16 gD.cW P),(1,yB (rG.av v7))]⟩) (u4 λY Z P v7=>.b (.v λv9=>.v λ_=>.v λQ=>.k (u2 λU H=>⟨[(0,yO 0 gD.cW H),(5,yi U)],[(0,yR 82 16 gD.cW H),(1,yB (rG.av Q))]⟩)) .z))) h
 rintro⟨v1,v2,V⟩ h;(conv=>whnf);refine .inr (.inl ?_);obtain⟨_,J,h⟩:=Aa h;have a1:=Ew J;refine⟨Kp (f:=gD.cW) J,rfl,(Xi v1),(Xi (v2.length:Int)-Xi v1),rfl,(by rw[X10]),?_⟩;refine⟨MO,gD.cW (⟨(⟨(⟨false,(0:j),(0:j)⟩:Addr),0⟩:fv),0,(⟨0,[],(⟨false,(0:j),(0:j)⟩:Addr),0,0,0,[],[],[]⟩:gH)⟩:gD),rfl,Wr gD.cW (Xaq (Xi v1) v2++Xb6 (Xi (v2.length:Int)-Xi v1) (⟨(⟨(⟨false,(0:j),(0:j)⟩:Addr),0⟩:fv),0,(⟨0,[],(⟨false,(0:j),(0:j)⟩:Addr),0,0,0,[],[],[]⟩:gH)⟩:gD)++Xat ((Xi v1)+(Xi (v2.length:Int)-Xi v1)) v2),kY,?_⟩;(conv=>whnf);refine .inr (.inr ?_);obtain⟨a6,K,h⟩:=Aa h;refine⟨XW (f:=gD.cW) K,MO,_,Lh (f:=gD.cW) K,?_⟩;exact Wg (.l (.r .z)) h
instance {K:O gD} {F:O rG}:CK (E1 K F) 10 [ed K,ed F] [] ed oN:=Wf 0 Tryz.f10 λh=>by
 refine⟨rfl,?_⟩;unfold E1 at h;(conv=>whnf);refine QL [9] h (λ_=>Oy.ok) λ_ h=>?_;refine⟨F.length,X10 _,?_⟩;refine Ar h (λv1=>⟨dd 5 (yO 9 gD.cW v1::dd 25 ([])),nn 9 (yR 82 16 gD.cW v1::nn 21 ([]))⟩) ?_ ?_
 ·intro _ h;exact Wg (.y 31 31 (.f 10 22 rG.cW (λM H=>⟨[(5,yO 9 gD.cW H),(10,vh F),(11,yi (F.length:Int)),(12,yi (M:Int))],[(9,yR 82 16 gD.cW H)]⟩) (λH M U=>.n [18] (.d (λJ=>⟨[(5,yO 18 gD.cW J)],[(9,N),(18,yR 82 16 gD.cW J)]⟩) λJ=>.x 18 9)))) h
 rintro v1 h;obtain⟨V,P,h⟩:=Aa h;have Q:=aS P;refine⟨_,_,some [],t6 (f:=gD.cW) (enters_of Tryz.func31 (by kernel_rfl) rfl) (λh=>Oh.ok h) P,?_⟩;exact Wg .z h
instance hH {a0:O gD}{F:O rG}:CK (GM a0 F) 11 [ed a0,ed F] [] ed oN:=Wf 0 Tryz.f11 λh=>by
 refine⟨rfl,?_⟩;unfold GM at h;(conv=>whnf);refine B1 h (λ_=>Kv.ok) λ_ h=>?_;refine⟨F.length,X10 _,?_⟩;refine Ar h (λv1=>⟨dd 5 (y6 v1::dd 68 ([])),nn 74 ([])⟩) ?_ ?_
 ·intro _ h;revert h;refine By 15 22 rG.cW rfl (λK Q=>⟨dd 5 (y6 Q::dd 9 (vh F::yi (F.length:Int)::yi (K:Int)::dd 56 ([]))),nn 74 ([])⟩) ?_ ?_ ?_
  ·exact wk
  ·rintro Q K4 h;exact Wg (.e .z) h
  rintro _ K U Q K4 b2 c2 e2 h p6;refine sI ?_;refine GH (JV b2) ?_;refine Ar h (λv7=>⟨dd 5 (yO 63 gD.cW v7::dd 9 (vh F::yi (F.length:Int)::yi (K:Int)::dd 56 ([]))),nn 63 (yR 82 16 gD.cW v7::nn 10 ([]))⟩) ?_ ?_
  ·intro _ h;refine⟨Eo (f:=rG.cW) b2,rG.cW U,c2,rfl,?_⟩;refine⟨Q.length,X10 _,?_⟩;refine Ar h (λJ=>⟨dd 7 (yr 7 0::yO 8 gD.cW J::dd 6 (vh F::yi (F.length:Int)::yi (K:Int)::dd 56 ([]))),nn 7 (yB (rG.av U)::yR 82 16 gD.cW J::nn 65 ([]))⟩) ?_ ?_
   ·intro _ h;exact Wg (.y 74 74 (.f 21 16 gD.cW (λi9 M=>⟨[(7,yr 7 0),(8,yO 8 gD.cW M),(15,vh F),(16,yi (F.length:Int)),(17,yi (K:Int)),(21,y6 Q),(22,yi (Q.length:Int)),(23,yi (i9:Int))],[(7,yB (rG.av U)),(8,yR 82 16 gD.cW M)]⟩) (λM i9 ab=>.g (.k (λV=>⟨[(8,yO 8 gD.cW V)],[(8,yR 82 16 gD.cW V)]⟩))))) h
   rintro J h;refine Ar h (λP=>⟨dd 8 (yO 63 gD.cW P::dd 6 (vh F::yi (F.length:Int)::yi (K:Int)::dd 56 ([]))),nn 63 (yR 82 16 gD.cW P::nn 10 ([]))⟩) ?_ ?_
   ·intro _ h;refine Ce h ?_ ?_<;>intro h
    ·refine Ar h (λH=>⟨dd 7 (yr 7 0::yO 8 gD.cW J::X::X::yi H::X::X::X::vh F::yi (F.length:Int)::yi (K:Int)::dd 56 ([])),nn 7 (yB (rG.av U)::yR 82 16 gD.cW J::nn 65 ([]))⟩) ?_ ?_
     ·intro _ h;exact Wg (.y 74 74 (.w (λY=>⟨[(7,yr 7 0),(8,yO 8 gD.cW J),(11,yi Y),(15,vh F),(16,yi (F.length:Int)),(17,yi (K:Int))],[(7,yB (rG.av U)),(8,yR 82 16 gD.cW J)]⟩) (λY=>.k (λa7=>⟨[(53,yb a7)],[]⟩)))) h
     rintro H h;(conv=>whnf);refine .inr (.inl ?_);obtain⟨_,Z,h⟩:=Aa h;have a8:=Ew Z;refine⟨Kp (f:=gD.cW) Z,rfl,(Xi H),(Xi (J.length:Int)-Xi H),rfl,(by rw[X10]),?_⟩;refine⟨MO,Wr gD.cW (Xaq (Xi (J.length:Int)-Xi H) (Xat (Xi H) J)),LK,?_⟩;refine vH (f:=gD.cW) h λ_ h=>?_;refine .inl (dO ?_);obtain⟨_,aa,h⟩:=Aa h;obtain⟨ae,a6,h⟩:=Aa h;refine⟨YP (f:=gD.cW) a6 aa,rfl,_,Lh (f:=gD.cW) a6,?_⟩;exact Wg .z h
    exact Wg (.x 8 63) h
   rintro P h;exact sj h
  rintro v7 h;exact Wg .z h
 rintro v1 h;exact fin h
instance {Z:oX} {Q:Int}:CK (C5 Z Q) 12 [.ref 0 0,ed Q] [.box (oX.av Z)] (λr=>.d (D.l 22 rG.cW r.1)) (λr=>[.box (oX.av r.2)]):=Wf 0 Tryz.f12 λh=>by unfold C5 at h;exact Wg (.y 74 75 (.a (.w (u4 λv4 v5 U V=>⟨[(0,yr 0 0),(1,yi Q),(5,yO 6 gD.cW U),(6,yO 7 gD.cW V),(7,yi v4)],[(0,yB (oX.av v5)),(6,yR 82 16 gD.cW U),(7,yR 82 16 gD.cW V)]⟩) (u4 λv4 v5 U V=>.b (.v λ_=>.v λ_=>.v λ_=>.v λ_=>.v λ_=>.v λ_=>.v λ_=>.v λ_=>.v λY=>.g (.a (.b .z (.a (.b .z (.k (u2 λF H=>⟨[(5,yO 6 gD.cW F),(6,yO 7 gD.cW H)],[(0,yB (oX.av Y)),(6,yR 82 16 gD.cW F),(7,yR 82 16 gD.cW H)]⟩))) (u2 λJ K=>⟨[(5,yO 6 gD.cW J),(6,yO 7 gD.cW K)],[(0,yB (oX.av Y)),(6,yR 82 16 gD.cW J),(7,yR 82 16 gD.cW K)]⟩))) (u2 λM P=>⟨[(5,yO 6 gD.cW M),(6,yO 7 gD.cW P)],[(0,yB (oX.av Y)),(6,yR 82 16 gD.cW M),(7,yR 82 16 gD.cW P)]⟩))) .z)) (u3 λv1 v2 v3=>⟨[(1,yi Q),(5,yO 6 gD.cW v2),(6,yO 7 gD.cW v3)],[(0,yB (oX.av v1)),(6,yR 82 16 gD.cW v2),(7,yR 82 16 gD.cW v3)]⟩))) h
instance {F:Int} {H:Int} {J:Int}:CK (BV F H J) 134 [ed F,ed H,ed J] [] ed oN:=Wf 0 Tryz.f134 λh=>by unfold BV at h;exact Wg (.y 15 15 (.k (λv1=>⟨[(6,yb v1)],[]⟩))) h
instance {F:Addr}:CK (GL F) 192 [ed F] [] ed oN:=Wf 0 Tryz.f192 λh=>by unfold GL at h;exact Wg (.y 15 15 (.k (λv1=>⟨[(2,yb v1)],[]⟩))) h
instance {F:Addr}:CK (BO F) 193 [ed F] [] ed oN:=Wf 0 Tryz.f193 λh=>by unfold BO at h;exact Wg .z h
instance {F:Int}:CK (Ec F) 239 [ed F] [] e2 oN:=Wf 0 Tryz.f239 λh=>by unfold Ec at h;exact Wg .z h
instance {F:Addr} {H:Int}:CK (Dv F H) 194 [ed F,ed H] [] ed oN:=Wf 0 Tryz.f194 λh=>by unfold Dv at h;exact Wg .z h
instance {F:fv}:CK (Do F) 136 [ed F] [] ed oN:=Wf 0 Tryz.f136 λh=>by unfold Do at h;exact Wg (.y 29 29 (.k (λv1=>⟨[(2,yb v1)],[]⟩))) h
instance {F:fv}:CK (Jy F) 135 [ed F] [] ed oN:=.mk λh=>by cases h
instance {F:s8}:CK (KB F) 139 [ed F] [] ed oN:=.mk λh=>by cases h
instance {F:Int}:CK (J8 F) 141 [ed F] [] ed oN:=.mk λh=>by cases h
instance {F:oB}:CK (J7 F) 142 [ed F] [] ed oN:=.mk λh=>by cases h
instance {F:Int}:CK (Em F) 201 [ed F] [] ed oN:=Wf 0 Tryz.f201 λh=>by unfold Em at h;exact Wg (.y 9 9 (.k (λv1=>⟨[(2,yb v1)],[]⟩))) h
instance {F:Set}:CK (Yu F) 199 [ed F] [] ed oN:=.mk λh=>by cases h
instance {F:fv}:CK (N2 F) 200 [ed F] [] ed oN:=Wf 0 Tryz.f200 λh=>by unfold N2 at h;exact Wg .z h
instance {F:ry}:CK (NN F) 145 [ed F] [] ed oN:=Wf 0 Tryz.f145 λh=>by unfold NN at h;exact Wg (.y 73 73 (.c (.f 10 3 Set.cW (λK v2=>⟨[(1,yr 1 0),(3,AV.mp 8),(10,AV.d (D.l 3 Set.cW F.oT)),(11,yi (F.oT.length:Int)),(12,yi (K:Int))],[(1,yB (ry.av F)),(8,some (OB.map 9 4 (BS D.s D.b v2)))]⟩) (λv2 K P=>.g (.k (λQ=>⟨[(5,yr 5 0),(24,yb Q)],[(5,yB (Set.av P))]⟩)))) (λ_=>⟨[(1,yr 1 0)],[(1,yB (ry.av F))]⟩) λ_=>.c (.f 30 6 oB.cW (λM _=>⟨[(30,AV.d (D.l 6 oB.cW F.n5)),(31,yi (F.n5.length:Int)),(32,yi (M:Int))],[]⟩) (λ_ M U=>.g (.k (λH=>⟨[(61,yb H)],[]⟩)))) (λ_=>⟨[],[]⟩) λ_=>.k (λJ=>⟨[(1,X),(2,yb J)],[(1,N)]⟩))) h
instance {F:O fv}:CK (Ak F) 195 [ed F,AV.fn 135 []] [] ed oN:=Wf 0 Tryz.f195 λh=>by unfold Ak at h;exact Wg (.y 19 19 (.a (.f0 6 4 fv.cW (λH _=>⟨[(0,y2 F),(1,AV.fn 135 []),(6,y2 F),(7,yi (F.length:Int)),(8,yi (H:Int))],[]⟩)) (λ_=>⟨[],[]⟩))) h
instance {F:O fv}:CK (AW F) 137 [ed F,AV.fn 135 []] [] ed oN:=Wf 0 Tryz.f137 λh=>by unfold AW at h;exact Wg .z h
instance {F:O s8}:CK (Aq F) 196 [ed F,AV.fn 139 []] [] ed oN:=Wf 0 Tryz.f196 λh=>by unfold Aq at h;exact Wg (.y 19 19 (.a (.f0 6 2 s8.cW (λH _=>⟨[(0,xR F),(1,AV.fn 139 []),(6,xR F),(7,yi (F.length:Int)),(8,yi (H:Int))],[]⟩)) (λ_=>⟨[],[]⟩))) h
instance {F:O s8}:CK (Am F) 138 [ed F,AV.fn 139 []] [] ed oN:=Wf 0 Tryz.f138 λh=>by unfold Am at h;exact Wg .z h
instance {F:O Int}:CK (A6 F) 197 [ed F,AV.fn 141 []] [] ed oN:=Wf 0 Tryz.f197 λh=>by unfold A6 at h;exact Wg (.y 19 19 (.a (.f0 6 1 D.i (λH _=>⟨[(0,y0 F),(1,AV.fn 141 []),(6,y0 F),(7,yi (F.length:Int)),(8,yi (H:Int))],[]⟩)) (λ_=>⟨[],[]⟩))) h
instance {F:O Int}:CK (A0 F) 140 [ed F,AV.fn 141 []] [] ed oN:=Wf 0 Tryz.f140 λh=>by unfold A0 at h;exact Wg .z h
instance {F:O oB}:CK (Aj F) 198 [ed F,AV.fn 142 []] [] ed oN:=Wf 0 Tryz.f198 λh=>by unfold Aj at h;exact Wg (.y 19 19 (.a (.f0 6 6 oB.cW (λH _=>⟨[(0,uE F),(1,AV.fn 142 []),(6,uE F),(7,yi (F.length:Int)),(8,yi (H:Int))],[]⟩)) (λ_=>⟨[],[]⟩))) h
instance {F:O oB}:CK (Ah F) 144 [ed F,AV.fn 142 []] [] ed oN:=Wf 0 Tryz.f144 λh=>by unfold Ah at h;exact Wg .z h
instance O0 {F:mu}:CK (JD F) 106 [ed F] [] ed oN:=Wf 0 Tryz.f106 λh=>by unfold JD at h;exact Wg (.y 117 117 (.d (λv1=>⟨[(1,yr 1 0),(38,yb v1)],[(1,yB (mu.av F))]⟩) λv1=>.b .z (.d (λv2=>⟨[(38,X),(88,yb v2)],[]⟩) λv2=>.b .z (.d (λH=>⟨[(88,X),(98,yb H)],[]⟩) λH=>.b .z (.d (λJ=>⟨[(98,X),(106,yb J)],[]⟩) λJ=>.b .z (.k (λK=>⟨[(1,X),(2,yb K),(106,X)],[(1,N)]⟩))))))) h
instance RY {F:r5}:CK (Qd F) 107 [ed F] [] ed oN:=.mk λh=>by cases h
instance {F:Addr}:CK (CY F) 203 [ed F] [] ed oN:=Wf 0 Tryz.f203 λh=>by unfold CY at h;exact Wg .z h
instance {F:O Addr}:CK (AZ F) 244 [ed F,AV.fn 203 []] [] ed oN:=Wf 0 Tryz.f244 λh=>by unfold AZ at h;exact Wg (.y 19 19 (.a (.f0 6 3 Addr.cW (λH _=>⟨[(0,yU F),(1,AV.fn 203 []),(6,yU F),(7,yi (F.length:Int)),(8,yi (H:Int))],[]⟩)) (λ_=>⟨[],[]⟩))) h
instance {F:O Addr}:CK (AT F) 202 [ed F,AV.fn 203 []] [] ed oN:=Wf 0 Tryz.f202 λh=>by unfold AT at h;exact Wg .z h
instance {F:r6}:CK (DU F) 147 [ed F] [] ed oN:=Wf 0 Tryz.f147 λh=>by unfold DU at h;exact Wg (.y 28 28 (.k (λv1=>⟨[(2,yb v1)],[]⟩))) h
instance {F:Int} {H:Int} {J:Int}:CK (Ed F H J) 206 [ed F,ed H,ed J] [] ed oN:=Wf 0 Tryz.f206 λh=>by unfold Ed at h;exact Wg (.y 15 15 (.k (λv1=>⟨[(6,yb v1)],[]⟩))) h
instance J9 {F:pk}:CK (Jp F) 108 [ed F] [] ed oN:=.mk λh=>by cases h
instance RF {F:O oF}:CK (Gy F) 109 [ed F] [] ed oN:=Wf 0 Tryz.f109 λh=>by unfold Gy at h;exact Wg (.y 18 18 (.a (.f0 6 2 oF.cW (λJ H=>⟨[(3,yO 3 D.i H),(6,y3 F),(7,yi (F.length:Int)),(8,yi (J:Int))],[(3,yR 3 1 D.i H)]⟩)) (λv1=>⟨[(3,yO 3 D.i v1)],[(3,yR 3 1 D.i v1)]⟩))) h
instance {F:re}:CK (I0 F) 63 [ed F] [] ed oN:=Wf 0 Tryz.f63 λh=>by
 refine⟨rfl,?_⟩;unfold I0 at h;(conv=>whnf);refine Ar h (λv1=>⟨X::yr 1 0::dd 23 (yb v1::dd 81 ([])),uP F⟩) ?_ ?_
 ·intro _ h;refine B1 h (λ_=>O0.ok) λ_ h=>?_;refine VZ h λh=>?_;refine⟨F.fI.length,X10 _,?_⟩;refine VZ h λh=>?_;refine⟨F.o3.length,X10 _,?_⟩;refine⟨F.fI.length,X10 _,?_⟩;exact sj h
 rintro v1 h;refine sI ?_;refine Ce h ?_ ?_<;>intro h
 ·exact fin h
 refine⟨F.fI.length,X10 _,?_⟩;refine Ar h (λ_=>⟨dd 107 ([]),nn 107 ([])⟩) ?_ ?_
 ·intro _ h;revert h;refine By 27 7 r5.cW rfl (λH _=>⟨wY (F.fI.length:Int) (H:Int) F.fI,uP F⟩) ?_ ?_ ?_
  ·exact wk
  ·rintro _ Y h;refine sI ?_;refine VX fo ?_;exact sj h
  rintro _ H Z _ Y b2 c2 e2 h p5;refine sI ?_;refine GH (JV b2) ?_;refine Ar h (λ_=>⟨wY (F.fI.length:Int) (H:Int) F.fI,uP F⟩) ?_ ?_
  ·intro _ h;refine⟨Eo (f:=r5.cW) b2,r5.cW Z,c2,rfl,?_⟩;refine Ar h (λV=>⟨pM (H:Int) (F.fI.length:Int) V F.fI,uP F⟩) ?_ ?_
   ·intro _ h;refine .inl (dO ?_);refine IZ h (λ_=>RY.ok) (λ_=>rfl) λ_ h=>?_;refine Ce h ?_ ?_<;>intro h
    ·refine cO ?_;exact sj h
    refine Ce h ?_ ?_<;>intro h
    ·refine⟨_,rfl,?_⟩;(conv=>whnf);refine Fq h (λ_=>rfl) λ_ h=>?_;refine Ce h ?_ ?_<;>intro h
     ·refine cO ?_;exact sj h
     refine Ce h ?_ ?_<;>intro h
     ·refine cO ?_;exact sj h
     (conv=>whnf);refine Fq h (λ_=>rfl) λ_ h=>?_;refine Ce h ?_ ?_<;>intro h
     ·refine cO ?_;exact sj h
     (conv=>whnf);refine Fq h (λ_=>rfl) λ_ h=>?_;refine IZ h (λ_=>J9.ok) (λ_=>rfl) λ_ h=>?_;refine cO ?_;exact sj h
    refine Ce h ?_ ?_<;>intro h
    ·refine cO ?_;exact sj h
    (conv=>whnf);refine Fq h (λ_=>rfl) λ_ h=>?_;refine Ce h ?_ ?_<;>intro h
    ·refine cO ?_;exact sj h
    (conv=>whnf);refine Fq h (λ_=>rfl) λ_ h=>?_;refine IZ h (λ_=>J9.ok) (λ_=>rfl) λ_ h=>?_;refine cO ?_;exact sj h
   rintro V h;refine sI ?_;refine Ce h ?_ ?_<;>intro h
   ·exact fin h
   (conv=>whnf);refine Fq h (λ_=>rfl) λJ h=>?_;refine⟨J.gN.length,X10 _,?_⟩;refine Ar h (λ_=>⟨wY (F.fI.length:Int) (H:Int) F.fI,uP F⟩) ?_ ?_
   ·intro _ h;revert h;refine By 87 18 gN.cW rfl (λM _=>⟨yW (F.fI.length:Int) (H:Int) (J.gN.length:Int) (M:Int) F.fI J.gN,uP F⟩) ?_ ?_ ?_
    ·exact wk
    ·rintro _ K9 h;refine sI ?_;refine VX fo ?_;exact sj h
    rintro _ M P _ K9 b8 c8 e8 h Q;refine sI ?_;refine GH (JV b8) ?_;refine sI ?_;refine⟨Eo (f:=gN.cW) b8,gN.cW P,c8,rfl,?_⟩;refine Ar h (λK=>⟨yK (F.fI.length:Int) (H:Int) (J.gN.length:Int) (M:Int) K F.fI J.gN,uP F⟩) ?_ ?_
    ·intro _ h;refine Oz h λh=>?_;refine B1 h (λ_=>RF.ok) λU h=>?_;refine⟨U.length,X10 _,?_⟩;exact sj h
    rintro K h;refine sI ?_;refine Ce h ?_ ?_<;>intro h
    ·exact fin h
    refine⟨_,e8,?_⟩;exact Q _ _ wk h
   rintro _ h;exact sj h
  rintro _ h;refine⟨_,e2,?_⟩;exact p5 _ _ wk h
 rintro _ h;exact fin h
instance {F:O fv}:CK (Cc F) 151 [ed F] [] ed oN:=Wf 0 Tryz.f151 λh=>by unfold Cc at h;exact Wg .z h
instance {F:O s8}:CK (Eg F) 152 [ed F] [] ed oN:=Wf 0 Tryz.f152 λh=>by unfold Eg at h;exact Wg .z h
instance {F:O oB}:CK (Cb F) 153 [ed F] [] ed oN:=Wf 0 Tryz.f153 λh=>by unfold Cb at h;exact Wg .z h
instance {F:O T}:CK (Fp F) 154 [ed F] [] ed oN:=Wf 0 Tryz.f154 λh=>by unfold Fp at h;exact Wg .z h
instance {F:mu}:CK (Iz F) 110 [ed F] [] ed oN:=Wf 0 Tryz.f110 λh=>by unfold Iz at h;exact Wg (.v λv1=>.v λv2=>.v λH=>.v λJ=>.v λK=>.v λM=>.y 59 59 (.a (.f0 35 3 Set.cW (λU P=>⟨[(1,yr 1 0),(2,yr 2 0),(35,AV.d (D.l 3 Set.cW F.ry.oT)),(36,yi (F.ry.oT.length:Int)),(37,yi (U:Int))],[(1,yB [AV.d (D.i F.sK),y2 v1,AV.d (D.i F.sq),AV.d (D.i F.rj),AV.d (D.i F.sl),AV.d (D.i F.ri),AV.d (D.i F.rR),AV.d (D.i F.rS),y2 v2,xR H,y0 J,AV.d (D.i F.rV),yO 54 Set.cW P,uE M,uE K]),(2,yB mu.zv),(54,yR 137 3 Set.cW P)]⟩)) (λQ=>⟨[(1,yr 1 0),(2,yr 2 0)],[(1,yB [AV.d (D.i F.sK),y2 v1,AV.d (D.i F.sq),AV.d (D.i F.rj),AV.d (D.i F.sl),AV.d (D.i F.ri),AV.d (D.i F.rR),AV.d (D.i F.rS),y2 v2,xR H,y0 J,AV.d (D.i F.rV),yO 54 Set.cW Q,uE M,uE K]),(2,yB mu.zv),(54,yR 137 3 Set.cW Q)]⟩))) h
instance {F:r5}:CK (L9 F) 111 [ed F] [] ed oN:=.mk λh=>by cases h
instance {F:pk}:CK (Rz F) 112 [ed F] [] ed oN:=.mk λh=>by cases h
instance {F:re}:CK (I1 F) 64 [ed F] [] ed oN:=Wf 0 Tryz.f64 λh=>by unfold I1 at h;exact Wg (.v λ(v1:mu)=>.y 43 43 (.c (.f0 13 7 r5.cW (λM J=>⟨[(1,yr 1 0),(2,yr 2 0),(3,yr 3 0),(13,AV.d (D.l 7 r5.cW F.fI)),(14,yi (F.fI.length:Int)),(15,yi (M:Int))],[(1,yB (re.av F)),(2,yB re.zv),(3,yB [AV.d (D.i v1.sK),AV.d (D.l 4 fv.cW v1.rU),AV.d (D.i v1.sq),AV.d (D.i v1.rj),AV.d (D.i v1.sl),AV.d (D.i v1.ri),AV.d (D.i v1.rR),AV.d (D.i v1.rS),AV.d (D.l 4 fv.cW v1.r7),AV.d (D.l 2 s8.cW v1.oE),AV.d (D.l 1 D.i v1.rI),AV.d (D.i v1.rV),AV.d (D.l 3 Set.cW v1.ry.oT),AV.d (D.l 6 oB.cW v1.ry.n5),AV.d (D.l 6 oB.cW v1.n9),yO 24 r5.cW J,AV.d (D.nil 8)]),(24,yR 72 7 r5.cW J)]⟩)) (λv2=>⟨[(1,yr 1 0),(2,yr 2 0),(3,yr 3 0)],[(1,yB (re.av F)),(2,yB re.zv),(3,yB [AV.d (D.i v1.sK),AV.d (D.l 4 fv.cW v1.rU),AV.d (D.i v1.sq),AV.d (D.i v1.rj),AV.d (D.i v1.sl),AV.d (D.i v1.ri),AV.d (D.i v1.rR),AV.d (D.i v1.rS),AV.d (D.l 4 fv.cW v1.r7),AV.d (D.l 2 s8.cW v1.oE),AV.d (D.l 1 D.i v1.rI),AV.d (D.i v1.rV),AV.d (D.l 3 Set.cW v1.ry.oT),AV.d (D.l 6 oB.cW v1.ry.n5),AV.d (D.l 6 oB.cW v1.n9),yO 24 r5.cW v2,AV.d (D.nil 8)]),(24,yR 72 7 r5.cW v2)]⟩) λv2=>.a (.f0 28 8 pk.cW (λP H=>⟨[(1,X),(28,AV.d (D.l 8 pk.cW F.o3)),(29,yi (F.o3.length:Int)),(30,yi (P:Int))],[(1,N),(3,yB [AV.d (D.i v1.sK),AV.d (D.l 4 fv.cW v1.rU),AV.d (D.i v1.sq),AV.d (D.i v1.rj),AV.d (D.i v1.sl),AV.d (D.i v1.ri),AV.d (D.i v1.rR),AV.d (D.i v1.rS),AV.d (D.l 4 fv.cW v1.r7),AV.d (D.l 2 s8.cW v1.oE),AV.d (D.l 1 D.i v1.rI),AV.d (D.i v1.rV),AV.d (D.l 3 Set.cW v1.ry.oT),AV.d (D.l 6 oB.cW v1.ry.n5),AV.d (D.l 6 oB.cW v1.n9),yO 24 r5.cW v2,yO 39 pk.cW H]),(39,yR 108 8 pk.cW H)]⟩)) (λK=>⟨[(1,X)],[(1,N),(3,yB [AV.d (D.i v1.sK),AV.d (D.l 4 fv.cW v1.rU),AV.d (D.i v1.sq),AV.d (D.i v1.rj),AV.d (D.i v1.sl),AV.d (D.i v1.ri),AV.d (D.i v1.rR),AV.d (D.i v1.rS),AV.d (D.l 4 fv.cW v1.r7),AV.d (D.l 2 s8.cW v1.oE),AV.d (D.l 1 D.i v1.rI),AV.d (D.i v1.rV),AV.d (D.l 3 Set.cW v1.ry.oT),AV.d (D.l 6 oB.cW v1.ry.n5),AV.d (D.l 6 oB.cW v1.n9),yO 24 r5.cW v2,yO 39 pk.cW K]),(39,yR 108 8 pk.cW K)]⟩))) h
instance {F:O oF}:CK (DI F) 261 [ed F] [] ed oN:=Wf 0 Tryz.f261 λh=>by unfold DI at h;exact Wg (.y 23 23 (.a (.f 6 2 oF.cW (λH J=>⟨[(3,yi J),(6,y3 F),(7,yi (F.length:Int)),(8,yi (H:Int))],[]⟩) (λJ H M=>.g (.k (λK=>⟨[(3,yi K)],[]⟩)))) (λv1=>⟨[(3,yi v1)],[]⟩))) h
end Go.AX.Q29
end
