/-
  Texts of one proof, packed.
-/
import Derived.Test.YtppcmaidcgimpaaGreatDoorS18
import Derived.Test.YtppcmaidcgimpaaGreatDoorS26
import Derived.Test.YtppcmaidcgimpaaGreatDoorS27
import Derived.Test.YtppcmaidcgimpaaGreatDoorS28
import Derived.Test.YtppcmaidcgimpaaGreatDoorS29
import Derived.Test.YtppcmaidcgimpaaGreatDoorS30
set_option linter.all false
set_option maxRecDepth 100000
set_option maxHeartbeats 4000000
open List renaming length_map→X6,length_append→X10,length_drop→X16,length_take→X17,length_replicate→X19,length_set→X20
open Int renaming toNat→Xi
open List renaming map→Xj,replicate→Xal,take→Xbg,drop→Xbh
open Go.Proofs.Tryz renaming prog→Xai
section
namespace Go.AX.Q25
open Go Go.AX Go.Proofs
variable {wl:Prop}
instance {Q:I fT} {F:Int}:CK (Ah Q F) 80 [AV.own 0 (Xj fT.fv Q).length,AV.fn 81 [.ref 1 0]] [.row 71 18 (Xj fT.fv Q) .no,.box [.d (D.i F)]] (λr=>AV.own 2 (Xj fT.fv r.1).length) (λr=>[.gone,.box [.d (D.i r.2)],.row 71 18 (Xj fT.fv r.1) .no]):=Wf 0 Tryz.f80 λh=>by
 refine⟨rfl,?_⟩;unfold Ah at h;(conv=>whnf);refine A7 h (λ_=>CL.ok) ?_;rintro⟨_,_⟩ h;refine rf ?_;refine EQ h ?_ ?_<;>intro h
 ·exact Wg (.r .z) h
 refine⟨_,rfl,?_⟩;refine A8 h (λ(H,J,Z)=>⟨yO 0 fT.fv J::dd 4 (yi H::dd 36 ([])),yR 71 18 fT.fv J::uZ Z::nn 42 ([])⟩) ?_ ?_
 ·intro _ h;exact Wg (.y 42 44 (.w (u4 λv4 v5 U v7=>⟨[(0,yO 0 fT.fv U),(1,AV.fn 81 [yr 1 0]),(5,yi v4),(6,yi v5)],[(0,yR 71 18 fT.fv U),(1,uZ v7)]⟩) (u4 λv4 v5 U v7=>.b (.v λv9=>.v λ_=>.v λV=>.k (u2 λY K=>⟨[(0,yO 0 fT.fv K),(5,yi Y)],[(0,yR 71 18 fT.fv K),(1,uZ V)]⟩)) .z))) h
 rintro⟨H,J,Z⟩ h;(conv=>whnf);refine .inr (.inl ?_);obtain⟨_,M,h⟩:=Aa h;have a1:=FD M;refine⟨L0 (f:=fT.fv) M,rfl,(Xi H),(Xi (J.length:Int)-Xi H),rfl,(by rw[X6]),?_⟩;refine⟨IU,fT.fv (⟨(⟨(⟨(⟨false,(0:j),(0:j)⟩:Addr),0⟩:fI),0,(⟨0,[],(⟨false,(0:j),(0:j)⟩:Addr),0,0,0,[],[],[]⟩:gE)⟩:o3),0,false⟩:fT),rfl,Xj fT.fv (Xbg (Xi H) J++Xal (Xi (J.length:Int)-Xi H) (⟨(⟨(⟨(⟨false,(0:j),(0:j)⟩:Addr),0⟩:fI),0,(⟨0,[],(⟨false,(0:j),(0:j)⟩:Addr),0,0,0,[],[],[]⟩:gE)⟩:o3),0,false⟩:fT)++Xbh ((Xi H)+(Xi (J.length:Int)-Xi H)) J),Ve,?_⟩;(conv=>whnf);refine .inr (.inr ?_);obtain⟨a6,P,h⟩:=Aa h;refine⟨YB (f:=fT.fv) P,IU,_,PQ (f:=fT.fv) P,?_⟩;exact Wg (.l (.r .z)) h
instance RO {F:iA}{H:Int}:CK (G8 F H) 35 [ed F,ed H] [] ed oN:=Wf 0 Tryz.f35 λh=>by unfold G8 at h;exact Wg (.n [7] (.n [11] .z)) h
instance KE {F:I fI}{H:I fI}:CK (C2 F H) 39 [ed F,ed H] [] ed oN:=Wf 0 Tryz.f39 λh=>by unfold C2 at h;exact Wg (.b .z (.y 26 26 (.a (.f0 11 4 fI.fv (λJ _=>⟨[(0,y8 F),(1,y8 H),(11,y8 F),(12,yi (F.length:Int)),(13,yi (J:Int))],[]⟩)) (λ_=>⟨[],[]⟩)))) h
instance ER {F:I fI}:CK (Au F) 84 [AV.own 0 (Xj fI.fv F).length] [.row 67 4 (Xj fI.fv F) .no] (λr=>AV.own 1 (Xj fI.fv r).length) (λr=>[.gone,.row 67 4 (Xj fI.fv r) .no]):=Wf 0 Tryz.f84 λh=>by
 refine⟨rfl,?_⟩;unfold Au at h;refine⟨F.length,IU,?_⟩;refine rf ?_;refine EQ h ?_ ?_<;>intro h
 ·exact Wg (.r .z) h
 refine A8 h (λ_=>⟨yO 0 fI.fv F::dd 60 ([]),cZ F⟩) ?_ ?_
 ·intro _ h;revert h;refine FI (λH=>⟨yO 0 fI.fv F::X::X::yi H::dd 57 ([]),cZ F⟩) ?_ ?_
  ·exact wk
  rintro _ H _ h p2;refine⟨F.length,IU,?_⟩;refine rf ?_;refine LL h λh=>?_;refine A8 h (λ_=>⟨yO 0 fI.fv F::X::X::yi H::dd 57 ([]),cZ F⟩) ?_ ?_
  ·intro _ h;refine .inl (dO ?_);obtain⟨v3,g4,h⟩:=Aa h;refine⟨rfl,ND (f:=fI.fv) g4,?_⟩;refine⟨rfl,fI.fv v3,(Kw (f:=fI.fv) g4),?_⟩;refine⟨_,rfl,?_⟩;obtain⟨v5,g6,h⟩:=Aa h;refine⟨rfl,ND (f:=fI.fv) g6,?_⟩;refine⟨rfl,fI.fv v5,(Kw (f:=fI.fv) g6),?_⟩;refine cO ?_;refine rf ?_;refine LL h λh=>?_;(conv=>whnf);refine .inr (.inl ?_);obtain⟨_,g7,h⟩:=Aa h;have ae:=FD g7;refine⟨L0 (f:=fI.fv) g7,rfl,(Xi H),(Xi (F.length:Int)-Xi H),rfl,(by rw[X6]),?_⟩;refine A8 h (λ(M,P)=>⟨yO 0 fI.fv P::X::X::yi M::dd 57 ([]),cZ P⟩) ?_ ?_
   ·intro _ h;revert h;refine FI (λ(U,Q,J)=>⟨yO 0 fI.fv J::X::X::yi U::AV.rO 0 (Xi H) (Xi (F.length:Int)-Xi H) (Xj fI.fv J).length::yi Q::dd 55 ([]),cZ J⟩) ?_ ?_
    ·exact wk
    rintro _ ⟨U,Q,J⟩ _ h ag;refine⟨(Xi (F.length:Int)-Xi H),rfl,?_⟩;refine rf ?_;refine LL h λh=>?_;refine rf ?_;refine .inl (dO ?_);obtain⟨a8,V,h⟩:=Aa h;refine⟨IU,X5 V,_,rfl,?_⟩;refine⟨rfl,fI.fv a8,(YV (f:=fI.fv) V),?_⟩;refine⟨_,rfl,?_⟩;obtain⟨aa,Y,h⟩:=Aa h;refine⟨IU,X5 Y,_,rfl,?_⟩;refine⟨rfl,fI.fv aa,(YV (f:=fI.fv) Y),?_⟩;refine cO ?_;refine A8 h (λ(Z,K)=>⟨yO 0 fI.fv K::X::X::yi Z::AV.rO 0 (Xi H) (Xi (F.length:Int)-Xi H) (Xj fI.fv K).length::yi Q::dd 55 ([]),cZ K⟩) ?_ ?_
    ·intro _ h;refine LL h λh=>?_;obtain⟨ab,a1,h⟩:=Aa h;refine⟨IU,X5 a1,_,rfl,?_⟩;refine⟨rfl,fI.fv ab,(YV (f:=fI.fv) a1),?_⟩;exact Wg .z h
    rintro⟨Z,K⟩ h;exact Wg .z h
   rintro⟨M,P⟩ h;(conv=>whnf);refine .inr (.inl ?_);obtain⟨_,a6,h⟩:=Aa h;have af:=FD a6;refine⟨L0 (f:=fI.fv) a6,rfl,(Xi M),(Xi (P.length:Int)-Xi M),rfl,(by rw[X6]),?_⟩;refine⟨IU,fI.fv (⟨(⟨false,(0:j),(0:j)⟩:Addr),0⟩:fI),rfl,Xj fI.fv (Xbg (Xi M) P++Xal (Xi (P.length:Int)-Xi M) (⟨(⟨false,(0:j),(0:j)⟩:Addr),0⟩:fI)++Xbh ((Xi M)+(Xi (P.length:Int)-Xi M)) P),Ve,?_⟩;(conv=>whnf);refine .inr (.inr ?_);obtain⟨ah,a7,h⟩:=Aa h;refine⟨YB (f:=fI.fv) a7,IU,_,PQ (f:=fI.fv) a7,?_⟩;exact Wg (.l (.r .z)) h
  rintro _ h;exact Wg .z h
 rintro _ h;exact Wg (.r .z) h
instance {F:I Int} {H:I Int}:CK (CG F H) 228 [ed F,ed H] [] ed oN:=Wf 0 Tryz.f228 λh=>by unfold CG at h;exact Wg (.b .z (.y 26 26 (.a (.f0 11 1 D.i (λJ _=>⟨[(0,y2 F),(1,y2 H),(11,y2 F),(12,yi (F.length:Int)),(13,yi (J:Int))],[]⟩)) (λ_=>⟨[],[]⟩)))) h
instance {F:oA} {H:oA}:CK (FA F H) 227 [ed F,ed H] [] ed oN:=Wf 0 Tryz.f227 λh=>by unfold FA at h;exact Wg (.y 17 17 (.k (λJ=>⟨[(4,yb J)],[]⟩))) h
instance {F:I S} {H:I S}:CK (Bq F H) 230 [ed F,ed H] [] ed oN:=Wf 0 Tryz.f230 λh=>by unfold Bq at h;exact Wg (.b .z (.y 26 26 (.a (.f0 11 1 D.u8 (λJ _=>⟨[(0,vu F),(1,vu H),(11,vu F),(12,yi (F.length:Int)),(13,yi (J:Int))],[]⟩)) (λ_=>⟨[],[]⟩)))) h
instance {F:gF} {H:gF}:CK (E7 F H) 229 [ed F,ed H] [] ed oN:=Wf 0 Tryz.f229 λh=>by unfold E7 at h;exact Wg (.y 24 24 (.k (λJ=>⟨[(4,yb J)],[]⟩))) h
instance {F:I oF} {H:I oF}:CK (Aj F H) 232 [ed F,ed H] [] ed oN:=Wf 0 Tryz.f232 λh=>by unfold Aj at h;exact Wg (.b .z (.y 26 26 (.a (.f0 11 2 oF.fv (λJ _=>⟨[(0,y4 F),(1,y4 H),(11,y4 F),(12,yi (F.length:Int)),(13,yi (J:Int))],[]⟩)) (λ_=>⟨[],[]⟩)))) h
instance {F:I ls} {H:I ls}:CK (A6 F H) 233 [ed F,ed H] [] ed oN:=Wf 0 Tryz.f233 λh=>by unfold A6 at h;exact Wg (.b .z (.y 26 26 (.a (.f0 11 3 ls.fv (λJ _=>⟨[(0,y5 F),(1,y5 H),(11,y5 F),(12,yi (F.length:Int)),(13,yi (J:Int))],[]⟩)) (λ_=>⟨[],[]⟩)))) h
instance {F:I oA} {H:I oA}:CK (AL F H) 231 [ed F,ed H,AV.fn 227 []] [] ed oN:=Wf 0 Tryz.f231 λh=>by unfold AL at h;exact Wg (.b .z (.y 32 32 (.a (.f0 15 2 oA.fv (λJ _=>⟨[(1,y3 H),(2,AV.fn 227 []),(15,y3 F),(16,yi (F.length:Int)),(17,yi (J:Int))],[]⟩)) (λ_=>⟨[],[]⟩)))) h
instance {F:I gF} {H:I gF}:CK (AK F H) 234 [ed F,ed H,AV.fn 229 []] [] ed oN:=Wf 0 Tryz.f234 λh=>by unfold AK at h;exact Wg (.b .z (.y 32 32 (.a (.f0 15 3 gF.fv (λJ _=>⟨[(1,y6 H),(2,AV.fn 229 []),(15,y6 F),(16,yi (F.length:Int)),(17,yi (J:Int))],[]⟩)) (λ_=>⟨[],[]⟩)))) h
instance {F:gE} {H:gE}:CK (Gx F H) 163 [ed F,ed H] [] ed oN:=Wf 0 Tryz.f163 λh=>by unfold Gx at h;exact Wg (.y 70 70 (.k (λJ=>⟨[(4,yb J)],[]⟩))) h
instance {F:o3} {H:o3}:CK (Fp F H) 86 [ed F,ed H] [] ed oN:=Wf 0 Tryz.f86 λh=>by unfold Fp at h;exact Wg (.y 24 24 (.k (λJ=>⟨[(4,yb J)],[]⟩))) h
instance {J:fI} {F:iA} {H:iA}:CK (Do J F H) 85 [ed J,.ref 0 0,.ref 1 0] [.box (iA.av F),.box (iA.av H)] (λr=>.d (D.b r.1)) (λr=>[.box (iA.av r.2.1),.box (iA.av r.2.2)]):=Wf 0 Tryz.f85 λh=>by unfold Do at h;exact Wg (.y 29 31 (.k (λK=>⟨[(4,yb K)],[(0,yB (iA.av F)),(1,yB (iA.av H))]⟩))) h
instance B8 {F:I fI}{H:iA}{J:iA}:CK (Ap F H J) 162 [AV.own 0 (Xj fI.fv F).length,AV.fn 85 [.ref 1 0,.ref 2 0]] [.row 67 4 (Xj fI.fv F) .no,.box (iA.av H),.box (iA.av J)] (λr=>.d (D.i r.1)) (λr=>[.row 67 4 (Xj fI.fv F) .no,.box (iA.av r.2.1),.box (iA.av r.2.2)]):=Wf 0 Tryz.f162 λh=>by unfold Ap at h;exact Wg (.y 19 22 (.a (.o0 0 67 4 fI.fv (λK=>u2 λM P=>⟨[(0,yO 0 fI.fv F),(1,AV.fn 85 [yr 1 0,yr 2 0]),(6,yO 0 fI.fv F),(7,yi (F.length:Int)),(8,yi (K:Int))],[(0,yR 67 4 fI.fv F),(1,yB (iA.av M)),(2,yB (iA.av P))]⟩)) (u2 λQ U=>⟨[],[(0,yR 67 4 fI.fv F),(1,yB (iA.av Q)),(2,yB (iA.av U))]⟩))) h
instance {U:I fI} {F:iA} {H:iA}:CK (Af U F H) 83 [AV.own 0 (Xj fI.fv U).length,AV.fn 85 [.ref 1 0,.ref 2 0]] [.row 67 4 (Xj fI.fv U) .no,.box (iA.av F),.box (iA.av H)] (λr=>AV.own 3 (Xj fI.fv r.1).length) (λr=>[.gone,.box (iA.av r.2.1),.box (iA.av r.2.2),.row 67 4 (Xj fI.fv r.1) .no]):=Wf 0 Tryz.f83 λh=>by
 refine⟨rfl,?_⟩;unfold Af at h;(conv=>whnf);refine A7 h (λ_=>B8.ok) ?_;rintro⟨_,_,_⟩ h;refine rf ?_;refine EQ h ?_ ?_<;>intro h
 ·exact Wg (.r .z) h
 refine⟨_,rfl,?_⟩;refine A8 h (λ(J,K,v3,v4)=>⟨yO 0 fI.fv K::dd 4 (yi J::dd 36 ([])),yR 67 4 fI.fv K::yB (iA.av v3)::yB (iA.av v4)::nn 42 ([])⟩) ?_ ?_
 ·intro _ h;exact Wg (.y 42 45 (.w (u5 λv5 v6 V v8 v9=>⟨[(0,yO 0 fI.fv V),(1,AV.fn 85 [yr 1 0,yr 2 0]),(5,yi v5),(6,yi v6)],[(0,yR 67 4 fI.fv V),(1,yB (iA.av v8)),(2,yB (iA.av v9))]⟩) (u5 λv5 v6 V v8 v9=>.b (.v λa7=>.v λ_=>.v λY=>.v λZ=>.k (u2 λa1 M=>⟨[(0,yO 0 fI.fv M),(5,yi a1)],[(0,yR 67 4 fI.fv M),(1,yB (iA.av Y)),(2,yB (iA.av Z))]⟩)) .z))) h
 rintro⟨J,K,v3,v4⟩ h;(conv=>whnf);refine .inr (.inl ?_);obtain⟨_,P,h⟩:=Aa h;have a6:=FD P;refine⟨L0 (f:=fI.fv) P,rfl,(Xi J),(Xi (K.length:Int)-Xi J),rfl,(by rw[X6]),?_⟩;refine⟨IU,fI.fv (⟨(⟨false,(0:j),(0:j)⟩:Addr),0⟩:fI),rfl,Xj fI.fv (Xbg (Xi J) K++Xal (Xi (K.length:Int)-Xi J) (⟨(⟨false,(0:j),(0:j)⟩:Addr),0⟩:fI)++Xbh ((Xi J)+(Xi (K.length:Int)-Xi J)) K),Ve,?_⟩;(conv=>whnf);refine .inr (.inr ?_);obtain⟨a8,Q,h⟩:=Aa h;refine⟨YB (f:=fI.fv) Q,IU,_,PQ (f:=fI.fv) Q,?_⟩;exact Wg (.l (.r .z)) h
instance SH {F:iA}{H:iA}:CK (Gy F H) 40 [ed F,ed H] [] ed oN:=Wf 0 Tryz.f40 λh=>by
 refine⟨rfl,?_⟩;unfold Gy at h;refine⟨([F.fT,H.fT]:I (I fT)).length,IU,?_⟩;refine A8 h (λP=>⟨X::X::yr 2 0::yr 3 0::X::yO 5 fI.fv P::dd 34 ([]),N::N::yB (iA.av F)::yB (iA.av H)::N::yR 67 4 fI.fv P::nn 34 ([])⟩) ?_ ?_
 ·intro _ h;revert h;refine OJ 14 25 1 .no (D.l 18 fT.fv) rfl (λJ Q=>⟨X::X::yr 2 0::yr 3 0::X::yO 5 fI.fv Q::dd 8 (AV.own 14 (Xj (D.l 18 fT.fv) ([F.fT,H.fT]:I (I fT))).length::yi (([F.fT,H.fT]:I (I fT)).length:Int)::yi (J:Int)::dd 23 ([])),N::N::yB (iA.av F)::yB (iA.av H)::N::yR 67 4 fI.fv Q::nn 8 (some (OB.row 25 1 (Xj (D.l 18 fT.fv) ([F.fT,H.fT]:I (I fT))) .no)::nn 25 ([]))⟩) ?_ ?_ ?_
  ·exact wk
  ·rintro Q K4 h;exact Wg .z h
  rintro _ J U Q K4 b2 c2 e2 h p6;refine rf ?_;refine IB (NM b2) ?_;refine A8 h (λV=>⟨X::X::yr 2 0::yr 3 0::X::yO 5 fI.fv V::dd 8 (AV.own 14 (Xj (D.l 18 fT.fv) ([F.fT,H.fT]:I (I fT))).length::yi (([F.fT,H.fT]:I (I fT)).length:Int)::yi (J:Int)::dd 23 ([])),N::N::yB (iA.av F)::yB (iA.av H)::N::yR 67 4 fI.fv V::nn 8 (some (OB.row 25 1 (Xj (D.l 18 fT.fv) ([F.fT,H.fT]:I (I fT))) .no)::nn 25 ([]))⟩) ?_ ?_
  ·intro _ h;refine⟨rfl,GO (f:=(D.l 18 fT.fv)) b2,?_⟩;refine⟨rfl,(D.l 18 fT.fv) U,c2,?_⟩;exact Wg (.y 40 40 (.a (.f0 20 18 fT.fv (λi9 K=>⟨[(2,yr 2 0),(3,yr 3 0),(5,yO 5 fI.fv K),(14,AV.own 14 (Xj (D.l 18 fT.fv) ([F.fT,H.fT]:I (I fT))).length),(15,yi (([F.fT,H.fT]:I (I fT)).length:Int)),(16,yi (J:Int)),(20,y1 U),(21,yi (U.length:Int)),(22,yi (i9:Int))],[(2,yB (iA.av F)),(3,yB (iA.av H)),(5,yR 67 4 fI.fv K),(14,some (OB.row 25 1 (Xj (D.l 18 fT.fv) ([F.fT,H.fT]:I (I fT))) .no))]⟩)) (λv8=>⟨[(2,yr 2 0),(3,yr 3 0),(5,yO 5 fI.fv v8),(14,AV.own 14 (Xj (D.l 18 fT.fv) ([F.fT,H.fT]:I (I fT))).length),(15,yi (([F.fT,H.fT]:I (I fT)).length:Int)),(16,yi (J:Int))],[(2,yB (iA.av F)),(3,yB (iA.av H)),(5,yR 67 4 fI.fv v8),(14,some (OB.row 25 1 (Xj (D.l 18 fT.fv) ([F.fT,H.fT]:I (I fT))) .no))]⟩))) h
  rintro V h;exact Wg .z h
 rintro P h;obtain⟨Y,M,h⟩:=Aa h;have a7:=Ls M;refine⟨_,_,some [],YQ (f:=fI.fv) (enters_of Tryz.func76 (by kernel_rfl) rfl) (λh=>TQ.ok h) M,?_⟩;obtain⟨a8,Z,h⟩:=Aa h;have a6:(Xj fI.fv Y).length=(Xj fI.fv P).length:=(by first|rfl|(simp only[X6,X20];omega)|(simp only[wh,X6,X20,X10,X17,X16,X19];omega)|(simp only[X6] at *;omega));refine⟨_,_,some [37],(a6▸ER.ok Z),?_⟩;exact Wg (.n [39] .z) h
instance RH {F:iA}{H:iA}:CK (Gw F H) 41 [ed F,ed H] [] ed oN:=Wf 0 Tryz.f41 λh=>by unfold Gw at h;exact Wg (.v λ(K:I fI)=>.y 50 50 (.a (.f 14 4 fI.fv (λM J=>⟨[(2,yr 2 0),(3,yr 3 0),(5,yO 5 fI.fv J),(14,y8 K),(15,yi (K.length:Int)),(16,yi (M:Int))],[(2,yB (iA.av F)),(3,yB (iA.av H)),(5,yR 67 4 fI.fv J)]⟩) (λJ M V=>.g (.d (λP=>⟨[(7,yr 7 0),(43,yb P)],[(7,yB (fI.av V))]⟩) λP=>.k (λQ=>⟨[(5,yO 5 fI.fv Q),(7,X),(43,X)],[(5,yR 67 4 fI.fv Q),(7,N)]⟩)))) (λU=>⟨[(5,yO 5 fI.fv U)],[(5,yR 67 4 fI.fv U)]⟩))) h
def rP {H:iA}{a1:I Int}{J:Int}{K:Int}{U:Int}{r:C}(h:Dt H a1 J K U=some r):A0 (Wl True) Xai 7 [AV.d (iA.fv H),AV.d (D.l 1 D.i a1),AV.d (D.i J),AV.d (D.i K),AV.d (D.i U)] [] (.d (D.b r)) []:=by
 refine oK Tryz.f7 ⟨rfl,?_⟩;unfold Dt at h;(conv=>whnf);refine A7 h (λ_=>QO.ok) λ_ h=>?_;refine rf ?_;refine EQ h ?_ ?_<;>intro h
 ·refine A7 h (λ_=>Ks) λ_ h=>?_;exact fin h
 refine UV [30] h (λ_=>Wa.ok) λ_ h=>?_;refine A7 h (λ_=>QH.ok) ?_;rintro⟨V,F,Y⟩ h;refine⟨([F,H]:I iA).length,IU,?_⟩;refine A8 h (λ_=>⟨dd 4 (yi U::dd 6 (yr 30 0::yr 12 0::yr 13 0::dd 138 ([]))),nn 12 (yB (qI.av V)::yB (iA.av F)::nn 16 (yB (px.av Y)::nn 121 ([])))⟩) ?_ ?_
 ·intro _ h;revert h;refine OJ 38 27 8 .no iA.fv rfl (λZ _=>⟨wj J K U (([F,H]:I iA).length:Int) (Z:Int) ([F,H]:I iA),wJ ([F,H]:I iA) V F Y⟩) ?_ ?_ ?_
  ·exact wk
  ·rintro _ K5 h;refine rf ?_;exact r6 h
  rintro _ Z x6 _ K5 b4 c4 e4 h p7;refine rf ?_;refine IB (NM b4) ?_;refine A8 h (λ_=>⟨wj J K U (([F,H]:I iA).length:Int) (Z:Int) ([F,H]:I iA),wJ ([F,H]:I iA) V F Y⟩) ?_ ?_
  ·intro _ h;refine⟨rfl,GO (f:=iA.fv) b4,?_⟩;refine⟨rfl,iA.fv x6,c4,?_⟩;refine A7 h (λ_=>LC.ok) ?_;rintro⟨v8,_⟩ h;refine A7 h (λ_=>Qv.ok) ?_;rintro⟨v9,_⟩ h;refine A8 h (λaa=>⟨X::X::yi J::yi K::yi U::dd 6 (yr 30 0::yr 12 0::yr 13 0::X::yr 15 0::yr 16 0::X::yr 18 0::dd 19 (yO 38 iA.fv ([F,H]:I iA)::yi (([F,H]:I iA).length:Int)::yi (Z:Int)::dd 21 (yb aa::dd 89 ([])))),nn 12 (yB (qI.av V)::yB (iA.av F)::N::yB (iA.av x6)::yB (iA.av v8)::N::yB (iA.av v9)::nn 11 (yB (px.av Y)::nn 7 (yR 27 8 iA.fv ([F,H]:I iA)::nn 113 ([]))))⟩) ?_ ?_
   ·intro _ h;refine bL h λh=>?_;refine A7 h (λ_=>Ip.ok) λ_ h=>?_;exact r6 h
   rintro aa h;refine rf ?_;refine EQ h ?_ ?_<;>intro h
   ·exact fin h
   refine A7 h (λ_=>FV.ok) λM h=>?_;refine A7 h (λ_=>FV.ok) λP h=>?_;refine A7 h (λ_=>FV.ok) λQ h=>?_;refine⟨rfl,?_⟩;refine⟨rfl,?_⟩;refine⟨rfl,?_⟩;refine⟨([([J,K]:I Int),([M,P]:I Int),([Q,0]:I Int)]:I (I Int)).length,IU,?_⟩;refine A8 h (λ_=>⟨wj J K U (([F,H]:I iA).length:Int) (Z:Int) ([F,H]:I iA),wJ ([F,H]:I iA) V F Y⟩) ?_ ?_
   ·intro _ h;revert h;refine OJ 74 40 1 .no (D.l 1 D.i) rfl (λa6 (a7,a8)=>⟨X::X::yi J::yi K::yi U::dd 6 (yr 30 0::yr 12 0::yr 13 0::X::yr 15 0::yr 16 0::X::yr 18 0::dd 19 (yO 38 iA.fv ([F,H]:I iA)::yi (([F,H]:I iA).length:Int)::yi (Z:Int)::dd 33 (AV.own 74 (Xj (D.l 1 D.i) ([([J,K]:I Int),([M,P]:I Int),([Q,0]:I Int)]:I (I Int))).length::yi (([([J,K]:I Int),([M,P]:I Int),([Q,0]:I Int)]:I (I Int)).length:Int)::yi (a6:Int)::dd 75 ([])))),nn 12 (yB (qI.av V)::yB (iA.av F)::N::yB (iA.av x6)::yB (iA.av a7)::N::yB (iA.av a8)::nn 11 (yB (px.av Y)::nn 7 (yR 27 8 iA.fv ([F,H]:I iA)::nn 35 (some (OB.row 40 1 (Xj (D.l 1 D.i) ([([J,K]:I Int),([M,P]:I Int),([Q,0]:I Int)]:I (I Int))) .no)::nn 77 ([])))))⟩) ?_ ?_ ?_
    ·exact wk
    ·rintro⟨a7,a8⟩ ah h;refine rf ?_;exact r6 h
    rintro _ a6 ai ⟨a7,a8⟩ ah ab aj ak h al;refine rf ?_;refine IB (NM ab) ?_;refine rf ?_;refine⟨rfl,GO (f:=(D.l 1 D.i)) ab,?_⟩;refine⟨rfl,(D.l 1 D.i) ai,aj,?_⟩;refine .inl (dO ?_);(conv=>whnf);refine I8 h (λ_=>rfl) λ_ h=>?_;(conv=>whnf);refine I8 h (λ_=>rfl) λ_ h=>?_;refine DZ h (λ_=>Ti.ok) (λ_=>rfl) ?_;rintro⟨an,_⟩ h;refine cO ?_;refine .inl (dO ?_);(conv=>whnf);refine I8 h (λ_=>rfl) λ_ h=>?_;(conv=>whnf);refine I8 h (λ_=>rfl) λ_ h=>?_;refine DZ h (λ_=>TS.ok) (λ_=>rfl) ?_;rintro⟨ao,_⟩ h;refine cO ?_;refine A8 h (λae=>⟨X::X::yi J::yi K::yi U::dd 6 (yr 30 0::yr 12 0::yr 13 0::X::yr 15 0::yr 16 0::X::yr 18 0::dd 19 (yO 38 iA.fv ([F,H]:I iA)::yi (([F,H]:I iA).length:Int)::yi (Z:Int)::dd 33 (AV.own 74 (Xj (D.l 1 D.i) ([([J,K]:I Int),([M,P]:I Int),([Q,0]:I Int)]:I (I Int))).length::yi (([([J,K]:I Int),([M,P]:I Int),([Q,0]:I Int)]:I (I Int)).length:Int)::yi (a6:Int)::dd 33 (yb ae::dd 41 ([]))))),nn 12 (yB (qI.av V)::yB (iA.av F)::N::yB (iA.av x6)::yB (iA.av an)::N::yB (iA.av ao)::nn 11 (yB (px.av Y)::nn 7 (yR 27 8 iA.fv ([F,H]:I iA)::nn 35 (some (OB.row 40 1 (Xj (D.l 1 D.i) ([([J,K]:I Int),([M,P]:I Int),([Q,0]:I Int)]:I (I Int))) .no)::nn 77 ([])))))⟩) ?_ ?_
    ·intro _ h;refine bL h λh=>?_;refine A7 h (λ_=>Ip.ok) λ_ h=>?_;exact r6 h
    rintro ae h;refine rf ?_;refine EQ h ?_ ?_<;>intro h
    ·exact fin h
    refine⟨_,ak,?_⟩;exact al _ _ wk h
   rintro _ h;exact r6 h
  rintro _ h;refine⟨_,e4,?_⟩;exact p7 _ _ wk h
 rintro _ h;refine .inl (dO ?_);refine DZ h (λ_=>FV.ok) (λ_=>rfl) λ_ h=>?_;refine DZ h (λ_=>LQ.ok) (λ_=>rfl) λ_ h=>?_;refine cO ?_;refine .inl (dO ?_);refine DZ h (λ_=>L8.ok) (λ_=>rfl) ?_;rintro⟨_,_⟩ h;refine DZ h (λ_=>Ry.ok) (λ_=>rfl) ?_;rintro⟨_,_⟩ h;refine cO ?_;refine A8 h (λaf=>⟨dd 4 (yi U::dd 8 (yr 13 0::dd 8 (yr 22 0::dd 129 ([])))),nn 13 (yB (iA.av F)::nn 8 (yB (iA.av af)::nn 129 ([])))⟩) ?_ ?_
 ·intro _ h;exact vD h
 rintro af h;refine A8 h (λag=>⟨dd 10 (yb ag::dd 141 ([])),nn 152 ([])⟩) ?_ ?_
 ·intro _ h;refine .inl (dO ?_);refine DZ h (λ_=>FV.ok) (λ_=>rfl) λ_ h=>?_;refine DZ h (λ_=>RO.ok) (λ_=>rfl) λ_ h=>?_;refine DZ h (λ_=>FV.ok) (λ_=>rfl) λ_ h=>?_;refine DZ h (λ_=>LQ.ok) (λ_=>rfl) λ_ h=>?_;refine DZ h (λ_=>Ip.ok) (λ_=>rfl) λ_ h=>?_;refine EQ h ?_ ?_<;>intro h
  ·refine DZ h (λ_=>SH.ok) (λ_=>rfl) λ_ h=>?_;refine DZ h (λ_=>RH.ok) (λ_=>rfl) λ_ h=>?_;refine DZ h (λ_=>KE.ok) (λ_=>rfl) λ_ h=>?_;refine EQ h ?_ ?_<;>intro h
   ·refine DZ h (λ_=>Ks) (λ_=>rfl) λ_ h=>?_;refine cO ?_;exact r6 h
   refine cO ?_;exact r6 h
  refine cO ?_;exact r6 h
 rintro ag h;exact fin h
end Go.AX.Q25
end
