/-
  Texts of one proof, packed.
-/
import Derived.Test.YtbohbnpaadcfmaaGreatDoorKD2
import Derived.Test.YtbohbnpaadcfmaaGreatDoorKD4
import Derived.Test.YtbohbnpaadcfmaaGreatDoorKD5
import Derived.Test.YtbohbnpaadcfmaaGreatDoorKD8
import Derived.IntWalk
import Derived.Shelf.SlSortCmp.NoneTotal
import Derived.Shelf.SortM.Plain
import Derived.Shelf.SortM.SortNone
set_option linter.all false
set_option maxRecDepth 100000
set_option maxHeartbeats 4000000
open List renaming length_map→X10,length_append→X11,getElem?_eq_getElem→X15,length_drop→X17,length_take→X18,length_replicate→X20,length_set→X21
open Option.some renaming injEq→X24,inj→X25
open Prod.mk renaming injEq→X26
open Nat renaming le_of_ble_eq_true→X29,mul_le_mul_right→X31,add_mul→X32
section
namespace Go.AX.Q19
open Go Go.AX Go.Proofs
variable {wl:Prop}
theorem GB {a0:List JAC}{a1:Bool}{r:(List UInt8)}(h:EO a0 a1=some r):yC wl 97 [AV.d (D.l 4 JAC.toD a0),AV.d (D.b a1)] [] (.d (D.l 1 D.u8 r)) []:=by
 refine oK Tryz.f97 ⟨rfl,?_⟩;unfold EO at h;refine⟨a0.length,X10 _,?_⟩;refine AM h (fun v1=>⟨dd 5 (yO 5 D.u8 v1::dd 30 ([])),nn 5 (yR 5 1 D.u8 v1::nn 30 ([]))⟩) ?_ ?_
 ·intro _ h;revert h;refine Aa 8 4 JAC.toD rfl (fun i3 v4=>⟨X::yb a1::X::X::X::yO 5 D.u8 v4::X::X::y5 a0::yi (a0.length:Int)::yi (i3:Int)::dd 25 ([]),nn 5 (yR 5 1 D.u8 v4::nn 30 ([]))⟩) ?_ ?_ ?_
  ·exact wk
  ·rintro v4 K5 h;refine goC ?_;refine BI CX ?_;exact AN h
  rintro _ i3 x7 v4 K5 b3 c3 e3 h p8;refine goC ?_;refine BB (CO b3) ?_;refine goC ?_;refine⟨BD (f:=JAC.toD) b3,JAC.toD x7,c3,rfl,?_⟩;refine AM h (fun v9=>⟨X::yb a1::X::X::X::yO 5 D.u8 v9::X::X::y5 a0::yi (a0.length:Int)::yi (i3:Int)::dd 25 ([]),nn 5 (yR 5 1 D.u8 v9::nn 30 ([]))⟩) ?_ ?_
  ·intro _ h;refine AW h fun h=>?_;refine .inl (dO ?_);refine⟨_,Ae _,?_⟩;refine⟨rfl,?_⟩;refine apO h rfl fun _ h=>?_;refine X7 h (fun _=>F7) rfl fun v13 h=>?_;refine⟨_,rfl,?_⟩;refine⟨by decide,_,rfl,?_⟩;(conv=>whnf);refine .inr (.inl ?_);obtain⟨_,g15,h⟩:=AH h;have g21c:=Ce g15;refine⟨QV (f:=D.u8) g15,rfl,(Int.toNat 0),(Int.toNat (AD (Int.tdiv (AD (x7.Len+7)) 8))-Int.toNat 0),rfl,rfl,?_⟩;refine⟨Bi,List.map D.u8 (List.take (Int.toNat (AD (Int.tdiv (AD (x7.Len+7)) 8))-Int.toNat 0) (List.drop (Int.toNat 0) v13)),KT,?_⟩;refine apO h rfl fun _ h=>?_;refine cO ?_;exact AN h
  rintro v9 h;refine⟨_,e3,?_⟩;exact p8 _ _ wk h
 rintro v1 h;(conv=>whnf);refine .inl ?_;(conv=>whnf);refine .inl ?_;refine⟨rfl,?_⟩;exact fin h
theorem Nl {a0:List JAA}{a1:JAA}{r:(List JAA)}(h:Fg a0 a1=some r):yC wl 98 [AV.d (D.l 3 JAA.toD a0),AV.d (JAA.toD a1)] [] (.d (D.l 3 JAA.toD r)) []:=by
 refine oK Tryz.f98 ⟨rfl,?_⟩;unfold Fg at h;refine AM h (fun v1=>⟨y4 a0::X::X::yr 3 0::X::yi v1::dd 27 ([]),N::N::N::yB (JAA.av a1)::nn 29 ([])⟩) ?_ ?_
 ·intro _ h;revert h;refine AZ (fun v3=>⟨y4 a0::X::X::yr 3 0::X::yi v3::dd 27 ([]),N::N::N::yB (JAA.av a1)::nn 29 ([])⟩) ?_ ?_
  ·exact wk
  rintro _ v3 _ h p6;refine AM h (fun v7=>⟨y4 a0::X::X::yr 3 0::X::yi v3::dd 13 (yb v7::dd 13 ([])),N::N::N::yB (JAA.av a1)::nn 29 ([])⟩) ?_ ?_
  ·intro _ h;refine .inl (dO ?_);refine⟨a0.length,X10 _,?_⟩;refine AT h ?_ ?_<;>intro h
   ·(conv=>whnf);refine Av h (fun _=>rfl) fun _ h=>?_;refine cO ?_;exact AN h
   refine cO ?_;exact AN h
  rintro v7 h;refine goC ?_;refine AW h fun h=>?_;refine goC ?_;refine⟨_,rfl,?_⟩;exact p6 _ _ wk h
 rintro v1 h;refine .inl (dO ?_);(conv=>whnf);refine Eb (f:=JAA.toD) h fun _ h=>?_;refine apN (f:=JAA.toD) h fun _ h=>?_;refine⟨rfl,?_⟩;refine apO h rfl fun _ h=>?_;(conv=>whnf);refine Hu (f:=JAA.toD) h fun _ h=>?_;refine apO h rfl fun _ h=>?_;refine cO ?_;(conv=>whnf);refine .inl ?_;(conv=>whnf);refine .inl ?_;refine⟨rfl,?_⟩;exact fin h
theorem KX {a0:JAG}{r:(List UInt8)×Int}(h:Ey a0=some r):yC wl 50 [AV.d (JAG.toD a0)] [] (.tup [.d (D.l 1 D.u8 r.1),.d (D.i r.2)]) []:=by
 refine oK Tryz.f50 ⟨rfl,?_⟩;unfold Ey at h;refine⟨a0.Announce.length,X10 _,?_⟩;refine AM h (fun v1=>⟨X::yr 1 0::X::X::y4 v1::dd 91 ([]),N::yB (JAG.av a0)::nn 94 ([])⟩) ?_ ?_
 ·intro _ h;refine AW h fun h=>?_;refine AL h (fun _=>KR) ?_;rintro⟨_,_⟩ h;refine goC ?_;refine AW h fun h=>?_;exact fin h
 rintro v1 h;refine AL h (fun _=>GB) fun v6 h=>?_;refine⟨v6.length,X10 _,?_⟩;refine AM h (fun v8=>⟨X::yr 1 0::X::X::y4 v8::dd 91 ([]),N::yB (JAG.av a0)::nn 94 ([])⟩) ?_ ?_
 ·intro _ h;refine AW h fun h=>?_;refine PU [38] h (fun _=>F7) fun _ h=>?_;refine⟨rfl,?_⟩;refine apO h rfl fun _ h=>?_;refine⟨rfl,?_⟩;refine apO h rfl fun _ h=>?_;refine apO h rfl fun _ h=>?_;refine⟨rfl,?_⟩;refine AL h (fun _=>Nl) fun _ h=>?_;exact AN h
 rintro v8 h;refine AL h (fun _=>GB) fun v20 h=>?_;refine⟨v20.length,X10 _,?_⟩;refine AM h (fun v22=>⟨X::yr 1 0::X::X::y4 v22::dd 91 ([]),N::yB (JAG.av a0)::nn 94 ([])⟩) ?_ ?_
 ·intro _ h;refine AW h fun h=>?_;refine apO h rfl fun _ h=>?_;refine⟨rfl,?_⟩;refine AL h (fun _=>Nl) fun _ h=>?_;exact AN h
 rintro v22 h;refine AL h (fun _=>Ly) ?_;rintro⟨v28,_⟩ h;refine goC ?_;refine AT h ?_ ?_<;>intro h
 ·(conv=>whnf);refine .inl ?_;refine⟨rfl,?_⟩;exact fin h
 refine AL h (fun _=>GB) fun v31 h=>?_;refine⟨v31.length,X10 _,?_⟩;refine⟨by decide,_,rfl,?_⟩;refine⟨_,Ae _,?_⟩;refine⟨v31.length,X10 _,?_⟩;refine⟨_,Ae _,?_⟩;refine apO h rfl fun _ h=>?_;refine⟨v28.length,X10 _,?_⟩;refine⟨by decide,_,rfl,?_⟩;refine⟨_,Ae _,?_⟩;refine⟨v28.length,X10 _,?_⟩;refine⟨_,Ae _,?_⟩;refine⟨rfl,?_⟩;refine apO h rfl fun _ h=>?_;refine apO h rfl fun _ h=>?_;refine AL h (fun _=>GB) fun _ h=>?_;refine apO h rfl fun _ h=>?_;(conv=>whnf);refine .inl ?_;refine⟨rfl,?_⟩;exact fin h
theorem Ky {a0:JAG}{r:Bool}(h:F3 a0=some r):yC wl 21 [AV.d (JAG.toD a0)] [] (.d (D.b r)) []:=by
 refine oK Tryz.f21 ⟨rfl,?_⟩;unfold F3 at h;refine AM h (fun v1=>⟨X::yr 1 0::dd 16 (yb v1::dd 73 ([])),Yt a0⟩) ?_ ?_
 ·intro _ h;refine⟨a0.Withdraw.length,X10 _,?_⟩;refine An h fun h=>?_;refine⟨a0.Announce.length,X10 _,?_⟩;exact AN h
 rintro v1 h;refine goC ?_;refine AT h ?_ ?_<;>intro h
 ·exact fin h
 refine .inl (dO ?_);refine apN (f:=JAC.toD) h fun _ h=>?_;refine apO h rfl fun v4 h=>?_;refine⟨v4.length,Bi,?_⟩;refine cO ?_;refine AM h (fun _=>⟨X::yr 1 0::dd 90 ([]),Yt a0⟩) ?_ ?_
 ·intro _ h;revert h;refine Nh 21 41 4 .no JAC.toD rfl (fun i7 _=>⟨X::yr 1 0::dd 22 (yO 21 JAC.toD v4::yi (v4.length:Int)::yi (i7:Int)::dd 65 ([])),N::yB (JAG.av a0)::nn 19 (yR 41 4 JAC.toD v4::nn 70 ([]))⟩) ?_ ?_ ?_
  ·exact wk
  ·rintro _ K8 h;refine goC ?_;refine BI CX ?_;exact AN h
  rintro _ i7 x10 _ K8 b7 c7 e7 h p11;refine goC ?_;refine BB (CO b7) ?_;refine goC ?_;refine⟨rfl,BD (f:=JAC.toD) b7,?_⟩;refine⟨rfl,JAC.toD x10,c7,?_⟩;refine AL h (fun _=>Rl) fun _ h=>?_;refine goC ?_;refine AT h ?_ ?_<;>intro h
  ·exact fin h
  refine⟨_,e7,?_⟩;exact p11 _ _ wk h
 rintro _ h;refine AM h (fun v14=>⟨X::yr 1 0::dd 42 (yb v14::dd 47 ([])),Yt a0⟩) ?_ ?_
 ·intro _ h;refine .inl (dO ?_);refine⟨a0.Announce.length,X10 _,?_⟩;refine AT h ?_ ?_<;>intro h
  ·refine Ap h (fun _=>LJ) (fun _=>rfl) fun _ h=>?_;refine Ap h (fun _=>L6) (fun _=>rfl) fun _ h=>?_;refine cO ?_;exact AN h
  refine cO ?_;exact AN h
 rintro v14 h;refine goC ?_;refine AT h ?_ ?_<;>intro h
 ·exact fin h
 refine⟨a0.Announce.length,X10 _,?_⟩;refine AM h (fun _=>⟨X::yr 1 0::dd 90 ([]),Yt a0⟩) ?_ ?_
 ·intro _ h;revert h;refine Aa 46 4 JAC.toD rfl (fun i21 _=>⟨X::yr 1 0::dd 44 (AV.d (D.l 4 JAC.toD a0.Announce)::yi (a0.Announce.length:Int)::yi (i21:Int)::dd 43 ([])),Yt a0⟩) ?_ ?_ ?_
  ·exact wk
  ·rintro _ K22 h;refine goC ?_;refine BI CX ?_;exact AN h
  rintro _ i21 x24 _ K22 b21 c21 e21 h p25;refine goC ?_;refine BB (CO b21) ?_;refine goC ?_;refine⟨BD (f:=JAC.toD) b21,JAC.toD x24,c21,rfl,?_⟩;refine AM h (fun v26=>⟨X::yr 1 0::dd 44 (AV.d (D.l 4 JAC.toD a0.Announce)::yi (a0.Announce.length:Int)::yi (i21:Int)::dd 29 (yb v26::dd 13 ([]))),Yt a0⟩) ?_ ?_
  ·intro _ h;refine An h fun h=>?_;refine An h fun h=>?_;refine An h fun h=>?_;refine AL h (fun _=>LK) fun _ h=>?_;exact AN h
  rintro v26 h;refine goC ?_;refine AT h ?_ ?_<;>intro h
  ·exact fin h
  refine⟨_,e21,?_⟩;exact p25 _ _ wk h
 rintro _ h;refine AL h (fun _=>KX) ?_;rintro⟨v30,_⟩ h;refine AM h (fun v33=>⟨X::X::yb v33::dd 89 ([]),nn 92 ([])⟩) ?_ ?_
 ·intro _ h;refine AW h fun h=>?_;refine⟨v30.length,X10 _,?_⟩;exact AN h
 rintro v33 h;exact fin h
theorem Lj {a0:JAI}{r:JAG×JAI}(h:EJ a0=some r):yC wl 13 [.ref 0 0] [.box (JAI.av a0)] (.d (JAG.toD r.1)) [.box (JAI.av r.2)]:=by
 refine oKx 2 Tryz.f13 ⟨rfl,?_⟩;unfold EJ at h;refine AM h (fun _=>⟨yr 0 0::X::yr 3 0::dd 5 (AV.d (D.agg [D.i (-1),D.nil 2,D.b false,D.u64 (0:UInt64),D.u64 (0:UInt64),D.i (-1),D.i (-1),D.i (-1),D.nil 2,D.nil 3,D.nil 3])::dd 67 ([])),yB (JAI.av a0)::N::N::yB JAG.zv::nn 75 ([])⟩) ?_ ?_
 ·intro _ h;(conv=>whnf);refine inl Tryz.f17 77 (by kernel_rfl) (by kernel_rfl) ⟨rfl,?_⟩;exact AN h
 rintro _ h;refine AL h (fun _=>AG) ?_;rintro⟨_,_⟩ h;refine AM h (fun (v5,v6)=>⟨yr 0 0::X::yr 3 0::yr 4 0::dd 72 ([]),yB (JAI.av v5)::N::N::yB JAG.zv::zS7 (-1) false (0:UInt64) v6::nn 17 (yR 41 4 JAC.toD v6::nn 56 ([]))⟩) ?_ ?_
 ·intro _ h;revert h;refine AZ (fun (v8,v9,v10)=>⟨yr 0 0::X::yr 3 0::yr 4 0::yi v8::dd 71 ([]),yB (JAI.av v9)::N::N::yB JAG.zv::zS7 (-1) false (0:UInt64) v10::nn 17 (yR 41 4 JAC.toD v10::nn 56 ([]))⟩) ?_ ?_
  ·exact wk
  rintro _ ⟨v8,v9,v10⟩ _ h p13;refine goC ?_;refine AW h fun h=>?_;refine goC ?_;refine .inl (dO ?_);refine Ap h (fun _=>HT) (fun _=>rfl) ?_;rintro⟨_,_⟩ h;refine⟨rfl,?_⟩;refine apO h rfl fun _ h=>?_;refine cO ?_;refine⟨_,rfl,?_⟩;exact p13 _ _ wk h
 rintro⟨v5,v6⟩ h;refine AL h (fun _=>AG) ?_;rintro⟨_,_⟩ h;refine goC ?_;refine AT h ?_ ?_<;>intro h
 ·(conv=>whnf);refine .inl ?_;refine⟨rfl,?_⟩;exact fin h
 refine AL h (fun _=>AG) ?_;rintro⟨v22,_⟩ h;refine AL h (fun _=>AG) ?_;rintro⟨_,_⟩ h;refine AM h (fun (v28,v29)=>⟨yr 0 0::X::yr 3 0::yr 4 0::X::yb (v22==1)::dd 70 ([]),cz (-1) false (0:UInt64) v6 v29 v28⟩) ?_ ?_
 ·intro _ h;revert h;refine AZ (fun (v31,v32,v33)=>⟨yr 0 0::X::yr 3 0::yr 4 0::X::yb (v22==1)::yi v31::dd 69 ([]),cz (-1) false (0:UInt64) v6 v33 v32⟩) ?_ ?_
  ·exact wk
  rintro _ ⟨v31,v32,v33⟩ _ h p36;refine goC ?_;refine AW h fun h=>?_;refine goC ?_;refine AL h (fun _=>HT) ?_;rintro⟨_,v38⟩ h;refine AM h (fun v40=>⟨yr 0 0::X::yr 3 0::yr 4 0::X::yb (v22==1)::yi v31::dd 69 ([]),cz (-1) false (0:UInt64) v6 v40 v38⟩) ?_ ?_
  ·intro _ h;refine AW h fun h=>?_;refine⟨rfl,?_⟩;refine apO h rfl fun _ h=>?_;exact AN h
  rintro v40 h;refine⟨_,rfl,?_⟩;exact p36 _ _ wk h
 rintro⟨v28,v29⟩ h;refine⟨v29.length,Bi,?_⟩;refine goC ?_;refine AT h ?_ ?_<;>intro h
 ·(conv=>whnf);refine .inl ?_;refine⟨rfl,?_⟩;refine⟨rfl,?_⟩;exact fin h
 refine AL h (fun _=>Hh) ?_;rintro⟨v44,v45⟩ h;refine⟨_,rfl,?_⟩;refine AL h (fun _=>N6) fun _ h=>?_;refine AM h (fun (v49,v50,v51)=>⟨X::X::yr 3 0::yr 4 0::dd 72 ([]),yB (JAI.av v45)::N::N::yB JAG.zv::yB [yO 22 JAC.toD v6,yi (if v44.Origin > 0 then v44.Origin else 0),AV.d (D.l 2 JAD.toD v44.Path),yb v49,yu v50,yu v51,AV.d (D.i v44.MED),AV.d (D.i v44.Pref),AV.d (D.i v44.OTC),AV.d (D.l 2 JAB.toD v44.Communities),AV.d (D.l 3 JAF.toD v44.JAF),AV.d (D.l 3 JAA.toD v44.Other),yO 48 JAC.toD v29]::nn 17 (yR 41 4 JAC.toD v6::nn 25 (yR 41 4 JAC.toD v29::nn 30 ([])))⟩) ?_ ?_
 ·intro _ h;refine AW h fun h=>?_;refine AL h (fun _=>PN) fun _ h=>?_;exact AN h
 rintro⟨v49,v50,v51⟩ h;refine⟨rfl,?_⟩;refine⟨rfl,?_⟩;refine HS h (fun _=>Ky) fun _ h=>?_;refine goC ?_;refine AT h ?_ ?_<;>intro h
 ·refine AM h (fun _=>⟨X::X::yr 3 0::dd 70 (AV.d (D.agg [D.i (-1),D.nil 2,D.b false,D.u64 (0:UInt64),D.u64 (0:UInt64),D.i (-1),D.i (-1),D.i (-1),D.nil 2,D.nil 3,D.nil 3])::X::X::[]),yB (JAI.av v45)::N::N::yB JAG.zv::nn 75 ([])⟩) ?_ ?_
  ·intro _ h;(conv=>whnf);refine inl Tryz.f17 77 (by kernel_rfl) (by kernel_rfl) ⟨rfl,?_⟩;exact AN h
  rintro _ h;exact fin h
 (conv=>whnf);refine .inl ?_;refine⟨rfl,?_⟩;refine⟨rfl,?_⟩;exact fin h
theorem SH {a0:List UInt8}{a1:Int}{r:(List UInt8)}(h:MQ a0 a1=some r):yC wl 87 [AV.own 0 (List.map D.u8 a0).length,AV.d (D.i a1)] [.row 5 1 (List.map D.u8 a0) .no] (AV.own 0 (List.map D.u8 r).length) [.row 5 1 (List.map D.u8 r) .no]:=by
 refine oK Tryz.f87 ⟨rfl,?_⟩;unfold MQ at h;refine⟨by decide,_,rfl,?_⟩;refine⟨_,Ae _,?_⟩;refine⟨_,Ae _,?_⟩;refine⟨rfl,?_⟩;refine apO h rfl fun _ h=>?_;(conv=>whnf);refine .inl ?_;exact fin h
theorem B0 {a0:Int}{a1:Int}{a2:Int}{r:Bool}(h:BA a0 a1 a2=some r):yC wl 118 [AV.d (D.i a0),AV.d (D.i a1),AV.d (D.i a2)] [] (.d (D.b r)) []:=by
 refine oK Tryz.f118 ⟨rfl,?_⟩;unfold BA at h;refine AM h (fun v1=>⟨dd 6 (yb v1::dd 8 ([])),nn 15 ([])⟩) ?_ ?_
 ·intro _ h;exact selC h
 rintro v1 h;exact fin h
theorem N7 {a0:List JAA}{r:(List UInt8)×Int}(h:Ht a0=some r):yC wl 94 [AV.d (D.l 3 JAA.toD a0)] [] (.tup [.d (D.l 1 D.u8 r.1),.d (D.i r.2)]) []:=by
 refine oK Tryz.f94 ⟨rfl,?_⟩;unfold Ht at h;refine⟨a0.length,X10 _,?_⟩;refine AM h (fun _=>⟨y4 a0::dd 79 ([]),nn 80 ([])⟩) ?_ ?_
 ·intro _ h;revert h;refine Aa 11 3 JAA.toD rfl (fun i2 _=>⟨y4 a0::dd 10 (y4 a0::yi (a0.length:Int)::yi (i2:Int)::dd 66 ([])),nn 80 ([])⟩) ?_ ?_ ?_
  ·exact wk
  ·rintro _ K3 h;refine goC ?_;refine BI CX ?_;exact AN h
  rintro _ i2 x5 _ K3 b2 c2 e2 h p6;refine goC ?_;refine BB (CO b2) ?_;refine goC ?_;refine⟨BD (f:=JAA.toD) b2,JAA.toD x5,c2,rfl,?_⟩;refine AM h (fun v7=>⟨y4 a0::dd 10 (y4 a0::yi (a0.length:Int)::yi (i2:Int)::dd 18 (yb v7::dd 47 ([]))),nn 80 ([])⟩) ?_ ?_
  ·intro _ h;refine AL h (fun _=>B0) fun _ h=>?_;refine An h fun h=>?_;refine AL h (fun _=>B0) fun _ h=>?_;refine An h fun h=>?_;refine⟨x5.Data.length,X10 _,?_⟩;exact AN h
  rintro v7 h;refine goC ?_;refine AT h ?_ ?_<;>intro h
  ·(conv=>whnf);refine .inl ?_;refine⟨rfl,?_⟩;exact fin h
  refine⟨_,e2,?_⟩;exact p6 _ _ wk h
 rintro _ h;refine⟨a0.length,X10 _,?_⟩;refine AM h (fun v13=>⟨dd 6 (yO 6 D.u8 v13::dd 73 ([])),nn 6 (yR 5 1 D.u8 v13::nn 73 ([]))⟩) ?_ ?_
 ·intro _ h;revert h;refine Aa 34 3 JAA.toD rfl (fun i15 v16=>⟨dd 6 (yO 6 D.u8 v16::dd 27 (y4 a0::yi (a0.length:Int)::yi (i15:Int)::dd 43 ([]))),nn 6 (yR 5 1 D.u8 v16::nn 73 ([]))⟩) ?_ ?_ ?_
  ·exact wk
  ·rintro v16 K17 h;refine goC ?_;refine BI CX ?_;exact AN h
  rintro _ i15 x19 v16 K17 b15 c15 e15 h p20;refine goC ?_;refine BB (CO b15) ?_;refine goC ?_;refine⟨BD (f:=JAA.toD) b15,JAA.toD x19,c15,rfl,?_⟩;refine .inl (dO ?_);refine⟨_,Ae _,?_⟩;refine⟨_,Ae _,?_⟩;refine⟨x19.Data.length,X10 _,?_⟩;refine cO ?_;refine AM h (fun v21=>⟨dd 6 (yO 6 D.u8 v21::X::yr 8 0::dd 25 (y4 a0::yi (a0.length:Int)::yi (i15:Int)::dd 43 ([]))),nn 6 (yR 5 1 D.u8 v21::N::yB (JAA.av x19)::nn 71 ([]))⟩) ?_ ?_
  ·intro _ h;refine AT h ?_ ?_<;>intro h
   ·refine⟨_,Ae _,?_⟩;refine⟨_,Ae _,?_⟩;refine⟨by decide,_,rfl,?_⟩;refine⟨_,Ae _,?_⟩;refine⟨_,Ae _,?_⟩;refine⟨rfl,?_⟩;refine apO h rfl fun _ h=>?_;exact AN h
   refine⟨_,Ae _,?_⟩;refine⟨_,Ae _,?_⟩;refine⟨rfl,?_⟩;refine apO h rfl fun _ h=>?_;exact AN h
  rintro v21 h;refine apO h rfl fun v27 h=>?_;refine⟨v27.length,Bi,?_⟩;refine goC ?_;refine AT h ?_ ?_<;>intro h
  ·(conv=>whnf);refine .inl ?_;refine⟨rfl,?_⟩;exact fin h
  refine⟨_,e15,?_⟩;exact p20 _ _ wk h
 rintro v13 h;(conv=>whnf);refine .inl ?_;refine⟨rfl,?_⟩;exact fin h
theorem Gu {a0:Addr}{r:Bool}(h:Em a0=some r):yC wl 99 [AV.d (Addr.toD a0)] [] (.d (D.b r)) []:=by
 refine oK Tryz.f99 ⟨rfl,?_⟩;unfold Em at h;refine AM h (fun v1=>⟨X::X::yb v1::dd 12 ([]),nn 15 ([])⟩) ?_ ?_
 ·intro _ h;refine An h fun h=>?_;exact selC h
 rintro v1 h;exact fin h
theorem FN {a0:Addr}{r:(List UInt8)}(h:FS a0=some r):yC wl 135 [AV.d (Addr.toD a0)] [] (.d (D.l 1 D.u8 r)) []:=by
 refine oK Tryz.f135 ⟨rfl,?_⟩;unfold FS at h;refine AL h (fun _=>Gu) fun _ h=>?_;refine goC ?_;refine AT h ?_ ?_<;>intro h
 ·(conv=>whnf);refine .inl ?_;exact fin h
 refine AM h (fun v3=>⟨X::yr 1 0::X::yi v3::dd 34 ([]),N::yB (Addr.av a0)::nn 36 ([])⟩) ?_ ?_
 ·intro _ h;exact selC h
 rintro v3 h;obtain⟨_,g5,h⟩:=AH h;refine⟨Xa g5 (X29 rfl),D.u8 (0:UInt8),rfl,(List.map D.u8 (List.replicate (Int.toNat v3) (0:UInt8))),List.map_replicate.symm,?_⟩;refine⟨_,rfl,?_⟩;refine AM h (fun v6=>⟨dd 4 (yO 12 D.u8 v6::dd 33 ([])),nn 12 (yR 5 1 D.u8 v6::nn 25 ([]))⟩) ?_ ?_
 ·intro _ h;revert h;refine AZ (fun (v8,v9,v10)=>⟨X::yr 1 0::X::X::yO 12 D.u8 v10::yi v8::dd 32 ([]),N::yB (Addr.av v9)::nn 10 (yR 5 1 D.u8 v10::nn 25 ([]))⟩) ?_ ?_
  ·exact wk
  rintro _ ⟨v8,v9,v10⟩ _ h p13;refine goC ?_;refine AW h fun h=>?_;refine goC ?_;refine⟨_,Ae _,?_⟩;obtain⟨v14,g15,h⟩:=AH h;refine⟨rfl,BM (f:=D.u8) g15,?_⟩;obtain⟨v16,g17,h⟩:=AH h;have g17l:=G8 g17;refine⟨rfl,rfl,D.u8 v14,(BW (f:=D.u8) g15),?_⟩;refine⟨_,KE (f:=D.u8) g17,?_⟩;refine⟨by decide,_,N4 v9.Lo _,?_⟩;refine⟨by decide,_,Aw _,?_⟩;refine⟨_,Aw _,?_⟩;refine⟨by decide,_,N4 v9.Hi _,?_⟩;refine⟨_,rfl,?_⟩;exact p13 _ _ wk h
 rintro v6 h;(conv=>whnf);refine .inl ?_;(conv=>whnf);refine .inl ?_;refine⟨rfl,?_⟩;exact fin h
theorem J1 {a0:List UInt8}{a1:List JAC}{a2:Bool}{r:(List UInt8)}(h:HZ a0 a1 a2=some r):yC wl 96 [AV.own 0 (List.map D.u8 a0).length,AV.d (D.l 4 JAC.toD a1),AV.d (D.b a2)] [.row 5 1 (List.map D.u8 a0) .no] (AV.own 0 (List.map D.u8 r).length) [.row 5 1 (List.map D.u8 r) .no]:=by
 refine oK Tryz.f96 ⟨rfl,?_⟩;unfold HZ at h;refine⟨a1.length,X10 _,?_⟩;refine AM h (fun v1=>⟨yO 0 D.u8 v1::dd 36 ([]),yR 5 1 D.u8 v1::nn 37 ([])⟩) ?_ ?_
 ·intro _ h;revert h;refine Aa 9 4 JAC.toD rfl (fun i3 v4=>⟨yO 0 D.u8 v4::X::yb a2::dd 6 (y5 a1::yi (a1.length:Int)::yi (i3:Int)::dd 25 ([])),yR 5 1 D.u8 v4::nn 37 ([])⟩) ?_ ?_ ?_
  ·exact wk
  ·rintro v4 K5 h;refine goC ?_;refine BI CX ?_;exact AN h
  rintro _ i3 x7 v4 K5 b3 c3 e3 h p8;refine goC ?_;refine BB (CO b3) ?_;refine goC ?_;refine⟨BD (f:=JAC.toD) b3,JAC.toD x7,c3,rfl,?_⟩;refine AM h (fun v9=>⟨yO 0 D.u8 v9::X::yb a2::dd 6 (y5 a1::yi (a1.length:Int)::yi (i3:Int)::dd 25 ([])),yR 5 1 D.u8 v9::nn 37 ([])⟩) ?_ ?_
  ·intro _ h;refine AW h fun h=>?_;refine .inl (dO ?_);refine⟨_,Ae _,?_⟩;refine⟨rfl,?_⟩;refine apO h rfl fun _ h=>?_;refine Ap h (fun _=>FN) (fun _=>rfl) fun _ h=>?_;refine⟨_,rfl,?_⟩;refine⟨by decide,_,rfl,?_⟩;(conv=>whnf);refine Eb (f:=D.u8) h fun _ h=>?_;refine apO h rfl fun _ h=>?_;refine cO ?_;exact AN h
  rintro v9 h;refine⟨_,e3,?_⟩;exact p8 _ _ wk h
 rintro v1 h;(conv=>whnf);refine .inl ?_;exact fin h
theorem Gq {a0:Int}{r:Bool}(h:EC a0=some r):yC wl 139 [AV.d (D.i a0)] [] (.d (D.b r)) []:=by
 refine oK Tryz.f139 ⟨rfl,?_⟩;unfold EC at h;refine AM h (fun v1=>⟨X::X::yb v1::dd 6 ([]),nn 9 ([])⟩) ?_ ?_
 ·intro _ h;exact selC h
 rintro v1 h;exact fin h
theorem Jx {a0:List JAD}{r:Bool}(h:E8 a0=some r):yC wl 138 [AV.d (D.l 2 JAD.toD a0)] [] (.d (D.b r)) []:=by
 refine oK Tryz.f138 ⟨rfl,?_⟩;unfold E8 at h;refine⟨a0.length,X10 _,?_⟩;refine AM h (fun v1=>⟨X::X::X::yi v1::dd 71 ([]),nn 75 ([])⟩) ?_ ?_
 ·intro _ h;revert h;refine Aa 8 2 JAD.toD rfl (fun i3 v4=>⟨y0 a0::X::X::yi v4::dd 4 (y0 a0::yi (a0.length:Int)::yi (i3:Int)::dd 64 ([])),nn 75 ([])⟩) ?_ ?_ ?_
  ·exact wk
  ·rintro v4 K5 h;refine goC ?_;refine BI CX ?_;exact AN h
  rintro _ i3 x7 v4 K5 b3 c3 e3 h p8;refine goC ?_;refine BB (CO b3) ?_;refine AM h (fun _=>⟨y0 a0::X::X::yi (AD (v4+(x7.ASNs.length:Int)))::dd 4 (y0 a0::yi (a0.length:Int)::yi (i3:Int)::dd 64 ([])),nn 75 ([])⟩) ?_ ?_
  ·intro _ h;refine⟨BD (f:=JAD.toD) b3,JAD.toD x7,c3,rfl,?_⟩;refine AM h (fun v10=>⟨y0 a0::X::X::yi v4::X::yr 5 0::X::X::y0 a0::yi (a0.length:Int)::yi (i3:Int)::dd 25 (yb v10::dd 38 ([])),nn 5 (yB (JAD.av x7)::nn 69 ([]))⟩) ?_ ?_
   ·intro _ h;refine⟨x7.ASNs.length,X10 _,?_⟩;refine An h fun h=>?_;refine AW h fun h=>?_;refine AW h fun h=>?_;refine⟨_,rfl,?_⟩;(conv=>whnf);refine Av h (fun _=>rfl) fun _ h=>?_;exact AN h
   rintro v10 h;refine goC ?_;refine AT h ?_ ?_<;>intro h
   ·exact fin h
   refine⟨x7.ASNs.length,X10 _,?_⟩;refine AM h (fun _=>⟨y0 a0::X::X::yi v4::X::yr 5 0::X::X::y0 a0::yi (a0.length:Int)::yi (i3:Int)::dd 64 ([]),nn 5 (yB (JAD.av x7)::nn 69 ([]))⟩) ?_ ?_
   ·intro _ h;revert h;refine Aa 38 1 D.i rfl (fun i15 _=>⟨y0 a0::X::X::yi v4::X::yr 5 0::X::X::y0 a0::yi (a0.length:Int)::yi (i3:Int)::dd 27 (AV.d (D.l 1 D.i x7.ASNs)::yi (x7.ASNs.length:Int)::yi (i15:Int)::dd 34 ([])),nn 5 (yB (JAD.av x7)::nn 69 ([]))⟩) ?_ ?_ ?_
    ·exact wk
    ·rintro _ K16 h;refine goC ?_;refine BI CX ?_;exact AN h
    rintro _ i15 x18 _ K16 b15 c15 e15 h p19;refine goC ?_;refine BB (CO b15) ?_;refine goC ?_;refine⟨BD (f:=D.i) b15,D.i x18,c15,rfl,?_⟩;refine AM h (fun v20=>⟨y0 a0::X::X::yi v4::X::yr 5 0::X::X::y0 a0::yi (a0.length:Int)::yi (i3:Int)::dd 27 (AV.d (D.l 1 D.i x7.ASNs)::yi (x7.ASNs.length:Int)::yi (i15:Int)::dd 24 (yb v20::dd 9 ([]))),nn 5 (yB (JAD.av x7)::nn 69 ([]))⟩) ?_ ?_
    ·intro _ h;refine AL h (fun _=>Gq) fun _ h=>?_;refine An h fun h=>?_;refine AW h fun h=>?_;refine AW h fun h=>?_;refine⟨_,rfl,?_⟩;(conv=>whnf);refine Av h (fun _=>rfl) fun _ h=>?_;exact AN h
    rintro v20 h;refine goC ?_;refine AT h ?_ ?_<;>intro h
    ·exact fin h
    refine⟨_,e15,?_⟩;exact p19 _ _ wk h
   rintro _ h;refine⟨x7.ASNs.length,X10 _,?_⟩;refine⟨_,rfl,?_⟩;exact AN h
  rintro _ h;refine⟨_,e3,?_⟩;exact p8 _ _ wk h
 rintro v1 h;exact fin h
theorem J5 {a0:List Int}{r:Int}(h:Dn a0=some r):yC wl 188 [AV.d (D.l 1 D.i a0)] [] (.d (D.i r)) []:=by
 refine oK Tryz.f188 ⟨rfl,?_⟩;unfold Dn at h;refine⟨a0.length,X10 _,?_⟩;refine goC ?_;refine AT h ?_ ?_<;>intro h
 ·exact nomatch h
 (conv=>whnf);refine Av h (fun _=>rfl) fun _ h=>?_;refine AM h (fun v3=>⟨X::X::X::yi v3::dd 21 ([]),nn 25 ([])⟩) ?_ ?_
 ·intro _ h;revert h;refine AZ (fun (v5,v6)=>⟨y6 a0::X::X::yi v5::yi v6::dd 20 ([]),nn 25 ([])⟩) ?_ ?_
  ·exact wk
  rintro _ ⟨v5,v6⟩ _ h p9;refine⟨a0.length,X10 _,?_⟩;refine goC ?_;refine AW h fun h=>?_;refine goC ?_;(conv=>whnf);refine Av h (fun _=>rfl) fun _ h=>?_;refine⟨_,rfl,?_⟩;refine⟨_,rfl,?_⟩;exact p9 _ _ wk h
 rintro v3 h;exact fin h
theorem J6 {a0:List Int}{r:Int}(h:Do a0=some r):yC wl 189 [AV.d (D.l 1 D.i a0)] [] (.d (D.i r)) []:=by
 refine oK Tryz.f189 ⟨rfl,?_⟩;unfold Do at h;refine⟨a0.length,X10 _,?_⟩;refine goC ?_;refine AT h ?_ ?_<;>intro h
 ·exact nomatch h
 (conv=>whnf);refine Av h (fun _=>rfl) fun _ h=>?_;refine AM h (fun v3=>⟨X::X::X::yi v3::dd 21 ([]),nn 25 ([])⟩) ?_ ?_
 ·intro _ h;revert h;refine AZ (fun (v5,v6)=>⟨y6 a0::X::X::yi v5::yi v6::dd 20 ([]),nn 25 ([])⟩) ?_ ?_
  ·exact wk
  rintro _ ⟨v5,v6⟩ _ h p9;refine⟨a0.length,X10 _,?_⟩;refine goC ?_;refine AW h fun h=>?_;refine goC ?_;(conv=>whnf);refine Av h (fun _=>rfl) fun _ h=>?_;refine⟨_,rfl,?_⟩;refine⟨_,rfl,?_⟩;exact p9 _ _ wk h
 rintro v3 h;exact fin h
theorem HM {a0:Int}{a1:List Int}{r:Bool}(h:Dh a0 a1=some r):yC wl 181 [AV.d (D.i a0),AV.d (D.l 1 D.i a1)] [] (.d (D.b r)) []:=by
 refine oK Tryz.f181 ⟨rfl,?_⟩;unfold Dh at h;refine AM h (fun v1=>⟨dd 4 (yb v1::dd 9 ([])),nn 14 ([])⟩) ?_ ?_
 ·intro _ h;refine AL h (fun _=>J5) fun _ h=>?_;refine AW h fun h=>?_;refine AL h (fun _=>J6) fun _ h=>?_;exact AN h
 rintro v1 h;exact fin h
theorem Nw {a0:JAB}{r:Bool}(h:Eg a0=some r):yC wl 163 [AV.d (JAB.toD a0)] [] (.d (D.b r)) []:=by
 refine oK Tryz.f163 ⟨rfl,?_⟩;unfold Eg at h;refine⟨rfl,?_⟩;refine HS h (fun _=>HM) fun _ h=>?_;exact fin h
theorem I6 {a0:Int}{r:Bool}(h:cmp_isNaN_int a0=some r):yC wl 151 [AV.d (D.i a0)] [] (.d (D.b r)) []:=by
 refine oK Tryz.f151 ⟨rfl,?_⟩;unfold cmp_isNaN_int at h;exact fin h
theorem A3 {a0:Int}{a1:Int}{r:Int}(h:cmp_Compare_int a0 a1=some r):yC wl 122 [AV.d (D.i a0),AV.d (D.i a1)] [] (.d (D.i r)) []:=by
 refine oK Tryz.f122 ⟨rfl,?_⟩;unfold cmp_Compare_int at h;refine AL h (fun _=>I6) fun _ h=>?_;refine AL h (fun _=>I6) fun _ h=>?_;refine goC ?_;refine AT h ?_ ?_<;>intro h
 ·refine goC ?_;refine AT h ?_ ?_<;>intro h
  ·exact fin h
  exact fin h
 refine goC ?_;refine AT h ?_ ?_<;>intro h
 ·exact fin h
 refine goC ?_;refine AT h ?_ ?_<;>intro h
 ·exact fin h
 refine goC ?_;refine AT h ?_ ?_<;>intro h
 ·exact fin h
 exact fin h
theorem Gy {a0:List Int}{r:Int}(h:Et a0=some r):yC wl 182 [AV.d (D.l 1 D.i a0)] [] (.d (D.i r)) []:=by
 refine oK Tryz.f182 ⟨rfl,?_⟩;unfold Et at h;refine⟨a0.length,X10 _,?_⟩;refine AM h (fun _=>⟨X::X::X::yi 0::dd 14 ([]),nn 18 ([])⟩) ?_ ?_
 ·intro _ h;revert h;refine Aa 6 1 D.i rfl (fun i2 _=>⟨X::X::X::yi 0::X::X::y6 a0::yi (a0.length:Int)::yi (i2:Int)::dd 9 ([]),nn 18 ([])⟩) ?_ ?_ ?_
  ·exact wk
  ·rintro _ K3 h;refine goC ?_;refine BI CX ?_;exact AN h
  rintro _ i2 x5 _ K3 b2 c2 e2 h p6;refine goC ?_;refine BB (CO b2) ?_;refine goC ?_;refine⟨BD (f:=D.i) b2,D.i x5,c2,rfl,?_⟩;refine goC ?_;refine AT h ?_ ?_<;>intro h
  ·exact fin h
  refine⟨_,e2,?_⟩;exact p6 _ _ wk h
 rintro _ h;exact fin h
theorem LA {a0:JAB}{a1:JAB}{r:Int}(h:D7 a0 a1=some r):yC wl 164 [AV.d (JAB.toD a0),AV.d (JAB.toD a1)] [] (.d (D.i r)) []:=by
 refine oK Tryz.f164 ⟨rfl,?_⟩;unfold D7 at h;refine .inl (dO ?_);refine Ap h (fun _=>A3) (fun _=>rfl) fun _ h=>?_;refine Ap h (fun _=>A3) (fun _=>rfl) fun _ h=>?_;refine⟨rfl,?_⟩;refine Ap h (fun _=>Gy) (fun _=>rfl) fun _ h=>?_;refine cO ?_;exact fin h
theorem B7 {a0:List JAB}{r:Bool}(h:Af a0=some r):yC wl 162 [AV.d (D.l 2 JAB.toD a0),AV.fn 163 [],AV.fn 164 []] [] (.d (D.b r)) []:=by
 refine oK Tryz.f162 ⟨rfl,?_⟩;unfold Af at h;refine⟨a0.length,X10 _,?_⟩;refine AM h (fun _=>⟨y1 a0::dd 38 ([]),nn 39 ([])⟩) ?_ ?_
 ·intro _ h;revert h;refine Aa 9 2 JAB.toD rfl (fun i2 _=>⟨y1 a0::AV.fn 163 []::AV.fn 164 []::dd 6 (y1 a0::yi (a0.length:Int)::yi (i2:Int)::dd 27 ([])),nn 39 ([])⟩) ?_ ?_ ?_
  ·exact wk
  ·rintro _ K3 h;refine goC ?_;refine BI CX ?_;exact AN h
  rintro _ i2 x5 _ K3 b2 c2 e2 h p6;refine goC ?_;refine BB (CO b2) ?_;refine goC ?_;refine⟨BD (f:=JAB.toD) b2,JAB.toD x5,c2,rfl,?_⟩;refine AM h (fun v7=>⟨y1 a0::AV.fn 163 []::AV.fn 164 []::dd 6 (y1 a0::yi (a0.length:Int)::yi (i2:Int)::dd 22 (yb v7::dd 4 ([]))),nn 39 ([])⟩) ?_ ?_
  ·intro _ h;refine .inl (dO ?_);refine Ap h (fun _=>Nw) (fun _=>rfl) fun _ h=>?_;refine AT h ?_ ?_<;>intro h
   ·refine cO ?_;exact AN h
   refine AT h ?_ ?_<;>intro h
   ·refine⟨_,rfl,?_⟩;(conv=>whnf);refine Av h (fun _=>rfl) fun _ h=>?_;refine Ap h (fun _=>LA) (fun _=>rfl) fun _ h=>?_;refine cO ?_;exact AN h
   refine cO ?_;exact AN h
  rintro v7 h;refine goC ?_;refine AT h ?_ ?_<;>intro h
  ·exact fin h
  refine⟨_,e2,?_⟩;exact p6 _ _ wk h
 rintro _ h;refine⟨a0.length,X10 _,?_⟩;exact fin h
theorem FU {a0:List JAB}{r:Bool}(h:DR a0=some r):yC wl 140 [AV.d (D.l 2 JAB.toD a0)] [] (.d (D.b r)) []:=by
 refine oK Tryz.f140 ⟨rfl,?_⟩;unfold DR at h;refine AL h (fun _=>B7) fun _ h=>?_;exact fin h
theorem Jd {a0:JAF}{r:Bool}(h:DV a0=some r):yC wl 166 [AV.d (JAF.toD a0)] [] (.d (D.b r)) []:=by
 refine oK Tryz.f166 ⟨rfl,?_⟩;unfold DV at h;refine⟨rfl,?_⟩;refine HS h (fun _=>HM) fun _ h=>?_;exact fin h
theorem ID {a0:JAF}{a1:JAF}{r:Int}(h:CZ a0 a1=some r):yC wl 167 [AV.d (JAF.toD a0),AV.d (JAF.toD a1)] [] (.d (D.i r)) []:=by
 refine oK Tryz.f167 ⟨rfl,?_⟩;unfold CZ at h;refine .inl (dO ?_);refine Ap h (fun _=>A3) (fun _=>rfl) fun _ h=>?_;refine Ap h (fun _=>A3) (fun _=>rfl) fun _ h=>?_;refine Ap h (fun _=>A3) (fun _=>rfl) fun _ h=>?_;refine⟨rfl,?_⟩;refine Ap h (fun _=>Gy) (fun _=>rfl) fun _ h=>?_;refine cO ?_;exact fin h
theorem Bh {a0:List JAF}{r:Bool}(h:Ac a0=some r):yC wl 165 [AV.d (D.l 3 JAF.toD a0),AV.fn 166 [],AV.fn 167 []] [] (.d (D.b r)) []:=by
 refine oK Tryz.f165 ⟨rfl,?_⟩;unfold Ac at h;refine⟨a0.length,X10 _,?_⟩;refine AM h (fun _=>⟨y2 a0::dd 38 ([]),nn 39 ([])⟩) ?_ ?_
 ·intro _ h;revert h;refine Aa 9 3 JAF.toD rfl (fun i2 _=>⟨y2 a0::AV.fn 166 []::AV.fn 167 []::dd 6 (y2 a0::yi (a0.length:Int)::yi (i2:Int)::dd 27 ([])),nn 39 ([])⟩) ?_ ?_ ?_
  ·exact wk
  ·rintro _ K3 h;refine goC ?_;refine BI CX ?_;exact AN h
  rintro _ i2 x5 _ K3 b2 c2 e2 h p6;refine goC ?_;refine BB (CO b2) ?_;refine goC ?_;refine⟨BD (f:=JAF.toD) b2,JAF.toD x5,c2,rfl,?_⟩;refine AM h (fun v7=>⟨y2 a0::AV.fn 166 []::AV.fn 167 []::dd 6 (y2 a0::yi (a0.length:Int)::yi (i2:Int)::dd 22 (yb v7::dd 4 ([]))),nn 39 ([])⟩) ?_ ?_
  ·intro _ h;refine .inl (dO ?_);refine Ap h (fun _=>Jd) (fun _=>rfl) fun _ h=>?_;refine AT h ?_ ?_<;>intro h
   ·refine cO ?_;exact AN h
   refine AT h ?_ ?_<;>intro h
   ·refine⟨_,rfl,?_⟩;(conv=>whnf);refine Av h (fun _=>rfl) fun _ h=>?_;refine Ap h (fun _=>ID) (fun _=>rfl) fun _ h=>?_;refine cO ?_;exact AN h
   refine cO ?_;exact AN h
  rintro v7 h;refine goC ?_;refine AT h ?_ ?_<;>intro h
  ·exact fin h
  refine⟨_,e2,?_⟩;exact p6 _ _ wk h
 rintro _ h;refine⟨a0.length,X10 _,?_⟩;exact fin h
theorem EI {a0:List JAF}{r:Bool}(h:Bo a0=some r):yC wl 141 [AV.d (D.l 3 JAF.toD a0)] [] (.d (D.b r)) []:=by
 refine oK Tryz.f141 ⟨rfl,?_⟩;unfold Bo at h;refine AL h (fun _=>Bh) fun _ h=>?_;exact fin h
theorem Es {a0:Int}{r:Bool}(h:Bf a0=some r):yC wl 116 [AV.d (D.i a0)] [] (.d (D.b r)) []:=by
 refine oK Tryz.f116 ⟨rfl,?_⟩;unfold Bf at h;refine AM h (fun v1=>⟨X::X::yb v1::dd 12 ([]),nn 15 ([])⟩) ?_ ?_
 ·intro _ h;obtain⟨v3,g4,h⟩:=AH h;refine⟨_,BZ (ek:=D.i) (ev:=D.i) (l:=Du) (k:=a0) BO,D.i v3,Ds (z:=0) rfl g4,_,rfl,?_⟩;refine AW h fun h=>?_;exact selC h
 rintro v1 h;exact fin h
theorem HU {a0:List JAA}{r:Bool}(h:FD a0=some r):yC wl 142 [AV.d (D.l 3 JAA.toD a0)] [] (.d (D.b r)) []:=by
 refine oK Tryz.f142 ⟨rfl,?_⟩;unfold FD at h;refine⟨a0.length,X10 _,?_⟩;refine AM h (fun _=>⟨y4 a0::dd 51 ([]),nn 52 ([])⟩) ?_ ?_
 ·intro _ h;revert h;refine Aa 5 3 JAA.toD rfl (fun i2 _=>⟨y4 a0::dd 4 (y4 a0::yi (a0.length:Int)::yi (i2:Int)::dd 44 ([])),nn 52 ([])⟩) ?_ ?_ ?_
  ·exact wk
  ·rintro _ K3 h;refine goC ?_;refine BI CX ?_;exact AN h
  rintro _ i2 x5 _ K3 b2 c2 e2 h p6;refine goC ?_;refine BB (CO b2) ?_;refine goC ?_;refine⟨BD (f:=JAA.toD) b2,JAA.toD x5,c2,rfl,?_⟩;refine AM h (fun v7=>⟨y4 a0::dd 4 (y4 a0::yi (a0.length:Int)::yi (i2:Int)::dd 39 (yb v7::dd 4 ([]))),nn 52 ([])⟩) ?_ ?_
  ·intro _ h;refine .inl (dO ?_);refine Ap h (fun _=>Es) (fun _=>rfl) fun _ h=>?_;refine AT h ?_ ?_<;>intro h
   ·refine cO ?_;exact AN h
   refine Ap h (fun _=>B0) (fun _=>rfl) fun _ h=>?_;refine AT h ?_ ?_<;>intro h
   ·refine cO ?_;exact AN h
   refine AT h ?_ ?_<;>intro h
   ·refine cO ?_;exact AN h
   refine⟨x5.Data.length,X10 _,?_⟩;refine AT h ?_ ?_<;>intro h
   ·refine cO ?_;exact AN h
   refine AT h ?_ ?_<;>intro h
   ·refine⟨_,rfl,?_⟩;(conv=>whnf);refine Av h (fun _=>rfl) fun _ h=>?_;refine cO ?_;exact AN h
   refine cO ?_;exact AN h
  rintro v7 h;refine goC ?_;refine AT h ?_ ?_<;>intro h
  ·exact fin h
  refine⟨_,e2,?_⟩;exact p6 _ _ wk h
 rintro _ h;refine⟨a0.length,X10 _,?_⟩;exact fin h
theorem Ho {a0:JAE}{r:Bool}(h:FQ a0=some r):yC wl 105 [AV.d (JAE.toD a0)] [] (.d (D.b r)) []:=by
 refine oK Tryz.f105 ⟨rfl,?_⟩;unfold FQ at h;refine AM h (fun v1=>⟨X::X::yb v1::dd 48 ([]),nn 51 ([])⟩) ?_ ?_
 ·intro _ h;refine AL h (fun _=>B0) fun _ h=>?_;refine AW h fun h=>?_;refine AL h (fun _=>Jx) fun _ h=>?_;refine AW h fun h=>?_;refine AL h (fun _=>Gu) fun _ h=>?_;refine AW h fun h=>?_;refine AL h (fun _=>B0) fun _ h=>?_;refine AW h fun h=>?_;refine AL h (fun _=>B0) fun _ h=>?_;refine AW h fun h=>?_;refine AT h ?_ ?_<;>intro h
  ·refine AL h (fun _=>FU) fun _ h=>?_;refine AW h fun h=>?_;refine AL h (fun _=>EI) fun _ h=>?_;refine AW h fun h=>?_;refine AL h (fun _=>HU) fun _ h=>?_;exact AN h
  refine AL h (fun _=>Gq) fun _ h=>?_;refine AW h fun h=>?_;refine AL h (fun _=>FU) fun _ h=>?_;refine AW h fun h=>?_;refine AL h (fun _=>EI) fun _ h=>?_;refine AW h fun h=>?_;refine AL h (fun _=>HU) fun _ h=>?_;exact AN h
 rintro v1 h;exact fin h
theorem FG {a0:List UInt8}{r:(List UInt8)}(h:By a0=some r):yC wl 119 [AV.d (D.l 1 D.u8 a0)] [] (.d (D.l 1 D.u8 r)) []:=by
 refine oK Tryz.f119 ⟨rfl,?_⟩;unfold By at h;refine⟨?_,fun hz=>?_⟩
 ·refine goC ?_;refine apO h rfl fun _ h=>?_;(conv=>whnf);refine .inl ?_;(conv=>whnf);refine .inl ?_;refine⟨rfl,?_⟩;exact fin h
 obtain rfl:a0=[]:=(by simpa using hz);replace h:=ZY h;refine goC ?_;(conv=>whnf);refine .inl ?_;exact fin h
end Go.AX.Q19
end
section
namespace Go.AX
open Go.Proofs Go.Sort Go.Shelf Go.RowKit
theorem YC {vals:Array Value}{v u:Value}(hs:vals.size=2)(h:vals.getD 0 undef=v)(h':vals.getD 1 undef=u):vals=#[v,u]:=by
 match vals,hs with
 | ⟨[a,b]⟩,_=>
  simp at h h'
  rw[h,h']
theorem HE {α:Type}[Inhabited α](enc:α->List Value)(k:Nat)(w:World)(blk off n:Nat)(d:Array α)(os:Array Obj)(hb:blk<w.heap.size) :
  (∀b,b<w.heap.size->b≠blk->(sortWorldK enc k w blk off n d os).heap[b]?=w.heap[b]?)/\w.heap.size<=(sortWorldK enc k w blk off n d os).heap.size/\
  (∀vs e fr,w.heap[blk]?=some (.cells vs e fr)->(sortWorldK enc k w blk off n d os).heap[blk]?=some (.cells (putCells id off (flatK enc k d) vs) e fr))/\
  (sortWorldK enc k w blk off n d os).os=w.os/\(sortWorldK enc k w blk off n d os).output=w.output/\(sortWorldK enc k w blk off n d os).tape=w.tape/\w.drawn<=(sortWorldK enc k w blk off n d os).drawn:=by
 have hh:(sortWorldK enc k w blk off n d os).heap=(w.heap.modify blk (onCells (putCells id off (flatK enc k d))))++os:=rfl
 refine⟨fun b h1 h2=>?_,?_,fun vs e fr h=>?_,rfl,rfl,rfl,Nat.le_add_right _ _⟩
 ·rw[hh,Array.getElem?_append_left (by simpa using h1),Array.getElem?_modify,if_neg (Ne.symm h2)]
 ·rw[hh];simp
 rw[hh,Array.getElem?_append_left (by simpa using hb),Array.getElem?_modify,if_pos rfl,h]
 rfl
theorem bY {W w':World}(hp :∀b,b<W.heap.size->w'.heap[b]?=W.heap[b]?)(sz:W.heap.size<=w'.heap.size)(os:w'.os=W.os)(out:w'.output=W.output)(tape:w'.tape=W.tape)(dr:W.drawn<=w'.drawn) :
  ∃q os',w'=grow (W.drewN q) os':=by
 refine⟨w'.drawn-W.drawn,w'.heap.extract W.heap.size w'.heap.size,?_⟩
 obtain⟨h1,t1,d1,o1,u1⟩:=w'
 obtain⟨h2,t2,d2,o2,u2⟩:=W
 simp only at hp sz os out tape dr
 subst os out tape
 have hheap:h1=h2++h1.extract h2.size h1.size:=by
  apply Array.ext_getElem?
  intro i
  by_cases hi:i<h2.size
  ·rw[Array.getElem?_append_left hi];exact hp i hi
  rw[Array.getElem?_append_right (by omega),Array.getElem?_extract]
  by_cases hi2:i<h1.size
  ·rw[if_pos (by omega),show h2.size+(i-h2.size)=i by omega]
  rw[if_neg (by omega),Array.getElem?_eq_none (by omega)]
 have hd:d1=d2+(d1-d2):=by omega
 unfold grow World.drewN
 simp only
 congr 1
theorem Qd {wl:WL}{P:Program}{ρ:Ren}{X:Type}{f:X->D}{cmp:X->X->Option Int}{g k e:Nat}(L:SlLaysF0.n6 P ρ)(hf:dE P (ρ.f 6))(aE :∀w,(isAgg (ρ.t 24)).run P w=.ok true w)(zE :∀w,(Go.sizeOf (ρ.t 24)).run P w=.ok k w)
  (eg :∀args w,(callFunc g args).run P w=.ok (.enter g args) w) (hagg :∀x,(f x).isAgg=true) (hcmp :∀{a b r},cmp a b=some r->CallsOK wl.low P g [.d (f a),.d (f b)] [] (.i r) [])
  {l r:List X} (h:Ez cmp l=some r):CallsOK wl P (ρ.f 6) [.own 0 (List.map f l).length,.fn g []] [.row e k (List.map f l) .no] (.tup []) [.row e k (List.map f r) .no]:=by
 refine⟨hf,fun w S φ gb hg vals hs hr hn m=>?_⟩
 have r0:=(hr 0 (by simp)).1
 have r1:=(hr 1 (by simp)).1
 simp only[List.getElem_cons_zero,List.getElem_cons_succ] at r0 r1
 have hv:=YC hs rfl rfl
 generalize vals.getD 0 undef=v0 at r0 hv
 generalize vals.getD 1 undef=v1 at r1 hv
 cases r1 with | fn _ _ vs1 _ hs1 _ _=>
 obtain rfl:vs1=#[]:=Array.eq_empty_of_size_eq_zero (by simpa using hs1)
 cases r0 with | own _ _ _ kk c a0 hv0 hk0 h1 hb=>
 have hob:ofL [OB.row e k (List.map f l) .no] 0=some (.row e k (List.map f l) .no):=rfl
 obtain⟨_,hown⟩:=h1 _ _ _ _ hob
 have hown:=hown rfl
 have hmem:=m.obj 0 _ hob
 obtain⟨g0,g1,g2,g3⟩:=hmem
 have hol :∀r',ofL [OB.row e k (List.map f r') .no]=upd (ofL [OB.row e k (List.map f l) .no]) 0 (some (.row e k (List.map f r') .no)):=by
  intro r'
  funext q
  match q with
  | 0=>simp[ofL]
  | q+1=>simp[ofL,upd]
 by_cases hl:0<l.length
 rotate_left
 ·
  have hl0:l=[]:=List.eq_nil_of_length_eq_zero (by omega)
  subst hl0
  obtain⟨hp,_⟩:=MX h
  obtain rfl:r=[]:=hp.eq_nil
  obtain⟨p,cap,hvp⟩ :∃p cap,v0=.slice p 0 cap:=by rw[hv0,hk0];exact⟨_,_,rfl⟩
  rw[hv,hvp]
  refine (AnyF.slices_SortFunc_none L p cap _ w).mono fun e' w' ⟨he,hw⟩=>⟨_,he,S,φ,hw ▸ m,hw ▸ .refl _ _ _ _,.tup [] #[] (fun _=>undef) rfl (fun i hi=>by simp at hi) (fun i hi=>by simp at hi),fun q hq=>by simp[AV.refs,AV.refs.refsL] at hq⟩
 rcases g3 with ⟨_,hnil⟩|⟨b,cap,vs,f0,f1,f2,f3,f4,f5,f6,f7,f8⟩
 ·simp at hnil
  subst hnil
  simp at hl
 obtain⟨hlen,hget⟩:=T0 h hl
 have hsw:Ul cmp l=true:=by
  unfold Ez at h
  split at h
  ·assumption
  simp at h
 obtain⟨hpsz,hpperm,_⟩:=Oo hsw hl
 have hv0':v0=.slice (some ⟨b,cap.2,none⟩) l.length cap.1:=by
  rcases hown with ⟨hφ0,_⟩|⟨b',cap',hφ0,hvv⟩
  ·rw[f1] at hφ0;simp at hφ0
  rw[f1] at hφ0
  simp only[X24,X26] at hφ0
  obtain⟨rfl,rfl⟩:=hφ0
  rw[hvv];simp
 have hbl:=(m.ow 0 b cap (by simp[ofL]) f1).1
 let ix:Nat->Nat:=fun i=>min i (l.length-1)
 have hix :∀i,ix i<l.length:=fun i=>by simp only[ix];omega
 let enc:Nat->List Value:=fun i=>(List.range k).map fun j=>f0 (ix i) j
 have hencl :∀x,(enc x).length=k:=fun x=>by simp[enc]
 have helem :∀i (hi:i<l.length),(f l[i]).cells.length=k:=fun i hi=>by have:=g1 i (by simpa using hi);simpa using this
 have hrep :∀i (hi:i<l.length) j (hj:j<k),∃hj':j<(f l[i]).cells.length,RepD S w ((f l[i]).cells[j]'hj') (f0 i j)/\((f l[i]).cells[j]'hj').isAgg=false:=by
  intro i hi j hj
  have hj':j<(f l[i]).cells.length:=by rw[helem i hi];exact hj
  refine⟨hj',?_,?_⟩
  ·have:=f7 i (by simpa using hi) j (by simpa using hj');simpa using this
  have:=g2 i (by simpa using hi) j (by simpa using hj');simpa using this
 have hone :∀x,∀v∈enc x,v.oneCell'=true:=by
  intro x v hv
  obtain⟨j,hj,rfl⟩:=List.mem_map.1 hv
  obtain⟨hj',h2,h3⟩:=hrep (ix x) (hix x) j (by simpa using hj)
  exact h2.one h3
 have hflat :∀(d:Array Nat) t,t<d.size*k->(flatK enc k d)[t]! = f0 (ix d[t/k]!) (t%k):=by
  intro d t ht
  have hk0:0<k:=g0
  rw[get_flatK _ _ _ _ ht]
  have:=Nat.mod_lt t hk0
  simp[enc,this]
 have hH:HoldsK enc k w b cap.2 (Array.range l.length):=by
  intro t ht
  have ht':t<l.length*k:=by simpa using ht
  have hk0:0<k:=g0
  have hq:t/k<l.length:=Nat.div_lt_of_lt_mul (by rwa [Nat.mul_comm])
  rw[hflat _ t (by simpa using ht')]
  have h1:(Array.range l.length)[t/k]! = t/k:=by simp[hq]
  have h2:ix (t/k)=t/k:=by simp only[ix];omega
  have h3:=f6 (t/k) (t%k) (by simpa using hq) (Nat.mod_lt t hk0)
  have h4:t/k*k+t%k=t:=by rw[Nat.mul_comm];exact Nat.div_add_mod t k
  rw[h4] at h3
  rw[h1,h2]
  refine⟨?_,?_⟩
  ·simp only[World.cell?,f2,id]
   exact h3
  simp[World.frozen?,f2]
 have hkeep :∀(n:Nat) (d:Array Nat) (os:Array Obj),NN S w S (sortWorldK enc k w b cap.2 n d os):=by
  intro n d os b' o hS
  obtain⟨h1,_⟩:=HE enc k w b cap.2 n d os hbl
  have hne:b'≠b:=fun he=>f8.1 o (by simp) (he ▸ hS)
  exact⟨hS,DK (h1 b' (m.bS b' o hS) hne) o⟩
 have hrepE :∀{W:World},NN S w S W->∀i (hi:i<l.length),RepD S W (f l[i]) (.agg ((List.range k).map fun j=>f0 i j).toArray):=by
  intro W hK i hi
  have ha:=hagg l[i]
  cases hfl:f l[i] with
  | agg cs=>
   have hcs:cs.length=k:=by have:=helem i hi;rw[hfl] at this;exact this
   refine .agg cs _ (fun j=>f0 i j) (by simp[hcs]) (fun j hj=>by simp[hcs ▸ hj]) (fun j hj=>?_) fun j hj=>?_
   ·obtain⟨hj',_,h3⟩:=hrep i hi j (hcs ▸ hj)
    simp only[hfl,D.cells] at h3
    exact h3
   obtain⟨hj',h2,_⟩:=hrep i hi j (hcs ▸ hj)
   simp only[hfl,D.cells] at h2
   exact h2.mono hK
  | val v=>rw[hfl] at ha;simp[D.isAgg] at ha
  | nil sz=>rw[hfl] at ha;simp[D.isAgg] at ha
  | lst sz es=>rw[hfl] at ha;simp[D.isAgg] at ha
 have hfull :∀x,∃(hi:ix x<l.length),enc x=(List.range k).map fun j=>f0 (ix x) j:=fun x=>⟨hix x,rfl⟩
 have hlays:CmpLays P g #[] enc k (cfI cmp l) b cap.2 (Array.range l.length).size w:=by
  intro q os dk hdk x y
  obtain⟨w1,w2,w3,w4,w5,w6,w7⟩:=HE enc k w b cap.2 q dk os hbl
  have hK:=hkeep q dk os
  generalize hW:sortWorldK enc k w b cap.2 q dk os=W at *
  have hx:=hix x
  have hy:=hix y
  obtain⟨c1,_⟩:=ON hsw
  obtain⟨rr,hrr⟩:=c1 l[ix x] (List.getElem_mem hx) l[ix y] (List.getElem_mem hy)
  have hcf:cfI cmp l x y=rr:=by
   have e1:ixL l x=some l[ix x]:=X15 hx
   have e2:ixL l y=some l[ix y]:=X15 hy
   unfold cfI
   rw[e1,e2]
   simp[hrr]
  have hn0 :∀r,ofL [] r=none:=fun r=>by simp[ofL]
  have hgW:GlobOK wl.low gb (JA (fun _:Nat=>(none:Option (Nat×Rp))) ([]:List OB).length) S W:=by
   have e :∀b',gb b'->W.heap[b']?=w.heap[b']?:=fun b' hb'=>w1 b' (hg.lt b' hb') fun he=>hg.pb b' hb' ⟨0,cap,by simp,he ▸ f1⟩
   refine⟨wl.ext _ _ _ e hg.gf,fun b' hb'=>Nat.lt_of_lt_of_le (hg.lt b' hb') w2,?_,fun b' o hb' hc=>hg.st b' o hb' ?_⟩
   ·rintro b' hb' ⟨r,c,h1,_⟩
    simp at h1
   rw[<- DK (e b' hb') o]
   exact hc
  refine ((hcmp hrr).2 W S (fun _=>none) gb hgW (#[.agg (enc x).toArray,.agg (enc y).toArray]++#[]) (by simp) (fun i hi=>?_) (fun _ _=>rfl) ⟨fun r o ho=>by rw[hn0] at ho;simp at ho,fun r _ _ _ _ hr=>absurd (hn0 r) hr,fun r o ho=>by rw[hn0] at ho;simp at ho,fun _ _ h=>h,fun _ _ _=>rfl,fun b' o hS=>Nat.lt_of_lt_of_le (m.bS b' o hS) w2,fun _ _ h _ _=>h,fun _ _ _=>rfl,Nat.le_refl _,fun r _ _ hr=>absurd (hn0 r) hr,⟨rfl,rfl,rfl,.inr (Nat.le_refl _)⟩⟩).mono fun e' w' he=>?_
  ·refine⟨?_,?_⟩
   ·match i,hi with
    | 0,_=>exact .d _ _ (hrepE hK (ix x) hx)
    | 1,_=>exact .d _ _ (hrepE hK (ix y) hy)
   match i,hi with
   | 0,_=>exact BL _ _
   | 1,_=>exact BL _ _
  obtain⟨v,rfl,S',φ',mm,_,hvv,_⟩:=he
  refine⟨by rw[hvv.int,hcf],?_⟩
  have hpb :∀b',¬ JA (fun _:Nat=>(none:Option (Nat×Rp))) ([]:List OB).length b':=by rintro b' ⟨r,c,h1,_⟩;simp at h1
  refine bY (fun b' hb'=>mm.fr b' hb' (hpb b')) mm.sz mm.os.1 mm.os.2.1 mm.os.2.2.1 ?_
  rcases mm.os.2.2.2 with h | h
  ·exact h.elim
  exact h
 have hc:=AnyQ.slices_SortFunc_eq L k aE zE enc hencl hone (cfI cmp l) (YH hsw hl) g #[] b cap.2 cap.1 (Array.range l.length) w eg hlays hH hbl (by
  have:=(ON hsw).2.2.2.2
  simp;omega)
 rw[hv,hv0']
 have hsz0:(Array.range l.length).size=l.length:=by simp
 rw[hsz0] at hc
 refine hc.mono fun e' w' ⟨he,n,os,hw⟩=>?_
 have hd:pdq (ltOf (cfI cmp l)) (Array.range l.length) 0 l.length (Lib.bitLen l.length) true true=Gn cmp l:=rfl
 rw[hd] at hw
 obtain⟨w1,w2,w3,w4,w5,w6,w7⟩:=HE enc k w b cap.2 n (Gn cmp l) os hbl
 rw[<- hw] at w1 w2 w3 w4 w5 w6 w7
 have hcur:=w3 _ _ _ f2
 have hr' :∀i (hi:i<r.length),∃(hp:(Gn cmp l)[i]!<l.length),r[i]=l[(Gn cmp l)[i]!]:=by
  intro i hi
  obtain⟨p1,p2⟩:=hget i (by omega)
  rw[X15 hi,X15 p1] at p2
  exact⟨p1,X25 p2⟩
 obtain⟨m2,k2⟩:=m.rowSet (es':=List.map f r) (cur':=putCells id cap.2 (flatK enc k (Gn cmp l)) vs) (w':=w') hob f1 f2 (by simp[hlen])
  (fun i hi=>by
   have hi':i<r.length:=by simpa using hi
   obtain⟨hp,he⟩:=hr' i hi'
   simp only[List.getElem_map,he]
   exact helem _ hp)
  (fun i hi j hj=>by
   have hi':i<r.length:=by simpa using hi
   obtain⟨hp,he⟩:=hr' i hi'
   simp only[List.getElem_map,he] at hj ⊢
   obtain⟨hj',_,h3⟩:=hrep _ hp j (by rw[helem _ hp] at hj;exact hj)
   exact h3)
  hcur (by simp[putCells]) (fun b' h1 h2=>w1 b' h1 h2) w2 ⟨w4,w5,w6,w7⟩ (fun i j=>f0 (Gn cmp l)[i]! j)
  (fun i j hi hj=>by
   have hi':i<r.length:=by simpa using hi
   obtain⟨hp,he⟩:=hr' i hi'
   have hil:i<l.length:=by omega
   have hik:i*k+j<l.length*k:=by
    have:=X31 k (show i+1<=l.length from hil)
    rw[X32,Nat.one_mul] at this
    omega
   have hbig:cap.2+(i*k+j)<vs.size:=by
    have h3:l.length<=cap.1:=by simpa using f3
    have:=X31 k h3
    omega
   have e1:(i*k+j)/k=i:=by rw[Nat.mul_comm,Nat.mul_add_div g0,Nat.div_eq_of_lt hj,Nat.add_zero]
   have e2:(i*k+j)%k=j:=by rw[Nat.mul_comm,Nat.mul_add_mod,Nat.mod_eq_of_lt hj]
   have hfl:=hflat (Gn cmp l) (i*k+j) (by rw[hpsz];exact hik)
   rw[e1,e2] at hfl
   have hixx:ix (Gn cmp l)[i]! = (Gn cmp l)[i]!:=by simp only[ix];omega
   rw[hixx] at hfl
   simp only[putCells,Array.getElem?_mapIdx,Array.getElem?_eq_getElem hbig,Option.map_some]
   rw[if_pos ⟨by omega,by rw[size_flatK,hpsz];omega⟩,show cap.2+(i*k+j)-cap.2=i*k+j by omega,hfl]
   rfl)
  (fun i hi j hj=>by
   have hi':i<r.length:=by simpa using hi
   obtain⟨hp,he⟩:=hr' i hi'
   simp only[List.getElem_map,he] at hj ⊢
   obtain⟨hj',h2,_⟩:=hrep _ hp j (by rw[helem _ hp] at hj;exact hj)
   exact h2)
 rw[<- hol r] at m2 k2
 exact⟨_,he,S,φ,m2,k2,.tup [] #[] (fun _=>undef) rfl (fun i hi=>by simp at hi) (fun i hi=>by simp at hi),fun q hq=>by simp[AV.refs,AV.refs.refsL] at hq⟩
theorem WT {α:Type}[Inhabited α](enc:α->Value)(w:World)(blk off n:Nat)(d:Array α)(os:Array Obj)(hb:blk<w.heap.size) :
  (∀b,b<w.heap.size->b≠blk->(grow (putRow enc (Sort.ahead w n) blk off d) os).heap[b]?=w.heap[b]?)/\w.heap.size<=(grow (putRow enc (Sort.ahead w n) blk off d) os).heap.size/\
  (∀vs e fr,w.heap[blk]?=some (.cells vs e fr)->(grow (putRow enc (Sort.ahead w n) blk off d) os).heap[blk]?=some (.cells (putCells enc off d vs) e fr))/\
  (grow (putRow enc (Sort.ahead w n) blk off d) os).os=w.os/\(grow (putRow enc (Sort.ahead w n) blk off d) os).output=w.output/\(grow (putRow enc (Sort.ahead w n) blk off d) os).tape=w.tape/\w.drawn<=(grow (putRow enc (Sort.ahead w n) blk off d) os).drawn:=by
 have hh:(grow (putRow enc (Sort.ahead w n) blk off d) os).heap=(w.heap.modify blk (onCells (putCells enc off d)))++os:=rfl
 refine⟨fun b h1 h2=>?_,?_,fun vs e fr h=>?_,rfl,rfl,rfl,Nat.le_add_right _ _⟩
 ·rw[hh,Array.getElem?_append_left (by simpa using h1),Array.getElem?_modify,if_neg (Ne.symm h2)]
 ·rw[hh];simp
 rw[hh,Array.getElem?_append_left (by simpa using hb),Array.getElem?_modify,if_pos rfl,h]
 rfl
theorem bE {wl:WL}{P:Program}{ρ:Ren}{e:Nat}(L:SlLaysM.n5 P ρ)(hf:dE P (ρ.f 5)){l r:List Int}(h:Lx l=some r) :
  CallsOK wl P (ρ.f 5) [.own 0 (List.map D.i l).length] [.row e 1 (List.map D.i l) .no] (.tup []) [.row e 1 (List.map D.i r) .no]:=by
 unfold Lx at h
 split at h
 rotate_left
 ·simp at h
 rename_i hsz
 obtain rfl:=X25 h
 refine⟨hf,fun w S φ gb hg vals hs hr hn m=>?_⟩
 have r0:=(hr 0 (by simp)).1
 simp only[List.getElem_cons_zero] at r0
 generalize hv:vals.getD 0 undef=v0 at r0
 have hv:vals=#[v0]:=by
  match vals,hs with
  | ⟨[a]⟩,_=>simp at hv;rw[hv]
 cases r0 with | own _ _ _ kk c a0 hv0 hk0 h1 hb=>
 have hob:ofL [OB.row e 1 (List.map D.i l) .no] 0=some (.row e 1 (List.map D.i l) .no):=rfl
 obtain⟨_,hown⟩:=h1 _ _ _ _ hob
 have hown:=hown rfl
 obtain⟨g0,g1,g2,g3⟩:=m.obj 0 _ hob
 have hol :∀r',ofL [OB.row e 1 (List.map D.i r') .no]=upd (ofL [OB.row e 1 (List.map D.i l) .no]) 0 (some (.row e 1 (List.map D.i r') .no)):=by
  intro r'
  funext q
  match q with
  | 0=>simp[ofL]
  | q+1=>simp[ofL,upd]
 have none :∀(p:Option Addr) (cap:Nat),v0=.slice p 0 cap->l=[]->Calls P (ρ.f 5) vals w fun e' w'=>∃v,e'=.returned v/\∃S' φ',Mem ⟨w,S,JA φ ([OB.row e 1 (List.map D.i l) .no]).length,wl,gb,hg⟩ w' S' φ' (ofL [OB.row e 1 (List.map D.i (l.mergeSort fun x y=>decide (x<=y))) .no])/\
   Kept w S φ (ofL [OB.row e 1 (List.map D.i l) .no]) w' S' φ' (ofL [OB.row e 1 (List.map D.i (l.mergeSort fun x y=>decide (x<=y))) .no])/\RepA S' w' φ' (ofL [OB.row e 1 (List.map D.i (l.mergeSort fun x y=>decide (x<=y))) .no]) (.tup []) v/\Closed (ofL [OB.row e 1 (List.map D.i (l.mergeSort fun x y=>decide (x<=y))) .no]) (.tup []):=by
  intro p cap hp hl
  subst hl
  rw[hv,hp]
  refine (AnyM.slices_Sort_int_none L p cap w).mono fun e' w' ⟨he,hw⟩=>?_
  subst hw
  refine⟨_,he,S,φ,by simpa using m,by simpa using .refl _ _ _ _,.tup [] #[] (fun _=>undef) rfl (fun i hi=>by simp at hi) (fun i hi=>by simp at hi),fun q hq=>by simp[AV.refs,AV.refs.refsL] at hq⟩
 rcases hown with ⟨a1,a2,a3,a4⟩|⟨b,cap,a1,a4⟩
 ·exact none _ _ a4 (List.eq_nil_of_length_eq_zero (by simpa using a2))
 rcases g3 with ⟨f1,_⟩|⟨b',cap',vs,f0,f1,f2,f3,f4,f5,f6,f7,f8⟩
 ·rw[a1] at f1;simp at f1
 rw[a1] at f1
 simp only[X24,X26] at f1
 obtain⟨rfl,rfl⟩:=f1
 have hbl:b<w.heap.size:=(m.ow 0 b cap (by simp[ofL]) a1).1
 have hcell :∀i (hi:i<l.length),f0 i 0=.int .i64 l[i]:=by
  intro i hi
  have:=f7 i (by simpa using hi) 0 (by simp[D.cells])
  simp only[List.getElem_map,D.cells,List.getElem_cons_zero] at this
  revert this
  generalize f0 i 0=u
  intro h
  cases h
  rfl
 have hH:Holds (Value.int .i64) w b cap.2 l.toArray:=by
  intro j hj
  have hj':j<l.length:=by simpa using hj
  have h6:=f6 j 0 (by simpa using hj') (by decide)
  rw[hcell j hj'] at h6
  have hb2:w.cell? ⟨b,cap.2+j,Option.none⟩=some (.int .i64 l[j]):=by
   have:cellAt w b (cap.2+j)=some (.int .i64 l[j]):=by rw[Bd f2];simpa using h6
   exact this
  refine⟨by simpa[hj'] using hb2,?_⟩
  simp[World.frozen?,f2]
 rw[hv,a4]
 have hc:=AnyM.slices_Sort_int L b cap.2 cap.1 l w hH hbl hsz
 have hlen:(List.map D.i l).length=l.length:=by simp
 rw[hlen]
 refine hc.mono fun e' w' ⟨he,n,os,hw⟩=>?_
 obtain⟨w1,w2,w3,w4,w5,w6,w7⟩:=WT (Value.int .i64) w b cap.2 n (l.mergeSort fun x y=>decide (x<=y)).toArray os hbl
 rw[<- hw] at w1 w2 w3 w4 w5 w6 w7
 obtain⟨m2,k2⟩:=m.rowSet (es':=List.map D.i (l.mergeSort fun x y=>decide (x<=y))) (w':=w') hob a1 f2 (by simp)
  (fun i hi=>by simp[D.cells]) (fun i hi j hj=>by
   have h0:j=0:=by simp[D.cells] at hj;exact hj
   subst h0
   simp[D.cells,D.isAgg]) (w3 _ _ _ f2) (by simp[putCells]) (fun b' h1 h2=>w1 b' h1 h2) w2 ⟨w4,w5,w6,w7⟩ (fun i _=>.int .i64 ((l.mergeSort fun x y=>decide (x<=y)).getD i 0))
  (fun i j hi hj=>by
   have h0:j=0:=by omega
   subst h0
   have hi':i<l.length:=by simpa using hi
   have hbig:cap.2+i<vs.size:=by
    have h3:l.length<=cap.1:=by simpa using f3
    omega
   simp only[putCells,Nat.mul_one,Nat.add_zero,Array.getElem?_mapIdx,Array.getElem?_eq_getElem hbig,Option.map_some]
   rw[if_pos ⟨by omega,by simp;omega⟩,show cap.2+i-cap.2=i by omega]
   have hi2:i<(l.mergeSort fun x y=>decide (x<=y)).length:=by simpa using hi'
   simp[hi2])
  (fun i hi j hj=>by
   have h0:j=0:=by simp[D.cells] at hj;exact hj
   subst h0
   have hi2:i<(l.mergeSort fun x y=>decide (x<=y)).length:=by simpa using hi
   simp only[List.getElem_map,D.cells,List.getElem_cons_zero,List.getD_eq_getElem?_getD,X15 hi2,Option.getD_some]
   exact .val _ rfl)
 rw[<- hol] at m2 k2
 exact⟨_,he,S,φ,m2,k2,.tup [] #[] (fun _=>undef) rfl (fun i hi=>by simp at hi) (fun i hi=>by simp at hi),fun q hq=>by simp[AV.refs,AV.refs.refsL] at hq⟩
end Go.AX
end
section
namespace Go.Proofs
open Go.Shelf
def Tryz.l120_ren:Go.Shelf.Ren:=⟨fun | 6=>120 | 15=>150 | 14=>149 | 28=>176 | 29=>177 | 20=>168 | 21=>169 | 22=>170 | 23=>171 | 24=>172 | 25=>173 | 26=>174 | 27=>175 | 46=>183 | 47=>184 | 48=>185 | 49=>186 | 50=>187 | 57=>190 | n=>n,fun | 22=>32 | 24=>88 | 25=>164 | 3=>3 | 39=>67 | 0=>0 | 53=>207 | 55=>27 | 4=>4 | 46=>200 | 45=>199 | 50=>204 | 5=>5 | 9=>9 | 66=>215 | 70=>219 | 76=>222 | 77=>223 | n=>n,fun | n=>n⟩
theorem Tryz.l120:Go.Proofs.SlLaysF0.n6 Tryz.prog Tryz.l120_ren:={
 mixed:=by kernel_rfl
 f6:=⟨Tryz.f120.name,by decide,Tryz.func120.trans (congrArg some (by kernel_rfl))⟩
 f14:=⟨Tryz.f149.name,by decide,Tryz.func149.trans (congrArg some (by kernel_rfl))⟩
 f15:=Tryz.func150.trans (congrArg some (by kernel_rfl))
 f20:=⟨Tryz.f168.name,by decide,Tryz.func168.trans (congrArg some (by kernel_rfl))⟩
 f21:=⟨Tryz.f169.name,by decide,Tryz.func169.trans (congrArg some (by kernel_rfl))⟩
 f22:=⟨Tryz.f170.name,by decide,Tryz.func170.trans (congrArg some (by kernel_rfl))⟩
 f23:=⟨Tryz.f171.name,by decide,Tryz.func171.trans (congrArg some (by kernel_rfl))⟩
 f24:=⟨Tryz.f172.name,by decide,Tryz.func172.trans (congrArg some (by kernel_rfl))⟩
 f25:=⟨Tryz.f173.name,by decide,Tryz.func173.trans (congrArg some (by kernel_rfl))⟩
 f26:=⟨Tryz.f174.name,by decide,Tryz.func174.trans (congrArg some (by kernel_rfl))⟩
 f27:=⟨Tryz.f175.name,by decide,Tryz.func175.trans (congrArg some (by kernel_rfl))⟩
 f28:=Tryz.func176.trans (congrArg some (by kernel_rfl))
 f29:=Tryz.func177.trans (congrArg some (by kernel_rfl))
 f46:=⟨Tryz.f183.name,by decide,Tryz.func183.trans (congrArg some (by kernel_rfl))⟩
 f47:=Tryz.func184.trans (congrArg some (by kernel_rfl))
 f48:=Tryz.func185.trans (congrArg some (by kernel_rfl))
 f49:=⟨Tryz.f186.name,by decide,Tryz.func186.trans (congrArg some (by kernel_rfl))⟩
 f50:=⟨Tryz.f187.name,by decide,Tryz.func187.trans (congrArg some (by kernel_rfl))⟩
 f57:=⟨Tryz.f190.name,by decide,Tryz.func190.trans (congrArg some (by kernel_rfl))⟩
 t0:=Tryz.underlying0
 a0:=Tryz.isAgg0
 z0:=Tryz.sizeOf0
 v0:=Tryz.zeroValue0
 t3:=Tryz.underlying3
 a3:=Tryz.isAgg3
 z3:=Tryz.sizeOf3
 v3:=Tryz.zeroValue3
 t4:=Tryz.underlying4
 a4:=Tryz.isAgg4
 z4:=Tryz.sizeOf4
 v4:=Tryz.zeroValue4
 t5:=Tryz.underlying5
 a5:=Tryz.isAgg5
 z5:=Tryz.sizeOf5
 v5:=Tryz.zeroValue5
 t9:=Tryz.underlying9
 a9:=Tryz.isAgg9
 z9:=Tryz.sizeOf9
 v9:=Tryz.zeroValue9
 t22:=Tryz.underlying32
 a22:=Tryz.isAgg32
 z22:=Tryz.sizeOf32
 v22:=Tryz.zeroValue32
 t25:=Tryz.underlying164
 a25:=Tryz.isAgg164
 z25:=Tryz.sizeOf164
 v25:=Tryz.zeroValue164
 t39:=Tryz.underlying67
 a39:=Tryz.isAgg67
 z39:=Tryz.sizeOf67
 v39:=Tryz.zeroValue67
 t45:=Tryz.underlying199
 a45:=Tryz.isAgg199
 z45:=Tryz.sizeOf199
 v45:=Tryz.zeroValue199
 t46:=Tryz.underlying200
 a46:=Tryz.isAgg200
 z46:=Tryz.sizeOf200
 v46:=Tryz.zeroValue200
 t50:=Tryz.underlying204
 a50:=Tryz.isAgg204
 z50:=Tryz.sizeOf204
 v50:=Tryz.zeroValue204
 t53:=Tryz.underlying207
 a53:=Tryz.isAgg207
 z53:=Tryz.sizeOf207
 v53:=Tryz.zeroValue207
 t55:=Tryz.underlying27
 a55:=Tryz.isAgg27
 z55:=Tryz.sizeOf27
 v55:=Tryz.zeroValue27
 t66:=Tryz.underlying215
 a66:=Tryz.isAgg215
 z66:=Tryz.sizeOf215
 v66:=Tryz.zeroValue215
 t70:=Tryz.underlying219
 a70:=Tryz.isAgg219
 z70:=Tryz.sizeOf219
 v70:=Tryz.zeroValue219
 t76:=Tryz.underlying222
 a76:=Tryz.isAgg222
 z76:=Tryz.sizeOf222
 v76:=Tryz.zeroValue222
 t77:=Tryz.underlying223
 a77:=Tryz.isAgg223
 z77:=Tryz.sizeOf223
 v77:=Tryz.zeroValue223 }
def Tryz.l218_ren:Go.Shelf.Ren:=⟨fun | 5=>218 | 8=>150 | 7=>224 | 19=>176 | 20=>177 | 10=>229 | 11=>230 | 12=>231 | 13=>232 | 14=>233 | 15=>234 | 16=>235 | 17=>236 | 18=>237 | 30=>240 | 31=>184 | 32=>185 | 33=>241 | 34=>242 | 35=>151 | 40=>259 | n=>n,fun | 23=>22 | 25=>3 | 3=>3 | 32=>67 | 22=>22 | 0=>0 | 44=>207 | 46=>27 | 4=>4 | 36=>200 | 35=>199 | 41=>204 | 5=>5 | 9=>9 | 53=>215 | 57=>219 | 63=>222 | 64=>223 | n=>n,fun | n=>n⟩
theorem Tryz.l218:Go.Proofs.SlLaysM.n5 Tryz.prog Tryz.l218_ren:={
 mixed:=by kernel_rfl
 f5:=⟨Tryz.f218.name,by decide,Tryz.func218.trans (congrArg some (by kernel_rfl))⟩
 f7:=⟨Tryz.f224.name,by decide,Tryz.func224.trans (congrArg some (by kernel_rfl))⟩
 f8:=Tryz.func150.trans (congrArg some (by kernel_rfl))
 f10:=⟨Tryz.f229.name,by decide,Tryz.func229.trans (congrArg some (by kernel_rfl))⟩
 f11:=⟨Tryz.f230.name,by decide,Tryz.func230.trans (congrArg some (by kernel_rfl))⟩
 f12:=⟨Tryz.f231.name,by decide,Tryz.func231.trans (congrArg some (by kernel_rfl))⟩
 f13:=⟨Tryz.f232.name,by decide,Tryz.func232.trans (congrArg some (by kernel_rfl))⟩
 f14:=⟨Tryz.f233.name,by decide,Tryz.func233.trans (congrArg some (by kernel_rfl))⟩
 f15:=⟨Tryz.f234.name,by decide,Tryz.func234.trans (congrArg some (by kernel_rfl))⟩
 f16:=⟨Tryz.f235.name,by decide,Tryz.func235.trans (congrArg some (by kernel_rfl))⟩
 f17:=⟨Tryz.f236.name,by decide,Tryz.func236.trans (congrArg some (by kernel_rfl))⟩
 f18:=⟨Tryz.f237.name,by decide,Tryz.func237.trans (congrArg some (by kernel_rfl))⟩
 f19:=Tryz.func176.trans (congrArg some (by kernel_rfl))
 f20:=Tryz.func177.trans (congrArg some (by kernel_rfl))
 f30:=⟨Tryz.f240.name,by decide,Tryz.func240.trans (congrArg some (by kernel_rfl))⟩
 f31:=Tryz.func184.trans (congrArg some (by kernel_rfl))
 f32:=Tryz.func185.trans (congrArg some (by kernel_rfl))
 f33:=⟨Tryz.f241.name,by decide,Tryz.func241.trans (congrArg some (by kernel_rfl))⟩
 f34:=⟨Tryz.f242.name,by decide,Tryz.func242.trans (congrArg some (by kernel_rfl))⟩
 f35:=⟨Tryz.f151.name,by decide,Tryz.func151.trans (congrArg some (by kernel_rfl))⟩
 f40:=⟨Tryz.f259.name,by decide,Tryz.func259.trans (congrArg some (by kernel_rfl))⟩
 t0:=Tryz.underlying0
 a0:=Tryz.isAgg0
 z0:=Tryz.sizeOf0
 v0:=Tryz.zeroValue0
 t3:=Tryz.underlying3
 a3:=Tryz.isAgg3
 z3:=Tryz.sizeOf3
 v3:=Tryz.zeroValue3
 t4:=Tryz.underlying4
 a4:=Tryz.isAgg4
 z4:=Tryz.sizeOf4
 v4:=Tryz.zeroValue4
 t5:=Tryz.underlying5
 a5:=Tryz.isAgg5
 z5:=Tryz.sizeOf5
 v5:=Tryz.zeroValue5
 t9:=Tryz.underlying9
 a9:=Tryz.isAgg9
 z9:=Tryz.sizeOf9
 v9:=Tryz.zeroValue9
 t22:=Tryz.underlying22
 a22:=Tryz.isAgg22
 z22:=Tryz.sizeOf22
 v22:=Tryz.zeroValue22
 t23:=Tryz.underlying22
 a23:=Tryz.isAgg22
 z23:=Tryz.sizeOf22
 v23:=Tryz.zeroValue22
 t25:=Tryz.underlying3
 a25:=Tryz.isAgg3
 z25:=Tryz.sizeOf3
 v25:=Tryz.zeroValue3
 t32:=Tryz.underlying67
 a32:=Tryz.isAgg67
 z32:=Tryz.sizeOf67
 v32:=Tryz.zeroValue67
 t35:=Tryz.underlying199
 a35:=Tryz.isAgg199
 z35:=Tryz.sizeOf199
 v35:=Tryz.zeroValue199
 t36:=Tryz.underlying200
 a36:=Tryz.isAgg200
 z36:=Tryz.sizeOf200
 v36:=Tryz.zeroValue200
 t41:=Tryz.underlying204
 a41:=Tryz.isAgg204
 z41:=Tryz.sizeOf204
 v41:=Tryz.zeroValue204
 t44:=Tryz.underlying207
 a44:=Tryz.isAgg207
 z44:=Tryz.sizeOf207
 v44:=Tryz.zeroValue207
 t46:=Tryz.underlying27
 a46:=Tryz.isAgg27
 z46:=Tryz.sizeOf27
 v46:=Tryz.zeroValue27
 t53:=Tryz.underlying215
 a53:=Tryz.isAgg215
 z53:=Tryz.sizeOf215
 v53:=Tryz.zeroValue215
 t57:=Tryz.underlying219
 a57:=Tryz.isAgg219
 z57:=Tryz.sizeOf219
 v57:=Tryz.zeroValue219
 t63:=Tryz.underlying222
 a63:=Tryz.isAgg222
 z63:=Tryz.sizeOf222
 v63:=Tryz.zeroValue222
 t64:=Tryz.underlying223
 a64:=Tryz.isAgg223
 z64:=Tryz.sizeOf223
 v64:=Tryz.zeroValue223 }
def Tryz.l225_ren:Go.Shelf.Ren:=⟨fun | 6=>225 | 15=>150 | 14=>238 | 28=>176 | 29=>177 | 20=>243 | 21=>244 | 22=>245 | 23=>246 | 24=>247 | 25=>248 | 26=>249 | 27=>250 | 46=>260 | 47=>184 | 48=>185 | 49=>261 | 50=>262 | 57=>266 | n=>n,fun | 22=>30 | 24=>137 | 25=>195 | 3=>3 | 39=>67 | 0=>0 | 53=>207 | 55=>27 | 4=>4 | 46=>200 | 45=>199 | 50=>204 | 5=>5 | 9=>9 | 66=>215 | 70=>219 | 76=>222 | 77=>223 | n=>n,fun | n=>n⟩
theorem Tryz.l225:Go.Proofs.SlLaysF0.n6 Tryz.prog Tryz.l225_ren:={
 mixed:=by kernel_rfl
 f6:=⟨Tryz.f225.name,by decide,Tryz.func225.trans (congrArg some (by kernel_rfl))⟩
 f14:=⟨Tryz.f238.name,by decide,Tryz.func238.trans (congrArg some (by kernel_rfl))⟩
 f15:=Tryz.func150.trans (congrArg some (by kernel_rfl))
 f20:=⟨Tryz.f243.name,by decide,Tryz.func243.trans (congrArg some (by kernel_rfl))⟩
 f21:=⟨Tryz.f244.name,by decide,Tryz.func244.trans (congrArg some (by kernel_rfl))⟩
 f22:=⟨Tryz.f245.name,by decide,Tryz.func245.trans (congrArg some (by kernel_rfl))⟩
 f23:=⟨Tryz.f246.name,by decide,Tryz.func246.trans (congrArg some (by kernel_rfl))⟩
 f24:=⟨Tryz.f247.name,by decide,Tryz.func247.trans (congrArg some (by kernel_rfl))⟩
 f25:=⟨Tryz.f248.name,by decide,Tryz.func248.trans (congrArg some (by kernel_rfl))⟩
 f26:=⟨Tryz.f249.name,by decide,Tryz.func249.trans (congrArg some (by kernel_rfl))⟩
 f27:=⟨Tryz.f250.name,by decide,Tryz.func250.trans (congrArg some (by kernel_rfl))⟩
 f28:=Tryz.func176.trans (congrArg some (by kernel_rfl))
 f29:=Tryz.func177.trans (congrArg some (by kernel_rfl))
 f46:=⟨Tryz.f260.name,by decide,Tryz.func260.trans (congrArg some (by kernel_rfl))⟩
 f47:=Tryz.func184.trans (congrArg some (by kernel_rfl))
 f48:=Tryz.func185.trans (congrArg some (by kernel_rfl))
 f49:=⟨Tryz.f261.name,by decide,Tryz.func261.trans (congrArg some (by kernel_rfl))⟩
 f50:=⟨Tryz.f262.name,by decide,Tryz.func262.trans (congrArg some (by kernel_rfl))⟩
 f57:=⟨Tryz.f266.name,by decide,Tryz.func266.trans (congrArg some (by kernel_rfl))⟩
 t0:=Tryz.underlying0
 a0:=Tryz.isAgg0
 z0:=Tryz.sizeOf0
 v0:=Tryz.zeroValue0
 t3:=Tryz.underlying3
 a3:=Tryz.isAgg3
 z3:=Tryz.sizeOf3
 v3:=Tryz.zeroValue3
 t4:=Tryz.underlying4
 a4:=Tryz.isAgg4
 z4:=Tryz.sizeOf4
 v4:=Tryz.zeroValue4
 t5:=Tryz.underlying5
 a5:=Tryz.isAgg5
 z5:=Tryz.sizeOf5
 v5:=Tryz.zeroValue5
 t9:=Tryz.underlying9
 a9:=Tryz.isAgg9
 z9:=Tryz.sizeOf9
 v9:=Tryz.zeroValue9
 t22:=Tryz.underlying30
 a22:=Tryz.isAgg30
 z22:=Tryz.sizeOf30
 v22:=Tryz.zeroValue30
 t25:=Tryz.underlying195
 a25:=Tryz.isAgg195
 z25:=Tryz.sizeOf195
 v25:=Tryz.zeroValue195
 t39:=Tryz.underlying67
 a39:=Tryz.isAgg67
 z39:=Tryz.sizeOf67
 v39:=Tryz.zeroValue67
 t45:=Tryz.underlying199
 a45:=Tryz.isAgg199
 z45:=Tryz.sizeOf199
 v45:=Tryz.zeroValue199
 t46:=Tryz.underlying200
 a46:=Tryz.isAgg200
 z46:=Tryz.sizeOf200
 v46:=Tryz.zeroValue200
 t50:=Tryz.underlying204
 a50:=Tryz.isAgg204
 z50:=Tryz.sizeOf204
 v50:=Tryz.zeroValue204
 t53:=Tryz.underlying207
 a53:=Tryz.isAgg207
 z53:=Tryz.sizeOf207
 v53:=Tryz.zeroValue207
 t55:=Tryz.underlying27
 a55:=Tryz.isAgg27
 z55:=Tryz.sizeOf27
 v55:=Tryz.zeroValue27
 t66:=Tryz.underlying215
 a66:=Tryz.isAgg215
 z66:=Tryz.sizeOf215
 v66:=Tryz.zeroValue215
 t70:=Tryz.underlying219
 a70:=Tryz.isAgg219
 z70:=Tryz.sizeOf219
 v70:=Tryz.zeroValue219
 t76:=Tryz.underlying222
 a76:=Tryz.isAgg222
 z76:=Tryz.sizeOf222
 v76:=Tryz.zeroValue222
 t77:=Tryz.underlying223
 a77:=Tryz.isAgg223
 z77:=Tryz.sizeOf223
 v77:=Tryz.zeroValue223 }
def Tryz.l227_ren:Go.Shelf.Ren:=⟨fun | 6=>227 | 15=>150 | 14=>239 | 28=>176 | 29=>177 | 20=>251 | 21=>252 | 22=>253 | 23=>254 | 24=>255 | 25=>256 | 26=>257 | 27=>258 | 46=>263 | 47=>184 | 48=>185 | 49=>264 | 50=>265 | 57=>267 | n=>n,fun | 22=>31 | 24=>141 | 25=>197 | 3=>3 | 39=>67 | 0=>0 | 53=>207 | 55=>27 | 4=>4 | 46=>200 | 45=>199 | 50=>204 | 5=>5 | 9=>9 | 66=>215 | 70=>219 | 76=>222 | 77=>223 | n=>n,fun | n=>n⟩
theorem Tryz.l227:Go.Proofs.SlLaysF0.n6 Tryz.prog Tryz.l227_ren:={
 mixed:=by kernel_rfl
 f6:=⟨Tryz.f227.name,by decide,Tryz.func227.trans (congrArg some (by kernel_rfl))⟩
 f14:=⟨Tryz.f239.name,by decide,Tryz.func239.trans (congrArg some (by kernel_rfl))⟩
 f15:=Tryz.func150.trans (congrArg some (by kernel_rfl))
 f20:=⟨Tryz.f251.name,by decide,Tryz.func251.trans (congrArg some (by kernel_rfl))⟩
 f21:=⟨Tryz.f252.name,by decide,Tryz.func252.trans (congrArg some (by kernel_rfl))⟩
 f22:=⟨Tryz.f253.name,by decide,Tryz.func253.trans (congrArg some (by kernel_rfl))⟩
 f23:=⟨Tryz.f254.name,by decide,Tryz.func254.trans (congrArg some (by kernel_rfl))⟩
 f24:=⟨Tryz.f255.name,by decide,Tryz.func255.trans (congrArg some (by kernel_rfl))⟩
 f25:=⟨Tryz.f256.name,by decide,Tryz.func256.trans (congrArg some (by kernel_rfl))⟩
 f26:=⟨Tryz.f257.name,by decide,Tryz.func257.trans (congrArg some (by kernel_rfl))⟩
 f27:=⟨Tryz.f258.name,by decide,Tryz.func258.trans (congrArg some (by kernel_rfl))⟩
 f28:=Tryz.func176.trans (congrArg some (by kernel_rfl))
 f29:=Tryz.func177.trans (congrArg some (by kernel_rfl))
 f46:=⟨Tryz.f263.name,by decide,Tryz.func263.trans (congrArg some (by kernel_rfl))⟩
 f47:=Tryz.func184.trans (congrArg some (by kernel_rfl))
 f48:=Tryz.func185.trans (congrArg some (by kernel_rfl))
 f49:=⟨Tryz.f264.name,by decide,Tryz.func264.trans (congrArg some (by kernel_rfl))⟩
 f50:=⟨Tryz.f265.name,by decide,Tryz.func265.trans (congrArg some (by kernel_rfl))⟩
 f57:=⟨Tryz.f267.name,by decide,Tryz.func267.trans (congrArg some (by kernel_rfl))⟩
 t0:=Tryz.underlying0
 a0:=Tryz.isAgg0
 z0:=Tryz.sizeOf0
 v0:=Tryz.zeroValue0
 t3:=Tryz.underlying3
 a3:=Tryz.isAgg3
 z3:=Tryz.sizeOf3
 v3:=Tryz.zeroValue3
 t4:=Tryz.underlying4
 a4:=Tryz.isAgg4
 z4:=Tryz.sizeOf4
 v4:=Tryz.zeroValue4
 t5:=Tryz.underlying5
 a5:=Tryz.isAgg5
 z5:=Tryz.sizeOf5
 v5:=Tryz.zeroValue5
 t9:=Tryz.underlying9
 a9:=Tryz.isAgg9
 z9:=Tryz.sizeOf9
 v9:=Tryz.zeroValue9
 t22:=Tryz.underlying31
 a22:=Tryz.isAgg31
 z22:=Tryz.sizeOf31
 v22:=Tryz.zeroValue31
 t25:=Tryz.underlying197
 a25:=Tryz.isAgg197
 z25:=Tryz.sizeOf197
 v25:=Tryz.zeroValue197
 t39:=Tryz.underlying67
 a39:=Tryz.isAgg67
 z39:=Tryz.sizeOf67
 v39:=Tryz.zeroValue67
 t45:=Tryz.underlying199
 a45:=Tryz.isAgg199
 z45:=Tryz.sizeOf199
 v45:=Tryz.zeroValue199
 t46:=Tryz.underlying200
 a46:=Tryz.isAgg200
 z46:=Tryz.sizeOf200
 v46:=Tryz.zeroValue200
 t50:=Tryz.underlying204
 a50:=Tryz.isAgg204
 z50:=Tryz.sizeOf204
 v50:=Tryz.zeroValue204
 t53:=Tryz.underlying207
 a53:=Tryz.isAgg207
 z53:=Tryz.sizeOf207
 v53:=Tryz.zeroValue207
 t55:=Tryz.underlying27
 a55:=Tryz.isAgg27
 z55:=Tryz.sizeOf27
 v55:=Tryz.zeroValue27
 t66:=Tryz.underlying215
 a66:=Tryz.isAgg215
 z66:=Tryz.sizeOf215
 v66:=Tryz.zeroValue215
 t70:=Tryz.underlying219
 a70:=Tryz.isAgg219
 z70:=Tryz.sizeOf219
 v70:=Tryz.zeroValue219
 t76:=Tryz.underlying222
 a76:=Tryz.isAgg222
 z76:=Tryz.sizeOf222
 v76:=Tryz.zeroValue222
 t77:=Tryz.underlying223
 a77:=Tryz.isAgg223
 z77:=Tryz.sizeOf223
 v77:=Tryz.zeroValue223 }
end Go.Proofs
namespace Go.Maps
end Go.Maps
namespace Go.AX.Q19
open Go Go.AX Go.Proofs Go.Maps Go.Sort Go.Shelf Go.RowKit
theorem K4 {wl:WL}{X:Type}{f:X->D}{cmp:X->X->Option Int}{g:Nat}(eg :∀args w,(callFunc g args).run Tryz.prog w=.ok (.enter g args) w)(hcmp :∀{a b r},cmp a b=some r->CallsOK wl.low Tryz.prog g [.d (f a),.d (f b)] [] (.d (D.i r)) []){l r:List X}(h:Ez cmp l=some r)(hagg :∀x,(f x).isAgg=true:=by exact fun _=>rfl):CallsOK wl Tryz.prog 120 [.own 0 (List.map f l).length,.fn g []] [.row 88 3 (List.map f l) .no] (.tup []) [.row 88 3 (List.map f r) .no]:=
 Qd Tryz.l120 (cA Tryz.func120 (by kernel_rfl) (by kernel_rfl)) Tryz.isAgg88 Tryz.sizeOf88 eg hagg hcmp h
theorem VY {wl:WL}{l r:List Int}(h:Lx l=some r):CallsOK wl Tryz.prog 218 [.own 0 (List.map D.i l).length] [.row 3 1 (List.map D.i l) .no] (.tup []) [.row 3 1 (List.map D.i r) .no]:=
 bE Tryz.l218 (cA Tryz.func218 (by kernel_rfl) (by kernel_rfl)) h
theorem VG {wl:WL}{X:Type}{f:X->D}{cmp:X->X->Option Int}{g:Nat}(eg :∀args w,(callFunc g args).run Tryz.prog w=.ok (.enter g args) w)(hcmp :∀{a b r},cmp a b=some r->CallsOK wl.low Tryz.prog g [.d (f a),.d (f b)] [] (.d (D.i r)) []){l r:List X}(h:Ez cmp l=some r)(hagg :∀x,(f x).isAgg=true:=by exact fun _=>rfl):CallsOK wl Tryz.prog 225 [.own 0 (List.map f l).length,.fn g []] [.row 137 2 (List.map f l) .no] (.tup []) [.row 137 2 (List.map f r) .no]:=
 Qd Tryz.l225 (cA Tryz.func225 (by kernel_rfl) (by kernel_rfl)) Tryz.isAgg137 Tryz.sizeOf137 eg hagg hcmp h
theorem WJ {wl:WL}{X:Type}{f:X->D}{cmp:X->X->Option Int}{g:Nat}(eg :∀args w,(callFunc g args).run Tryz.prog w=.ok (.enter g args) w)(hcmp :∀{a b r},cmp a b=some r->CallsOK wl.low Tryz.prog g [.d (f a),.d (f b)] [] (.d (D.i r)) []){l r:List X}(h:Ez cmp l=some r)(hagg :∀x,(f x).isAgg=true:=by exact fun _=>rfl):CallsOK wl Tryz.prog 227 [.own 0 (List.map f l).length,.fn g []] [.row 141 3 (List.map f l) .no] (.tup []) [.row 141 3 (List.map f r) .no]:=
 Qd Tryz.l227 (cA Tryz.func227 (by kernel_rfl) (by kernel_rfl)) Tryz.isAgg141 Tryz.sizeOf141 eg hagg hcmp h
end Go.AX.Q19
end
section
namespace Go.AX.Q19
open Go Go.AX Go.Proofs
variable {wl:Prop}
theorem GQ {a0:List UInt8}{a1:List Int}{r:(List UInt8)}(h:FP a0 a1=some r):yC wl 158 [AV.own 0 (List.map D.u8 a0).length,AV.d (D.l 1 D.i a1)] [.row 5 1 (List.map D.u8 a0) .no] (AV.own 0 (List.map D.u8 r).length) [.row 5 1 (List.map D.u8 r) .no]:=by
 refine oK Tryz.f158 ⟨rfl,?_⟩;unfold FP at h;refine⟨a1.length,X10 _,?_⟩;refine AM h (fun v1=>⟨yO 0 D.u8 v1::dd 28 ([]),yR 5 1 D.u8 v1::nn 29 ([])⟩) ?_ ?_
 ·intro _ h;revert h;refine Aa 7 1 D.i rfl (fun i3 v4=>⟨yO 0 D.u8 v4::dd 6 (y6 a1::yi (a1.length:Int)::yi (i3:Int)::dd 19 ([])),yR 5 1 D.u8 v4::nn 29 ([])⟩) ?_ ?_ ?_
  ·exact wk
  ·rintro v4 K5 h;refine goC ?_;refine BI CX ?_;exact AN h
  rintro _ i3 x7 v4 K5 b3 c3 e3 h p8;refine goC ?_;refine BB (CO b3) ?_;refine goC ?_;refine⟨BD (f:=D.i) b3,D.i x7,c3,rfl,?_⟩;refine⟨by decide,_,rfl,?_⟩;refine⟨_,Ae _,?_⟩;refine⟨by decide,_,rfl,?_⟩;refine⟨_,Ae _,?_⟩;refine⟨by decide,_,rfl,?_⟩;refine⟨_,Ae _,?_⟩;refine⟨_,Ae _,?_⟩;refine⟨rfl,?_⟩;refine apO h rfl fun _ h=>?_;refine⟨_,e3,?_⟩;exact p8 _ _ wk h
 rintro v1 h;(conv=>whnf);refine .inl ?_;exact fin h
theorem IQ {a0:List JAD}{r:(List UInt8)}(h:GL a0=some r):yC wl 157 [AV.d (D.l 2 JAD.toD a0)] [] (.d (D.l 1 D.u8 r)) []:=by
 refine oK Tryz.f157 ⟨rfl,?_⟩;unfold GL at h;refine⟨a0.length,X10 _,?_⟩;refine AM h (fun v1=>⟨X::X::X::yO 3 D.u8 v1::dd 24 ([]),N::N::N::yR 5 1 D.u8 v1::nn 24 ([])⟩) ?_ ?_
 ·intro _ h;revert h;refine Aa 7 2 JAD.toD rfl (fun i3 v4=>⟨X::X::X::yO 3 D.u8 v4::X::X::X::y0 a0::yi (a0.length:Int)::yi (i3:Int)::dd 18 ([]),N::N::N::yR 5 1 D.u8 v4::nn 24 ([])⟩) ?_ ?_ ?_
  ·exact wk
  ·rintro v4 K5 h;refine goC ?_;refine BI CX ?_;exact AN h
  rintro _ i3 x7 v4 K5 b3 c3 e3 h p8;refine goC ?_;refine BB (CO b3) ?_;refine goC ?_;refine⟨BD (f:=JAD.toD) b3,JAD.toD x7,c3,rfl,?_⟩;refine AM h (fun v9=>⟨X::X::X::yO 3 D.u8 v4::X::yr 5 0::yv v9::y0 a0::yi (a0.length:Int)::yi (i3:Int)::dd 18 ([]),N::N::N::yR 5 1 D.u8 v4::N::yB (JAD.av x7)::nn 22 ([])⟩) ?_ ?_
  ·intro _ h;exact selC h
  rintro v9 h;refine .inl (dO ?_);refine⟨x7.ASNs.length,X10 _,?_⟩;refine⟨_,Ae _,?_⟩;refine⟨rfl,?_⟩;refine apO h rfl fun _ h=>?_;refine Ap h (fun _=>GQ) (fun _=>rfl) fun _ h=>?_;refine cO ?_;refine⟨_,e3,?_⟩;exact p8 _ _ wk h
 rintro v1 h;(conv=>whnf);refine .inl ?_;(conv=>whnf);refine .inl ?_;refine⟨rfl,?_⟩;exact fin h
theorem Il {a0:List JAB}{r:(List UInt8)}(h:EZ a0=some r):yC wl 159 [AV.d (D.l 2 JAB.toD a0)] [] (.d (D.l 1 D.u8 r)) []:=by
 refine oK Tryz.f159 ⟨rfl,?_⟩;unfold EZ at h;refine⟨a0.length,X10 _,?_⟩;refine AM h (fun v1=>⟨X::X::X::yO 3 D.u8 v1::dd 19 ([]),N::N::N::yR 5 1 D.u8 v1::nn 19 ([])⟩) ?_ ?_
 ·intro _ h;revert h;refine Aa 6 2 JAB.toD rfl (fun i3 v4=>⟨X::X::X::yO 3 D.u8 v4::X::X::y1 a0::yi (a0.length:Int)::yi (i3:Int)::dd 14 ([]),N::N::N::yR 5 1 D.u8 v4::nn 19 ([])⟩) ?_ ?_ ?_
  ·exact wk
  ·rintro v4 K5 h;refine goC ?_;refine BI CX ?_;exact AN h
  rintro _ i3 x7 v4 K5 b3 c3 e3 h p8;refine goC ?_;refine BB (CO b3) ?_;refine goC ?_;refine⟨BD (f:=JAB.toD) b3,JAB.toD x7,c3,rfl,?_⟩;refine⟨by decide,_,rfl,?_⟩;refine⟨_,rfl,?_⟩;refine⟨rfl,?_⟩;refine AL h (fun _=>GQ) fun _ h=>?_;refine⟨_,e3,?_⟩;exact p8 _ _ wk h
 rintro v1 h;(conv=>whnf);refine .inl ?_;(conv=>whnf);refine .inl ?_;refine⟨rfl,?_⟩;exact fin h
theorem MR {a0:List JAF}{r:(List UInt8)}(h:HK a0=some r):yC wl 160 [AV.d (D.l 3 JAF.toD a0)] [] (.d (D.l 1 D.u8 r)) []:=by
 refine oK Tryz.f160 ⟨rfl,?_⟩;unfold HK at h;refine⟨a0.length,X10 _,?_⟩;refine AM h (fun v1=>⟨X::X::X::yO 3 D.u8 v1::dd 19 ([]),N::N::N::yR 5 1 D.u8 v1::nn 19 ([])⟩) ?_ ?_
 ·intro _ h;revert h;refine Aa 6 3 JAF.toD rfl (fun i3 v4=>⟨X::X::X::yO 3 D.u8 v4::X::X::y2 a0::yi (a0.length:Int)::yi (i3:Int)::dd 14 ([]),N::N::N::yR 5 1 D.u8 v4::nn 19 ([])⟩) ?_ ?_ ?_
  ·exact wk
  ·rintro v4 K5 h;refine goC ?_;refine BI CX ?_;exact AN h
  rintro _ i3 x7 v4 K5 b3 c3 e3 h p8;refine goC ?_;refine BB (CO b3) ?_;refine goC ?_;refine⟨BD (f:=JAF.toD) b3,JAF.toD x7,c3,rfl,?_⟩;refine⟨rfl,?_⟩;refine AL h (fun _=>GQ) fun _ h=>?_;refine⟨_,e3,?_⟩;exact p8 _ _ wk h
 rintro v1 h;(conv=>whnf);refine .inl ?_;(conv=>whnf);refine .inl ?_;refine⟨rfl,?_⟩;exact fin h
theorem KV {a0:JAA}{a1:JAA}{r:Int}(h:D1 a0 a1=some r):yC wl 161 [AV.d (JAA.toD a0),AV.d (JAA.toD a1)] [] (.d (D.i r)) []:=by
 refine oK Tryz.f161 ⟨rfl,?_⟩;unfold D1 at h;refine AL h (fun _=>A3) fun _ h=>?_;exact fin h
theorem Eu {a1:List Int}{r:(List UInt8)}(h:D3 a1=some r):yC wl 158 [.d (D.nil 1),AV.d (D.l 1 D.i a1)] [] (.d (D.l 1 D.u8 r)) []:=by
 refine oK Tryz.f158 ⟨rfl,?_⟩;unfold D3 at h;refine⟨a1.length,X10 _,?_⟩;refine AM h (fun v1=>⟨yO 26 D.u8 v1::dd 28 ([]),nn 26 (yR 5 1 D.u8 v1::N::N::[])⟩) ?_ ?_
 ·intro _ h;revert h;refine Aa 7 1 D.i rfl (fun i3 v4=>⟨yO 26 D.u8 v4::dd 6 (y6 a1::yi (a1.length:Int)::yi (i3:Int)::dd 19 ([])),nn 26 (yR 5 1 D.u8 v4::N::N::[])⟩) ?_ ?_ ?_
  ·exact wk
  ·rintro v4 K5 h;refine goC ?_;refine BI CX ?_;exact AN h
  rintro _ i3 x7 v4 K5 b3 c3 e3 h p8;refine goC ?_;refine BB (CO b3) ?_;refine goC ?_;refine⟨BD (f:=D.i) b3,D.i x7,c3,rfl,?_⟩;refine⟨by decide,_,rfl,?_⟩;refine⟨_,Ae _,?_⟩;refine⟨by decide,_,rfl,?_⟩;refine⟨_,Ae _,?_⟩;refine⟨by decide,_,rfl,?_⟩;refine⟨_,Ae _,?_⟩;refine⟨_,Ae _,?_⟩;refine⟨rfl,?_⟩;refine apO h rfl fun _ h=>?_;refine⟨_,e3,?_⟩;exact p8 _ _ wk h
 rintro v1 h;(conv=>whnf);refine .inl ?_;(conv=>whnf);refine .inl ?_;refine⟨rfl,?_⟩;exact fin h
theorem O3 {a0:JAA}{a1:JAA}{r:Int}(h:Ih a0 a1=some r):yC wl 136 [AV.d (JAA.toD a0),AV.d (JAA.toD a1)] [] (.d (D.i r)) []:=by
 refine oK Tryz.f136 ⟨rfl,?_⟩;unfold Ih at h;refine AL h (fun _=>A3) fun _ h=>?_;exact fin h
theorem HO {a1:List JAC}{a2:Bool}{r:(List UInt8)}(h:E9 a1 a2=some r):yC wl 96 [.d (D.nil 1),AV.d (D.l 4 JAC.toD a1),AV.d (D.b a2)] [] (.d (D.l 1 D.u8 r)) []:=by
 refine oK Tryz.f96 ⟨rfl,?_⟩;unfold E9 at h;refine⟨a1.length,X10 _,?_⟩;refine AM h (fun v1=>⟨yO 25 D.u8 v1::dd 36 ([]),nn 25 (yR 5 1 D.u8 v1::nn 11 ([]))⟩) ?_ ?_
 ·intro _ h;revert h;refine Aa 9 4 JAC.toD rfl (fun i3 v4=>⟨yO 25 D.u8 v4::X::yb a2::dd 6 (y5 a1::yi (a1.length:Int)::yi (i3:Int)::dd 25 ([])),nn 25 (yR 5 1 D.u8 v4::nn 11 ([]))⟩) ?_ ?_ ?_
  ·exact wk
  ·rintro v4 K5 h;refine goC ?_;refine BI CX ?_;exact AN h
  rintro _ i3 x7 v4 K5 b3 c3 e3 h p8;refine goC ?_;refine BB (CO b3) ?_;refine goC ?_;refine⟨BD (f:=JAC.toD) b3,JAC.toD x7,c3,rfl,?_⟩;refine AM h (fun v9=>⟨yO 25 D.u8 v9::X::yb a2::dd 6 (y5 a1::yi (a1.length:Int)::yi (i3:Int)::dd 25 ([])),nn 25 (yR 5 1 D.u8 v9::nn 11 ([]))⟩) ?_ ?_
  ·intro _ h;refine AW h fun h=>?_;refine .inl (dO ?_);refine⟨_,Ae _,?_⟩;refine⟨rfl,?_⟩;refine apO h rfl fun _ h=>?_;refine Ap h (fun _=>FN) (fun _=>rfl) fun _ h=>?_;refine⟨_,rfl,?_⟩;refine⟨by decide,_,rfl,?_⟩;(conv=>whnf);refine Eb (f:=D.u8) h fun _ h=>?_;refine apO h rfl fun _ h=>?_;refine cO ?_;exact AN h
  rintro v9 h;refine⟨_,e3,?_⟩;exact p8 _ _ wk h
 rintro v1 h;(conv=>whnf);refine .inl ?_;(conv=>whnf);refine .inl ?_;refine⟨rfl,?_⟩;exact fin h
theorem RX {a0:JAG}{r:(List JAA)}(h:Kx a0=some r):yC wl 95 [AV.d (JAG.toD a0)] [] (.d (D.l 3 JAA.toD r)) []:=by
 refine oKx 131 Tryz.f95 ⟨rfl,?_⟩;unfold Kx at h;refine AM h (fun (v1,v2)=>⟨X::yr 1 0::dd 8 (AV.tup [yO 54 JAA.toD v2,yi v1]::dd 44 ([])),N::yB (JAG.av a0)::nn 52 (yR 88 3 JAA.toD v2::nn 131 ([]))⟩) ?_ ?_
 ·intro _ h;(conv=>whnf);refine inl Tryz.f134 55 (by kernel_rfl) (by kernel_rfl) ⟨rfl,?_⟩;refine AL h (fun _=>Ho) fun _ h=>?_;refine goC ?_;refine An h fun h=>?_;refine⟨_,Ae _,?_⟩;refine AM h (fun v6=>⟨X::yr 56 0::X::X::yr 59 0::AV.fn 156 [yr 59 0]::dd 14 (AV.tup []::dd 93 ([])),zS9 v6 a0 a0.JAE⟩) ?_ ?_
  ·intro _ h;(conv=>whnf);refine inl Tryz.f156 169 (by kernel_rfl) (by kernel_rfl) ⟨rfl,?_⟩;refine AM h (fun v8=>⟨dd 17 ([]),N::yB (JAG.av a0)::some (OB.row 88 3 (List.map JAA.toD []) .no)::nn 53 (yB (JAE.av a0.JAE)::some (OB.row 88 3 (List.map JAA.toD []) .no)::N::yB [yO 185 JAA.toD v8]::nn 14 (some (OB.row 5 1 (List.map D.u8 ([(Am a0.JAE.Origin)]:List UInt8)) .yes)::nn 110 (yR 88 3 JAA.toD v8::[])))⟩) ?_ ?_
   ·intro _ h;refine AW h fun h=>?_;obtain⟨v10,g11,h⟩:=AH h;refine⟨_,BZ (ek:=D.i) (ev:=D.i) (l:=Du) (k:=1) BO,D.i v10,Ds (z:=0) rfl g11,_,rfl,?_⟩;(conv=>whnf);refine .inl ?_;refine⟨rfl,?_⟩;refine⟨rfl,?_⟩;refine apN (f:=JAA.toD) h fun _ h=>?_;exact AN h
   rintro v8 h;exact BH (.swap 185 168 rfl rfl rfl wk) h
  rintro v6 h;refine AM h (fun v13=>⟨X::yr 56 0::X::X::yr 59 0::AV.fn 156 [yr 59 0]::dd 108 ([]),zS9 v13 a0 a0.JAE⟩) ?_ ?_
  ·intro _ h;refine .inr (tOB (by kernel_rfl) ?_);refine AT h ?_ ?_<;>intro h
   ·refine Ap h (fun _=>IQ) (fun _=>rfl) fun _ h=>?_;refine cO ?_;refine AM h (fun v17=>⟨X::yr 56 0::X::X::yr 59 0::AV.fn 156 [yr 59 0]::dd 28 (AV.tup []::dd 79 ([])),zS9 v17 a0 a0.JAE⟩) ?_ ?_
    ·intro _ h;(conv=>whnf);refine inl Tryz.f156 169 (by kernel_rfl) (by kernel_rfl) ⟨rfl,?_⟩;refine goC ?_;obtain⟨v19,g20,h⟩:=AH h;refine⟨_,BZ (ek:=D.i) (ev:=D.i) (l:=Du) (k:=2) BO,D.i v19,Ds (z:=0) rfl g20,_,rfl,?_⟩;refine⟨rfl,?_⟩;refine apO h rfl fun _ h=>?_;exact AN h
    rintro v17 h;exact AN h
   refine⟨a0.JAE.Path.length,X10 _,?_⟩;refine Ap h (fun _=>IQ) (fun _=>rfl) fun _ h=>?_;refine cO ?_;refine AM h (fun v25=>⟨X::yr 56 0::X::X::yr 59 0::AV.fn 156 [yr 59 0]::dd 28 (AV.tup []::dd 79 ([])),zS9 v25 a0 a0.JAE⟩) ?_ ?_
   ·intro _ h;(conv=>whnf);refine inl Tryz.f156 169 (by kernel_rfl) (by kernel_rfl) ⟨rfl,?_⟩;refine AM h (fun v27=>⟨dd 17 ([]),zS9 v27 a0 a0.JAE⟩) ?_ ?_
    ·intro _ h;refine AW h fun h=>?_;obtain⟨v29,g30,h⟩:=AH h;refine⟨_,BZ (ek:=D.i) (ev:=D.i) (l:=Du) (k:=2) BO,D.i v29,Ds (z:=0) rfl g30,_,rfl,?_⟩;refine⟨rfl,?_⟩;refine apO h rfl fun _ h=>?_;exact AN h
    rintro v27 h;exact AN h
   rintro v25 h;exact AN h
  rintro v13 h;refine AM h (fun v33=>⟨X::yr 56 0::X::X::yr 59 0::AV.fn 156 [yr 59 0]::dd 108 ([]),zS9 v33 a0 a0.JAE⟩) ?_ ?_
  ·intro _ h;refine .inr (tOB (by kernel_rfl) ?_);refine AT h ?_ ?_<;>intro h
   ·refine Ap h (fun _=>FN) (fun _=>rfl) fun _ h=>?_;refine cO ?_;refine AM h (fun v37=>⟨X::yr 56 0::X::X::yr 59 0::AV.fn 156 [yr 59 0]::dd 43 (AV.tup []::dd 64 ([])),zS9 v37 a0 a0.JAE⟩) ?_ ?_
    ·intro _ h;(conv=>whnf);refine inl Tryz.f156 169 (by kernel_rfl) (by kernel_rfl) ⟨rfl,?_⟩;refine AM h (fun v39=>⟨dd 17 ([]),zS9 v39 a0 a0.JAE⟩) ?_ ?_
     ·intro _ h;refine AW h fun h=>?_;obtain⟨v41,g42,h⟩:=AH h;refine⟨_,BZ (ek:=D.i) (ev:=D.i) (l:=Du) (k:=3) BO,D.i v41,Ds (z:=0) rfl g42,_,rfl,?_⟩;refine⟨rfl,?_⟩;refine apO h rfl fun _ h=>?_;exact AN h
     rintro v39 h;exact AN h
    rintro v37 h;exact AN h
   refine Ap h (fun _=>FN) (fun _=>rfl) fun _ h=>?_;refine cO ?_;refine AM h (fun _=>⟨X::yr 56 0::X::X::yr 59 0::AV.fn 156 [yr 59 0]::dd 43 (AV.tup []::dd 64 ([])),zS9 v13 a0 a0.JAE⟩) ?_ ?_
   ·intro _ h;(conv=>whnf);refine inl Tryz.f156 169 (by kernel_rfl) (by kernel_rfl) ⟨rfl,?_⟩;refine goC ?_;exact AN h
   rintro _ h;exact AN h
  rintro v33 h;refine .inr (tOB (by kernel_rfl) ?_);refine⟨rfl,?_⟩;refine Ap h (fun _=>Eu) (fun _=>rfl) fun _ h=>?_;refine cO ?_;refine AM h (fun v50=>⟨X::yr 56 0::X::X::yr 59 0::AV.fn 156 [yr 59 0]::dd 52 (AV.tup []::dd 55 ([])),zS9 v50 a0 a0.JAE⟩) ?_ ?_
  ·intro _ h;(conv=>whnf);refine inl Tryz.f156 169 (by kernel_rfl) (by kernel_rfl) ⟨rfl,?_⟩;refine AM h (fun v52=>⟨dd 17 ([]),N::yB (JAG.av a0)::some (OB.row 88 3 (List.map JAA.toD []) .no)::nn 53 (yB (JAE.av a0.JAE)::N::N::zS2 v52::nn 51 (some (OB.row 3 1 (List.map D.i ([a0.JAE.MED]:List Int)) .yes)::nn 56 (yR 88 3 JAA.toD v52::nn 17 ([]))))⟩) ?_ ?_
   ·intro _ h;refine AW h fun h=>?_;obtain⟨v54,g55,h⟩:=AH h;refine⟨_,BZ (ek:=D.i) (ev:=D.i) (l:=Du) (k:=4) BO,D.i v54,Ds (z:=0) rfl g55,_,rfl,?_⟩;refine⟨rfl,?_⟩;refine apO h rfl fun _ h=>?_;exact AN h
   rintro v52 h;exact AN h
  rintro v50 h;refine .inr (tOB (by kernel_rfl) ?_);refine⟨rfl,?_⟩;refine Ap h (fun _=>Eu) (fun _=>rfl) fun _ h=>?_;refine cO ?_;refine AM h (fun v60=>⟨X::yr 56 0::X::X::yr 59 0::AV.fn 156 [yr 59 0]::dd 61 (AV.tup []::dd 46 ([])),zS9 v60 a0 a0.JAE⟩) ?_ ?_
  ·intro _ h;(conv=>whnf);refine inl Tryz.f156 169 (by kernel_rfl) (by kernel_rfl) ⟨rfl,?_⟩;refine AM h (fun v62=>⟨dd 17 ([]),N::yB (JAG.av a0)::some (OB.row 88 3 (List.map JAA.toD []) .no)::nn 53 (yB (JAE.av a0.JAE)::N::N::zS2 v62::nn 60 (some (OB.row 3 1 (List.map D.i ([a0.JAE.Pref]:List Int)) .yes)::nn 47 (yR 88 3 JAA.toD v62::nn 17 ([]))))⟩) ?_ ?_
   ·intro _ h;refine AW h fun h=>?_;obtain⟨v64,g65,h⟩:=AH h;refine⟨_,BZ (ek:=D.i) (ev:=D.i) (l:=Du) (k:=5) BO,D.i v64,Ds (z:=0) rfl g65,_,rfl,?_⟩;refine⟨rfl,?_⟩;refine apO h rfl fun _ h=>?_;exact AN h
   rintro v62 h;exact AN h
  rintro v60 h;refine .inr (tOB (by kernel_rfl) ?_);refine⟨a0.JAE.Communities.length,X10 _,?_⟩;refine Ap h (fun _=>Il) (fun _=>rfl) fun _ h=>?_;refine cO ?_;refine AM h (fun v70=>⟨X::yr 56 0::X::X::yr 59 0::AV.fn 156 [yr 59 0]::dd 70 (AV.tup []::dd 37 ([])),zS9 v70 a0 a0.JAE⟩) ?_ ?_
  ·intro _ h;(conv=>whnf);refine inl Tryz.f156 169 (by kernel_rfl) (by kernel_rfl) ⟨rfl,?_⟩;refine AM h (fun v72=>⟨dd 17 ([]),zS9 v72 a0 a0.JAE⟩) ?_ ?_
   ·intro _ h;refine AW h fun h=>?_;obtain⟨v74,g75,h⟩:=AH h;refine⟨_,BZ (ek:=D.i) (ev:=D.i) (l:=Du) (k:=8) BO,D.i v74,Ds (z:=0) rfl g75,_,rfl,?_⟩;refine⟨rfl,?_⟩;refine apO h rfl fun _ h=>?_;exact AN h
   rintro v72 h;exact AN h
  rintro v70 h;refine .inr (tOB (by kernel_rfl) ?_);refine⟨a0.JAE.JAF.length,X10 _,?_⟩;refine Ap h (fun _=>MR) (fun _=>rfl) fun _ h=>?_;refine cO ?_;refine AM h (fun v80=>⟨X::yr 56 0::X::X::yr 59 0::AV.fn 156 [yr 59 0]::dd 79 (AV.tup []::dd 28 ([])),zS9 v80 a0 a0.JAE⟩) ?_ ?_
  ·intro _ h;(conv=>whnf);refine inl Tryz.f156 169 (by kernel_rfl) (by kernel_rfl) ⟨rfl,?_⟩;refine AM h (fun v82=>⟨dd 17 ([]),zS9 v82 a0 a0.JAE⟩) ?_ ?_
   ·intro _ h;refine AW h fun h=>?_;obtain⟨v84,g85,h⟩:=AH h;refine⟨_,BZ (ek:=D.i) (ev:=D.i) (l:=Du) (k:=32) BO,D.i v84,Ds (z:=0) rfl g85,_,rfl,?_⟩;refine⟨rfl,?_⟩;refine apO h rfl fun _ h=>?_;exact AN h
   rintro v82 h;exact AN h
  rintro v80 h;refine .inr (tOB (by kernel_rfl) ?_);refine⟨rfl,?_⟩;refine Ap h (fun _=>Eu) (fun _=>rfl) fun _ h=>?_;refine cO ?_;refine AM h (fun v90=>⟨X::yr 56 0::X::X::yr 59 0::dd 89 (AV.tup []::dd 19 ([])),zS9 v90 a0 a0.JAE⟩) ?_ ?_
  ·intro _ h;(conv=>whnf);refine inl Tryz.f156 169 (by kernel_rfl) (by kernel_rfl) ⟨rfl,?_⟩;refine AM h (fun v92=>⟨dd 17 ([]),N::yB (JAG.av a0)::some (OB.row 88 3 (List.map JAA.toD []) .no)::nn 53 (yB (JAE.av a0.JAE)::N::N::zS2 v92::nn 87 (some (OB.row 3 1 (List.map D.i ([a0.JAE.OTC]:List Int)) .yes)::nn 20 (yR 88 3 JAA.toD v92::nn 17 ([]))))⟩) ?_ ?_
   ·intro _ h;refine AW h fun h=>?_;obtain⟨v94,g95,h⟩:=AH h;refine⟨_,BZ (ek:=D.i) (ev:=D.i) (l:=Du) (k:=35) BO,D.i v94,Ds (z:=0) rfl g95,_,rfl,?_⟩;refine⟨rfl,?_⟩;refine apO h rfl fun _ h=>?_;exact AN h
   rintro v92 h;exact AN h
  rintro v90 h;refine⟨a0.JAE.Other.length,X10 _,?_⟩;refine AM h (fun v98=>⟨dd 4 (yr 59 0::dd 109 ([])),fA v98 a0⟩) ?_ ?_
  ·intro _ h;revert h;refine Aa 96 3 JAA.toD rfl (fun i100 v101=>⟨dd 4 (yr 59 0::dd 91 (AV.d (D.l 3 JAA.toD a0.JAE.Other)::yi (a0.JAE.Other.length:Int)::yi (i100:Int)::dd 15 ([]))),fA v101 a0⟩) ?_ ?_ ?_
   ·exact wk
   ·rintro v101 K102 h;refine goC ?_;refine BI CX ?_;exact AN h
   rintro _ i100 x104 v101 K102 b100 c100 e100 h p105;refine goC ?_;refine BB (CO b100) ?_;refine goC ?_;refine⟨BD (f:=JAA.toD) b100,JAA.toD x104,c100,rfl,?_⟩;refine AL h (fun _=>FG) fun _ h=>?_;refine⟨rfl,?_⟩;refine apO h rfl fun _ h=>?_;refine⟨_,e100,?_⟩;exact p105 _ _ wk h
  rintro v98 h;obtain⟨v110,g111,h⟩:=AH h;have g111l:=GP g111;refine⟨_,_,some [],K4 (f:=JAA.toD) (enters_of Tryz.func161 (by kernel_rfl) rfl) (fun h=>KV h) g111,?_⟩;exact BH (.swap 168 54 rfl rfl rfl wk) h
 rintro⟨v1,v2⟩ h;refine AM h (fun v112=>⟨X::yr 1 0::X::yO 54 JAA.toD v2::dd 18 (yb v112::dd 32 ([])),N::yB (JAG.av a0)::nn 52 (yR 88 3 JAA.toD v2::nn 131 ([]))⟩) ?_ ?_
 ·intro _ h;refine⟨a0.Announce.length,X10 _,?_⟩;exact selC h
 rintro v112 h;refine AM h (fun v114=>⟨X::yr 1 0::X::yO 54 JAA.toD v114::dd 51 ([]),N::yB (JAG.av a0)::nn 52 (yR 88 3 JAA.toD v114::nn 131 ([]))⟩) ?_ ?_
 ·intro _ h;refine AW h fun h=>?_;refine AL h (fun _=>FN) fun _ h=>?_;refine apO h rfl fun _ h=>?_;refine .inl (dO ?_);refine⟨rfl,?_⟩;refine apO h rfl fun _ h=>?_;refine Ap h (fun _=>J1) (fun _=>rfl) fun _ h=>?_;(conv=>whnf);refine .inl ?_;refine⟨rfl,?_⟩;refine⟨rfl,?_⟩;refine apO h rfl fun _ h=>?_;refine cO ?_;exact AN h
 rintro v114 h;refine AL h (fun _=>HO) fun v126 h=>?_;refine⟨v126.length,X10 _,?_⟩;refine AM h (fun v128=>⟨X::X::X::yO 54 JAA.toD v128::dd 51 ([]),nn 54 (yR 88 3 JAA.toD v128::nn 131 ([]))⟩) ?_ ?_
 ·intro _ h;refine AW h fun h=>?_;refine apO h rfl fun _ h=>?_;(conv=>whnf);refine .inl ?_;refine⟨rfl,?_⟩;refine⟨rfl,?_⟩;refine apO h rfl fun _ h=>?_;exact AN h
 rintro v128 h;obtain⟨v134,g135,h⟩:=AH h;have g135l:=GP g135;refine⟨_,_,some [],K4 (f:=JAA.toD) (enters_of Tryz.func136 (by kernel_rfl) rfl) (fun h=>O3 h) g135,?_⟩;(conv=>whnf);refine .inl ?_;(conv=>whnf);refine .inl ?_;refine⟨Bi,?_⟩;exact fin h
theorem OC {a1:Int}{r:(List UInt8)}(h:Hm a1=some r):yC wl 87 [.d (D.nil 1),AV.d (D.i a1)] [] (AV.own 0 (List.map D.u8 r).length) [.row 5 1 (List.map D.u8 r) .no]:=by
 refine oK Tryz.f87 ⟨rfl,?_⟩;unfold Hm at h;refine⟨by decide,_,rfl,?_⟩;refine⟨_,Ae _,?_⟩;refine⟨_,Ae _,?_⟩;refine⟨rfl,?_⟩;refine apN (f:=D.u8) h fun _ h=>?_;(conv=>whnf);refine .inl ?_;(conv=>whnf);refine .inr ?_;exact fin h
theorem LD {a0:JAG}{r:(List UInt8)×Bool}(h:IP a0=some r):yC wl 49 [AV.d (JAG.toD a0)] [] (.tup [.d (D.l 1 D.u8 r.1),.d (D.b r.2)]) []:=by
 refine oK Tryz.f49 ⟨rfl,?_⟩;unfold IP at h;refine AL h (fun _=>RX) fun _ h=>?_;refine AL h (fun _=>N7) ?_;rintro⟨v3,_⟩ h;refine AL h (fun _=>HO) fun v6 h=>?_;refine⟨v6.length,X10 _,?_⟩;refine PU [19] h (fun _=>OC) fun _ h=>?_;refine apO h rfl fun _ h=>?_;refine⟨v3.length,X10 _,?_⟩;refine AL h (fun _=>SH) fun _ h=>?_;refine apO h rfl fun _ h=>?_;refine AL h (fun _=>J1) fun v16 h=>?_;refine AM h (fun v18=>⟨X::X::yO 19 D.u8 v16::yb v18::dd 36 ([]),nn 19 (yR 5 1 D.u8 v16::nn 20 ([]))⟩) ?_ ?_
 ·intro _ h;refine AW h fun h=>?_;refine⟨v16.length,Bi,?_⟩;exact AN h
 rintro v18 h;(conv=>whnf);refine .inl ?_;refine⟨rfl,?_⟩;exact fin h
theorem HH {a0:Addr}{r:Int}(h:CY a0=some r):yC wl 100 [AV.d (Addr.toD a0)] [] (.d (D.i r)) []:=by
 refine oK Tryz.f100 ⟨rfl,?_⟩;unfold CY at h;refine goC ?_;refine AT h ?_ ?_<;>intro h
 ·exact fin h
 exact fin h
theorem P6 {a0:Int}{r:UInt64×UInt64}(h:FA a0=some r):yC wl 137 [AV.d (D.i a0)] [] (.tup [.d (D.u64 r.1),.d (D.u64 r.2)]) []:=by
 refine oK Tryz.f137 ⟨rfl,?_⟩;unfold FA at h;refine goC ?_;refine AT h ?_ ?_<;>intro h
 ·refine⟨_,rfl,?_⟩;refine⟨_,Aw _,?_⟩;refine⟨Int.natCast_nonneg _,_,Aw _,?_⟩;refine⟨_,Aw _,?_⟩;exact fin h
 refine⟨_,Aw _,?_⟩;refine⟨Int.natCast_nonneg _,_,Aw _,?_⟩;refine⟨_,Aw _,?_⟩;exact fin h
theorem Jy {a0:Addr}{a1:Int}{r:Addr}(h:D6 a0 a1=some r):yC wl 101 [AV.d (Addr.toD a0),AV.d (D.i a1)] [] (.d (Addr.toD r)) []:=by
 refine oK Tryz.f101 ⟨rfl,?_⟩;unfold D6 at h;refine AL h (fun _=>HH) fun _ h=>?_;refine⟨_,rfl,?_⟩;refine AL h (fun _=>P6) ?_;rintro⟨_,_⟩ h;refine⟨_,Aw _,?_⟩;refine⟨_,Aw _,?_⟩;exact fin h
theorem P7 {a0:JAC}{r:Bool}(h:Jb a0=some r):yC wl 52 [AV.d (JAC.toD a0)] [] (.d (D.b r)) []:=by
 refine oK Tryz.f52 ⟨rfl,?_⟩;unfold Jb at h;refine AM h (fun v1=>⟨X::X::yb v1::dd 26 ([]),nn 29 ([])⟩) ?_ ?_
 ·intro _ h;refine .inl (dO ?_);refine Ap h (fun _=>Gu) (fun _=>rfl) fun _ h=>?_;refine AT h ?_ ?_<;>intro h
  ·refine AT h ?_ ?_<;>intro h
   ·refine Ap h (fun _=>HH) (fun _=>rfl) fun _ h=>?_;refine AT h ?_ ?_<;>intro h
    ·refine Ap h (fun _=>Jy) (fun _=>rfl) fun _ h=>?_;refine cO ?_;exact AN h
    refine cO ?_;exact AN h
   refine cO ?_;exact AN h
  refine cO ?_;exact AN h
 rintro v1 h;exact fin h
theorem NQ {a0:JAC}{r:Bool}(h:Hr a0=some r):yC wl 51 [AV.d (JAC.toD a0)] [] (.d (D.b r)) []:=by
 refine oK Tryz.f51 ⟨rfl,?_⟩;unfold Hr at h;refine AL h (fun _=>P7) fun _ h=>?_;exact fin h
theorem MS {r:JAE}(h:FR=some r):yC wl 60 [] [] (.d (JAE.toD r)) []:=by
 refine oK Tryz.f60 ⟨rfl,?_⟩;unfold FR at h;exact fin h
theorem P9 {a0:JAE}{r:Bool}(h:Jq a0=some r):yC wl 103 [AV.d (JAE.toD a0)] [] (.d (D.b r)) []:=by
 refine oKx 2 Tryz.f103 ⟨rfl,?_⟩;unfold Jq at h;refine AM h (fun _=>⟨X::yr 1 0::X::X::AV.d (D.agg [D.i (-1),D.nil 2,D.b false,D.u64 (0:UInt64),D.u64 (0:UInt64),D.i (-1),D.i (-1),D.i (-1),D.nil 2,D.nil 3,D.nil 3])::dd 51 ([]),N::yB (JAE.av a0)::nn 56 ([])⟩) ?_ ?_
 ·intro _ h;(conv=>whnf);refine inl Tryz.f60 56 (by kernel_rfl) (by kernel_rfl) ⟨rfl,?_⟩;exact AN h
 rintro _ h;refine AM h (fun v2=>⟨X::X::yb v2::dd 53 ([]),nn 58 ([])⟩) ?_ ?_
 ·intro _ h;refine AW h fun h=>?_;refine AW h fun h=>?_;refine AW h fun h=>?_;refine AW h fun h=>?_;refine AW h fun h=>?_;refine⟨a0.Path.length,X10 _,?_⟩;refine⟨a0.Communities.length,X10 _,?_⟩;refine⟨_,rfl,?_⟩;refine⟨a0.JAF.length,X10 _,?_⟩;refine⟨_,rfl,?_⟩;refine⟨a0.Other.length,X10 _,?_⟩;refine⟨_,rfl,?_⟩;exact AN h
 rintro v2 h;exact fin h
theorem O0 {a0:JAC}{a1:JAG}{r:Bool×JAG}(h:Ik a0 a1=some r):yC wl 104 [AV.d (JAC.toD a0),.ref 0 0] [.box (JAG.av a1)] (.d (D.b r.1)) [.box (JAG.av r.2)]:=by
 refine oK Tryz.f104 ⟨rfl,?_⟩;unfold Ik at h;exact fin h
theorem DI {a0:List JAC}{a1c0:JAG}{r:Int×JAG}(h:A9 a0 a1c0=some r):yC wl 102 [AV.d (D.l 4 JAC.toD a0),AV.fn 104 [.ref 0 0]] [.box (JAG.av a1c0)] (.d (D.i r.1)) [.box (JAG.av r.2)]:=by
 refine oK Tryz.f102 ⟨rfl,?_⟩;unfold A9 at h;refine⟨a0.length,X10 _,?_⟩;refine AM h (fun v1=>⟨dd 19 ([]),yB (JAG.av v1)::nn 19 ([])⟩) ?_ ?_
 ·intro _ h;revert h;refine Aa 6 4 JAC.toD rfl (fun i3 v4=>⟨y5 a0::AV.fn 104 [yr 0 0]::dd 4 (y5 a0::yi (a0.length:Int)::yi (i3:Int)::dd 10 ([])),yB (JAG.av v4)::nn 19 ([])⟩) ?_ ?_ ?_
  ·exact wk
  ·rintro v4 K5 h;refine goC ?_;refine BI CX ?_;exact AN h
  rintro _ i3 x7 v4 K5 b3 c3 e3 h p8;refine goC ?_;refine BB (CO b3) ?_;refine goC ?_;refine⟨BD (f:=JAC.toD) b3,JAC.toD x7,c3,rfl,?_⟩;refine AL h (fun _=>O0) ?_;rintro⟨_,_⟩ h;refine goC ?_;refine AT h ?_ ?_<;>intro h
  ·exact fin h
  refine⟨_,e3,?_⟩;exact p8 _ _ wk h
 rintro v1 h;exact fin h
theorem Cm {a0:List JAC}{a1c0:JAG}{r:Bool×JAG}(h:A6 a0 a1c0=some r):yC wl 53 [AV.d (D.l 4 JAC.toD a0),AV.fn 104 [.ref 0 0]] [.box (JAG.av a1c0)] (.d (D.b r.1)) [.box (JAG.av r.2)]:=by
 refine oK Tryz.f53 ⟨rfl,?_⟩;unfold A6 at h;refine AL h (fun _=>DI) ?_;rintro⟨_,_⟩ h;exact fin h
theorem RA {a0:JAG}{r:Bool}(h:KQ a0=some r):yC wl 54 [AV.d (JAG.toD a0)] [] (.d (D.b r)) []:=by
 refine oK Tryz.f54 ⟨rfl,?_⟩;unfold KQ at h;refine⟨a0.Announce.length,X10 _,?_⟩;refine goC ?_;refine AT h ?_ ?_<;>intro h
 ·refine AL h (fun _=>P9) fun _ h=>?_;exact fin h
 refine AM h (fun v3=>⟨X::X::yb v3::dd 32 ([]),nn 35 ([])⟩) ?_ ?_
 ·intro _ h;refine AL h (fun _=>Ho) fun _ h=>?_;refine AW h fun h=>?_;refine AW h fun h=>?_;refine AW h fun h=>?_;refine AL h (fun _=>Cm) ?_;rintro⟨_,_⟩ h;exact AN h
 rintro v3 h;exact fin h
theorem C5 {a0:List JAC}{r:Int}(h:A8 a0=some r):yC wl 102 [AV.d (D.l 4 JAC.toD a0),AV.fn 51 []] [] (.d (D.i r)) []:=by
 refine oK Tryz.f102 ⟨rfl,?_⟩;unfold A8 at h;refine⟨a0.length,X10 _,?_⟩;refine AM h (fun _=>⟨dd 19 ([]),nn 19 ([])⟩) ?_ ?_
 ·intro _ h;revert h;refine Aa 6 4 JAC.toD rfl (fun i2 _=>⟨y5 a0::AV.fn 51 []::dd 4 (y5 a0::yi (a0.length:Int)::yi (i2:Int)::dd 10 ([])),nn 19 ([])⟩) ?_ ?_ ?_
  ·exact wk
  ·rintro _ K3 h;refine goC ?_;refine BI CX ?_;exact AN h
  rintro _ i2 x5 _ K3 b2 c2 e2 h p6;refine goC ?_;refine BB (CO b2) ?_;refine goC ?_;refine⟨BD (f:=JAC.toD) b2,JAC.toD x5,c2,rfl,?_⟩;refine AL h (fun _=>NQ) fun _ h=>?_;refine goC ?_;refine AT h ?_ ?_<;>intro h
  ·exact fin h
  refine⟨_,e2,?_⟩;exact p6 _ _ wk h
 rintro _ h;exact fin h
theorem BK {a0:List JAC}{r:Bool}(h:Aq a0=some r):yC wl 53 [AV.d (D.l 4 JAC.toD a0),AV.fn 51 []] [] (.d (D.b r)) []:=by
 refine oK Tryz.f53 ⟨rfl,?_⟩;unfold Aq at h;refine AL h (fun _=>C5) fun _ h=>?_;exact fin h
theorem Pz {a0:JAG}{r:Bool}(h:JO a0=some r):yC wl 20 [AV.d (JAG.toD a0)] [] (.d (D.b r)) []:=by
 refine oK Tryz.f20 ⟨rfl,?_⟩;unfold JO at h;refine AM h (fun v1=>⟨X::yr 1 0::dd 30 (yb v1::dd 6 ([])),N::yB (JAG.av a0)::nn 37 ([])⟩) ?_ ?_
 ·intro _ h;refine⟨a0.Withdraw.length,X10 _,?_⟩;refine An h fun h=>?_;refine⟨a0.Announce.length,X10 _,?_⟩;refine An h fun h=>?_;refine AL h (fun _=>BK) fun _ h=>?_;refine An h fun h=>?_;refine AL h (fun _=>BK) fun _ h=>?_;refine An h fun h=>?_;refine AL h (fun _=>RA) fun _ h=>?_;exact AN h
 rintro v1 h;refine goC ?_;refine AT h ?_ ?_<;>intro h
 ·exact fin h
 refine AL h (fun _=>LD) ?_;rintro⟨_,_⟩ h;exact fin h
theorem Oh {a0:JAG}{r:(List UInt8)×Int}(h:If a0=some r):yC wl 18 [AV.d (JAG.toD a0)] [] (.tup [.d (D.l 1 D.u8 r.1),.d (D.i r.2)]) []:=by
 refine oK Tryz.f18 ⟨rfl,?_⟩;unfold If at h;refine AL h (fun _=>Pz) fun _ h=>?_;refine goC ?_;refine AT h ?_ ?_<;>intro h
 ·exact fin h
 refine AL h (fun _=>LD) ?_;rintro⟨_,_⟩ h;exact fin h
theorem P1 {a0:JAG}{r:(List UInt8)×Int}(h:GN a0=some r):yC wl 19 [AV.d (JAG.toD a0)] [] (.tup [.d (D.l 1 D.u8 r.1),.d (D.i r.2)]) []:=by
 refine oK Tryz.f19 ⟨rfl,?_⟩;unfold GN at h;refine AL h (fun _=>Ky) fun _ h=>?_;refine goC ?_;refine AT h ?_ ?_<;>intro h
 ·exact fin h
 refine AL h (fun _=>KX) ?_;rintro⟨_,_⟩ h;exact fin h
theorem Ld {a0:List JAA}{r:(List JAA)}(h:Dc a0=some r):yC wl 113 [AV.d (D.l 3 JAA.toD a0)] [] (.d (D.l 3 JAA.toD r)) []:=by
 refine oK Tryz.f113 ⟨rfl,?_⟩;unfold Dc at h;refine⟨a0.length,X10 _,?_⟩;refine AM h (fun v1=>⟨dd 4 (yO 4 JAA.toD v1::dd 23 ([])),nn 4 (yR 88 3 JAA.toD v1::nn 23 ([]))⟩) ?_ ?_
 ·intro _ h;revert h;refine Aa 8 3 JAA.toD rfl (fun i3 (v4,v5)=>⟨X::X::X::AV.mp 7::yO 4 JAA.toD v5::X::X::X::y4 a0::yi (a0.length:Int)::yi (i3:Int)::dd 17 ([]),nn 4 (yR 88 3 JAA.toD v5::N::N::some (OB.map 3 4 (Bv D.i D.b v4))::nn 20 ([]))⟩) ?_ ?_ ?_
  ·exact wk
  ·rintro⟨v4,v5⟩ K6 h;refine goC ?_;refine BI CX ?_;exact AN h
  rintro _ i3 x8 ⟨v4,v5⟩ K6 b3 c3 e3 h p9;refine goC ?_;refine BB (CO b3) ?_;refine goC ?_;refine⟨BD (f:=JAA.toD) b3,JAA.toD x8,c3,rfl,?_⟩;obtain⟨v10,g11,h⟩:=AH h;refine⟨_,BZ (ek:=D.i) (ev:=D.b) (l:=v4) (k:=x8.Type_) BO,D.b v10,Ds (z:=false) rfl g11,_,rfl,?_⟩;refine AM h (fun v12=>⟨X::X::X::AV.mp 7::yO 4 JAA.toD v12::X::yr 6 0::X::y4 a0::yi (a0.length:Int)::yi (i3:Int)::dd 17 ([]),nn 4 (yR 88 3 JAA.toD v12::N::yB (JAA.av x8)::some (OB.map 3 4 (Bv D.i D.b v4))::nn 20 ([]))⟩) ?_ ?_
  ·intro _ h;refine AW h fun h=>?_;refine⟨rfl,?_⟩;refine apO h rfl fun _ h=>?_;exact AN h
  rintro v12 h;refine⟨_,EF (ek:=D.i) (ev:=D.b) (l:=v4) (k:=x8.Type_) (v:=true) BO,?_⟩;refine⟨_,e3,?_⟩;exact p9 _ _ wk h
 rintro v1 h;(conv=>whnf);refine .inl ?_;(conv=>whnf);refine .inl ?_;refine⟨rfl,?_⟩;exact fin h
theorem Lc {a0:JAA}{r:Bool}(h:Df a0=some r):yC wl 115 [AV.d (JAA.toD a0)] [] (.d (D.b r)) []:=by
 refine oK Tryz.f115 ⟨rfl,?_⟩;unfold Df at h;refine AM h (fun v1=>⟨X::X::yb v1::dd 9 ([]),nn 12 ([])⟩) ?_ ?_
 ·intro _ h;refine AL h (fun _=>Es) fun _ h=>?_;refine AW h fun h=>?_;refine⟨_,rfl,?_⟩;exact AN h
 rintro v1 h;exact fin h
theorem Bt {a0:JAA}{r:Bool}(h:BQ a0=some r):yC wl 148 [AV.d (JAA.toD a0)] [] (.d (D.b r)) []:=by
 refine oK Tryz.f148 ⟨rfl,?_⟩;unfold BQ at h;refine AM h (fun v1=>⟨X::X::yb v1::dd 22 ([]),nn 25 ([])⟩) ?_ ?_
 ·intro _ h;obtain⟨v3,g4,h⟩:=AH h;refine⟨_,BZ (ek:=D.i) (ev:=D.i) (l:=Du) (k:=a0.Type_) BO,D.i v3,Ds (z:=0) rfl g4,_,rfl,?_⟩;refine⟨_,rfl,?_⟩;refine⟨_,rfl,?_⟩;refine AW h fun h=>?_;obtain⟨v5,g6,h⟩:=AH h;refine⟨_,BZ (ek:=D.i) (ev:=D.i) (l:=Du) (k:=a0.Type_) BO,D.i v5,Ds (z:=0) rfl g6,_,rfl,?_⟩;refine An h fun h=>?_;refine⟨_,rfl,?_⟩;exact AN h
 rintro v1 h;exact fin h
theorem C3 {a0:List UInt8}{r:Int}(h:CC a0=some r):yC wl 143 [AV.d (D.l 1 D.u8 a0)] [] (.d (D.i r)) []:=by
 refine oK Tryz.f143 ⟨rfl,?_⟩;unfold CC at h;refine⟨a0.length,X10 _,?_⟩;refine AM h (fun v1=>⟨X::X::X::yi v1::dd 15 ([]),nn 19 ([])⟩) ?_ ?_
 ·intro _ h;revert h;refine Aa 6 1 D.u8 rfl (fun i3 v4=>⟨X::X::X::yi v4::X::X::y3 a0::yi (a0.length:Int)::yi (i3:Int)::dd 10 ([]),nn 19 ([])⟩) ?_ ?_ ?_
  ·exact wk
  ·rintro v4 K5 h;refine goC ?_;refine BI CX ?_;exact AN h
  rintro _ i3 x7 v4 K5 b3 c3 e3 h p8;refine goC ?_;refine BB (CO b3) ?_;refine goC ?_;refine⟨BD (f:=D.u8) b3,D.u8 x7,c3,rfl,?_⟩;refine⟨by decide,_,rfl,?_⟩;refine⟨_,BG x7,?_⟩;refine⟨_,rfl,?_⟩;refine⟨_,e3,?_⟩;exact p8 _ _ wk h
 rintro v1 h;exact fin h
theorem E0 {a0:List UInt8}{r:(List Int)}(h:Cb a0=some r):yC wl 217 [AV.d (D.l 1 D.u8 a0)] [] (AV.own 0 (List.map D.i r).length) [.row 3 1 (List.map D.i r) .no]:=by
 refine oK Tryz.f217 ⟨rfl,?_⟩;unfold Cb at h;refine AM h (fun v1=>⟨X::X::X::yO 3 D.i v1::dd 12 ([]),N::N::N::yR 3 1 D.i v1::nn 12 ([])⟩) ?_ ?_
 ·intro _ h;revert h;refine AZ (fun (v3,v4)=>⟨y3 v3::X::X::yO 3 D.i v4::dd 12 ([]),N::N::N::yR 3 1 D.i v4::nn 12 ([])⟩) ?_ ?_
  ·exact wk
  rintro _ ⟨v3,v4⟩ _ h p7;refine⟨v3.length,X10 _,?_⟩;refine goC ?_;refine AW h fun h=>?_;refine goC ?_;(conv=>whnf);refine Eb (f:=D.u8) h fun _ h=>?_;refine AL h (fun _=>C3) fun _ h=>?_;refine⟨rfl,?_⟩;refine apO h rfl fun _ h=>?_;(conv=>whnf);refine Hu (f:=D.u8) h fun _ h=>?_;exact p7 _ _ wk h
 rintro v1 h;(conv=>whnf);refine .inl ?_;(conv=>whnf);refine .inr ?_;exact fin h
theorem IF {a0:List Int}{r:(List Int)}(h:Bz a0=some r):yC wl 219 [AV.own 0 (List.map D.i a0).length] [.row 3 1 (List.map D.i a0) .no] (AV.own 1 (List.map D.i r).length) [.gone,.row 3 1 (List.map D.i r) .no]:=by
 refine oK Tryz.f219 ⟨rfl,?_⟩;unfold Bz at h;refine⟨a0.length,Bi,?_⟩;refine goC ?_;refine AT h ?_ ?_<;>intro h
 ·(conv=>whnf);refine .inr ?_;exact fin h
 refine AM h (fun _=>⟨yO 0 D.i a0::dd 60 ([]),yR 3 1 D.i a0::nn 61 ([])⟩) ?_ ?_
 ·intro _ h;revert h;refine AZ (fun v2=>⟨yO 0 D.i a0::X::X::yi v2::dd 57 ([]),yR 3 1 D.i a0::nn 61 ([])⟩) ?_ ?_
  ·exact wk
  rintro _ v2 _ h p5;refine⟨a0.length,Bi,?_⟩;refine goC ?_;refine AW h fun h=>?_;refine AM h (fun _=>⟨yO 0 D.i a0::X::X::yi v2::dd 57 ([]),yR 3 1 D.i a0::nn 61 ([])⟩) ?_ ?_
  ·intro _ h;refine .inl (dO ?_);obtain⟨v7,g8,h⟩:=AH h;refine⟨rfl,BM (f:=D.i) g8,?_⟩;refine⟨rfl,D.i v7,(BW (f:=D.i) g8),?_⟩;refine⟨_,rfl,?_⟩;obtain⟨v9,g10,h⟩:=AH h;refine⟨rfl,BM (f:=D.i) g10,?_⟩;refine⟨rfl,D.i v9,(BW (f:=D.i) g10),?_⟩;refine cO ?_;refine goC ?_;refine AW h fun h=>?_;(conv=>whnf);refine .inr (.inl ?_);obtain⟨_,g11,h⟩:=AH h;have g56c:=Ce g11;refine⟨Gx (f:=D.i) g11,rfl,(Int.toNat v2),(Int.toNat (a0.length:Int)-Int.toNat v2),rfl,(by rw[X10]),?_⟩;refine AM h (fun (v12,v13)=>⟨yO 0 D.i v13::X::X::yi v12::dd 57 ([]),yR 3 1 D.i v13::nn 61 ([])⟩) ?_ ?_
   ·intro _ h;revert h;refine AZ (fun (v15,v16,v17)=>⟨yO 0 D.i v17::X::X::yi v15::AV.osl 0 (Int.toNat v2) (Int.toNat (a0.length:Int)-Int.toNat v2) (List.map D.i v17).length::yi v16::dd 55 ([]),yR 3 1 D.i v17::nn 61 ([])⟩) ?_ ?_
    ·exact wk
    rintro _ ⟨v15,v16,v17⟩ _ h p20;refine⟨(Int.toNat (a0.length:Int)-Int.toNat v2),rfl,?_⟩;refine goC ?_;refine AW h fun h=>?_;refine goC ?_;refine .inl (dO ?_);obtain⟨v21,g22,h⟩:=AH h;refine⟨Bi,Ja g22,_,rfl,?_⟩;refine⟨rfl,D.i v21,(JV (f:=D.i) g22),?_⟩;refine⟨_,rfl,?_⟩;obtain⟨v23,g24,h⟩:=AH h;refine⟨Bi,Ja g24,_,rfl,?_⟩;refine⟨rfl,D.i v23,(JV (f:=D.i) g24),?_⟩;refine cO ?_;refine AM h (fun (v25,v26)=>⟨yO 0 D.i v26::X::X::yi v25::AV.osl 0 (Int.toNat v2) (Int.toNat (a0.length:Int)-Int.toNat v2) (List.map D.i v26).length::yi v16::dd 55 ([]),yR 3 1 D.i v26::nn 61 ([])⟩) ?_ ?_
    ·intro _ h;refine AW h fun h=>?_;obtain⟨v28,g29,h⟩:=AH h;refine⟨Bi,Ja g29,_,rfl,?_⟩;refine⟨rfl,D.i v28,(JV (f:=D.i) g29),?_⟩;obtain⟨v30,g31,h⟩:=AH h;refine⟨rfl,BM (f:=D.i) g31,?_⟩;obtain⟨v32,g33,h⟩:=AH h;have g33l:=G8 g33;refine⟨rfl,rfl,D.i v30,(BW (f:=D.i) g31),?_⟩;refine⟨_,KE (f:=D.i) g33,?_⟩;refine⟨_,rfl,?_⟩;exact AN h
    rintro⟨v25,v26⟩ h;refine⟨_,rfl,?_⟩;exact p20 _ _ wk h
   rintro⟨v12,v13⟩ h;(conv=>whnf);refine .inr (.inl ?_);obtain⟨_,g34,h⟩:=AH h;have g96c:=Ce g34;refine⟨Gx (f:=D.i) g34,rfl,(Int.toNat v12),(Int.toNat (v13.length:Int)-Int.toNat v12),rfl,(by rw[X10]),?_⟩;refine⟨Bi,D.i 0,rfl,List.map D.i (List.take (Int.toNat v12) v13++List.replicate (Int.toNat (v13.length:Int)-Int.toNat v12) 0++List.drop ((Int.toNat v12)+(Int.toNat (v13.length:Int)-Int.toNat v12)) v13),UH,?_⟩;(conv=>whnf);refine .inr (.inr ?_);obtain⟨v35,g36,h⟩:=AH h;refine⟨RU (f:=D.i) g36,Bi,_,MJ (f:=D.i) g36,?_⟩;(conv=>whnf);refine .inl ?_;(conv=>whnf);refine .inr ?_;exact fin h
  rintro _ h;refine⟨_,rfl,?_⟩;exact p5 _ _ wk h
 rintro _ h;(conv=>whnf);refine .inr ?_;exact fin h
theorem F8 {a0:List UInt8}{r:Addr×Int}(h:BF a0=some r):yC wl 145 [AV.d (D.l 1 D.u8 a0)] [] (.tup [.d (Addr.toD r.1),.d (D.i r.2)]) []:=by
 refine oK Tryz.f145 ⟨rfl,?_⟩;unfold BF at h;refine AM h (fun v1=>⟨y3 a0::X::yr 2 0::dd 11 (yb v1::dd 28 ([])),N::N::yB Addr.zv::nn 40 ([])⟩) ?_ ?_
 ·intro _ h;refine⟨a0.length,X10 _,?_⟩;refine AW h fun h=>?_;refine⟨a0.length,X10 _,?_⟩;exact AN h
 rintro v1 h;refine goC ?_;refine AT h ?_ ?_<;>intro h
 ·exact fin h
 refine⟨a0.length,X10 _,?_⟩;refine⟨a0.length,X10 _,?_⟩;refine AM h (fun v3=>⟨X::X::yr 2 0::X::yr 4 0::dd 38 ([]),bk v3⟩) ?_ ?_
 ·intro _ h;revert h;refine Aa 20 1 D.u8 rfl (fun i5 v6=>⟨X::X::yr 2 0::X::yr 4 0::dd 15 (y3 a0::yi (a0.length:Int)::yi (i5:Int)::dd 20 ([])),bk v6⟩) ?_ ?_ ?_
  ·exact wk
  ·rintro v6 K7 h;refine goC ?_;refine BI CX ?_;exact AN h
  rintro _ i5 x9 v6 K7 b5 c5 e5 h p10;refine goC ?_;refine BB (CO b5) ?_;refine goC ?_;refine⟨BD (f:=D.u8) b5,D.u8 x9,c5,rfl,?_⟩;refine⟨by decide,_,Aw _,?_⟩;refine⟨by decide,_,N4 v6.Lo _,?_⟩;refine⟨_,Aw _,?_⟩;refine⟨by decide,_,Aw _,?_⟩;refine⟨_,Aw _,?_⟩;refine⟨_,Aw _,?_⟩;refine⟨_,e5,?_⟩;exact p10 _ _ wk h
 rintro v3 h;exact fin h
theorem ED {a0:List JAB}{r:(List JAB)}(h:Ax a0=some r):yC wl 226 [AV.own 0 (List.map JAB.toD a0).length] [.row 137 2 (List.map JAB.toD a0) .no] (AV.own 1 (List.map JAB.toD r).length) [.gone,.row 137 2 (List.map JAB.toD r) .no]:=by
 refine oK Tryz.f226 ⟨rfl,?_⟩;unfold Ax at h;refine⟨a0.length,Bi,?_⟩;refine goC ?_;refine AT h ?_ ?_<;>intro h
 ·(conv=>whnf);refine .inr ?_;exact fin h
 refine AM h (fun _=>⟨yO 0 JAB.toD a0::dd 60 ([]),ZF a0⟩) ?_ ?_
 ·intro _ h;revert h;refine AZ (fun v2=>⟨yO 0 JAB.toD a0::X::X::yi v2::dd 57 ([]),ZF a0⟩) ?_ ?_
  ·exact wk
  rintro _ v2 _ h p5;refine⟨a0.length,Bi,?_⟩;refine goC ?_;refine AW h fun h=>?_;refine AM h (fun _=>⟨yO 0 JAB.toD a0::X::X::yi v2::dd 57 ([]),ZF a0⟩) ?_ ?_
  ·intro _ h;refine .inl (dO ?_);obtain⟨v7,g8,h⟩:=AH h;refine⟨rfl,BM (f:=JAB.toD) g8,?_⟩;refine⟨rfl,JAB.toD v7,(BW (f:=JAB.toD) g8),?_⟩;refine⟨_,rfl,?_⟩;obtain⟨v9,g10,h⟩:=AH h;refine⟨rfl,BM (f:=JAB.toD) g10,?_⟩;refine⟨rfl,JAB.toD v9,(BW (f:=JAB.toD) g10),?_⟩;refine cO ?_;refine goC ?_;refine AW h fun h=>?_;(conv=>whnf);refine .inr (.inl ?_);obtain⟨_,g11,h⟩:=AH h;have g56c:=Ce g11;refine⟨Gx (f:=JAB.toD) g11,rfl,(Int.toNat v2),(Int.toNat (a0.length:Int)-Int.toNat v2),rfl,(by rw[X10]),?_⟩;refine AM h (fun (v12,v13)=>⟨yO 0 JAB.toD v13::X::X::yi v12::dd 57 ([]),ZF v13⟩) ?_ ?_
   ·intro _ h;revert h;refine AZ (fun (v15,v16,v17)=>⟨yO 0 JAB.toD v17::X::X::yi v15::AV.osl 0 (Int.toNat v2) (Int.toNat (a0.length:Int)-Int.toNat v2) (List.map JAB.toD v17).length::yi v16::dd 55 ([]),ZF v17⟩) ?_ ?_
    ·exact wk
    rintro _ ⟨v15,v16,v17⟩ _ h p20;refine⟨(Int.toNat (a0.length:Int)-Int.toNat v2),rfl,?_⟩;refine goC ?_;refine AW h fun h=>?_;refine goC ?_;refine .inl (dO ?_);obtain⟨v21,g22,h⟩:=AH h;refine⟨Bi,Ja g22,_,rfl,?_⟩;refine⟨rfl,JAB.toD v21,(JV (f:=JAB.toD) g22),?_⟩;refine⟨_,rfl,?_⟩;obtain⟨v23,g24,h⟩:=AH h;refine⟨Bi,Ja g24,_,rfl,?_⟩;refine⟨rfl,JAB.toD v23,(JV (f:=JAB.toD) g24),?_⟩;refine cO ?_;refine AM h (fun (v25,v26)=>⟨yO 0 JAB.toD v26::X::X::yi v25::AV.osl 0 (Int.toNat v2) (Int.toNat (a0.length:Int)-Int.toNat v2) (List.map JAB.toD v26).length::yi v16::dd 55 ([]),ZF v26⟩) ?_ ?_
    ·intro _ h;refine AW h fun h=>?_;obtain⟨v28,g29,h⟩:=AH h;refine⟨Bi,Ja g29,_,rfl,?_⟩;refine⟨rfl,JAB.toD v28,(JV (f:=JAB.toD) g29),?_⟩;obtain⟨v30,g31,h⟩:=AH h;refine⟨rfl,BM (f:=JAB.toD) g31,?_⟩;obtain⟨v32,g33,h⟩:=AH h;have g33l:=G8 g33;refine⟨rfl,rfl,JAB.toD v30,(BW (f:=JAB.toD) g31),?_⟩;refine⟨_,KE (f:=JAB.toD) g33,?_⟩;refine⟨_,rfl,?_⟩;exact AN h
    rintro⟨v25,v26⟩ h;refine⟨_,rfl,?_⟩;exact p20 _ _ wk h
   rintro⟨v12,v13⟩ h;(conv=>whnf);refine .inr (.inl ?_);obtain⟨_,g34,h⟩:=AH h;have g96c:=Ce g34;refine⟨Gx (f:=JAB.toD) g34,rfl,(Int.toNat v12),(Int.toNat (v13.length:Int)-Int.toNat v12),rfl,(by rw[X10]),?_⟩;refine⟨Bi,JAB.toD (⟨0,0⟩:JAB),rfl,List.map JAB.toD (List.take (Int.toNat v12) v13++List.replicate (Int.toNat (v13.length:Int)-Int.toNat v12) (⟨0,0⟩:JAB)++List.drop ((Int.toNat v12)+(Int.toNat (v13.length:Int)-Int.toNat v12)) v13),UH,?_⟩;(conv=>whnf);refine .inr (.inr ?_);obtain⟨v35,g36,h⟩:=AH h;refine⟨RU (f:=JAB.toD) g36,Bi,_,MJ (f:=JAB.toD) g36,?_⟩;(conv=>whnf);refine .inl ?_;(conv=>whnf);refine .inr ?_;exact fin h
  rintro _ h;refine⟨_,rfl,?_⟩;exact p5 _ _ wk h
 rintro _ h;(conv=>whnf);refine .inr ?_;exact fin h
theorem GU {a0:JAB}{a1:JAB}{r:Int}(h:Bg a0 a1=some r):yC wl 221 [AV.d (JAB.toD a0),AV.d (JAB.toD a1)] [] (.d (D.i r)) []:=by
 refine oK Tryz.f221 ⟨rfl,?_⟩;unfold Bg at h;refine .inl (dO ?_);refine Ap h (fun _=>A3) (fun _=>rfl) fun _ h=>?_;refine Ap h (fun _=>A3) (fun _=>rfl) fun _ h=>?_;refine⟨rfl,?_⟩;refine Ap h (fun _=>Gy) (fun _=>rfl) fun _ h=>?_;refine cO ?_;exact fin h
theorem E5 {a0:List JAF}{r:(List JAF)}(h:BC a0=some r):yC wl 228 [AV.own 0 (List.map JAF.toD a0).length] [.row 141 3 (List.map JAF.toD a0) .no] (AV.own 1 (List.map JAF.toD r).length) [.gone,.row 141 3 (List.map JAF.toD r) .no]:=by
 refine oK Tryz.f228 ⟨rfl,?_⟩;unfold BC at h;refine⟨a0.length,Bi,?_⟩;refine goC ?_;refine AT h ?_ ?_<;>intro h
 ·(conv=>whnf);refine .inr ?_;exact fin h
 refine AM h (fun _=>⟨yO 0 JAF.toD a0::dd 60 ([]),Yn a0⟩) ?_ ?_
 ·intro _ h;revert h;refine AZ (fun v2=>⟨yO 0 JAF.toD a0::X::X::yi v2::dd 57 ([]),Yn a0⟩) ?_ ?_
  ·exact wk
  rintro _ v2 _ h p5;refine⟨a0.length,Bi,?_⟩;refine goC ?_;refine AW h fun h=>?_;refine AM h (fun _=>⟨yO 0 JAF.toD a0::X::X::yi v2::dd 57 ([]),Yn a0⟩) ?_ ?_
  ·intro _ h;refine .inl (dO ?_);obtain⟨v7,g8,h⟩:=AH h;refine⟨rfl,BM (f:=JAF.toD) g8,?_⟩;refine⟨rfl,JAF.toD v7,(BW (f:=JAF.toD) g8),?_⟩;refine⟨_,rfl,?_⟩;obtain⟨v9,g10,h⟩:=AH h;refine⟨rfl,BM (f:=JAF.toD) g10,?_⟩;refine⟨rfl,JAF.toD v9,(BW (f:=JAF.toD) g10),?_⟩;refine cO ?_;refine goC ?_;refine AW h fun h=>?_;(conv=>whnf);refine .inr (.inl ?_);obtain⟨_,g11,h⟩:=AH h;have g56c:=Ce g11;refine⟨Gx (f:=JAF.toD) g11,rfl,(Int.toNat v2),(Int.toNat (a0.length:Int)-Int.toNat v2),rfl,(by rw[X10]),?_⟩;refine AM h (fun (v12,v13)=>⟨yO 0 JAF.toD v13::X::X::yi v12::dd 57 ([]),Yn v13⟩) ?_ ?_
   ·intro _ h;revert h;refine AZ (fun (v15,v16,v17)=>⟨yO 0 JAF.toD v17::X::X::yi v15::AV.osl 0 (Int.toNat v2) (Int.toNat (a0.length:Int)-Int.toNat v2) (List.map JAF.toD v17).length::yi v16::dd 55 ([]),Yn v17⟩) ?_ ?_
    ·exact wk
    rintro _ ⟨v15,v16,v17⟩ _ h p20;refine⟨(Int.toNat (a0.length:Int)-Int.toNat v2),rfl,?_⟩;refine goC ?_;refine AW h fun h=>?_;refine goC ?_;refine .inl (dO ?_);obtain⟨v21,g22,h⟩:=AH h;refine⟨Bi,Ja g22,_,rfl,?_⟩;refine⟨rfl,JAF.toD v21,(JV (f:=JAF.toD) g22),?_⟩;refine⟨_,rfl,?_⟩;obtain⟨v23,g24,h⟩:=AH h;refine⟨Bi,Ja g24,_,rfl,?_⟩;refine⟨rfl,JAF.toD v23,(JV (f:=JAF.toD) g24),?_⟩;refine cO ?_;refine AM h (fun (v25,v26)=>⟨yO 0 JAF.toD v26::X::X::yi v25::AV.osl 0 (Int.toNat v2) (Int.toNat (a0.length:Int)-Int.toNat v2) (List.map JAF.toD v26).length::yi v16::dd 55 ([]),Yn v26⟩) ?_ ?_
    ·intro _ h;refine AW h fun h=>?_;obtain⟨v28,g29,h⟩:=AH h;refine⟨Bi,Ja g29,_,rfl,?_⟩;refine⟨rfl,JAF.toD v28,(JV (f:=JAF.toD) g29),?_⟩;obtain⟨v30,g31,h⟩:=AH h;refine⟨rfl,BM (f:=JAF.toD) g31,?_⟩;obtain⟨v32,g33,h⟩:=AH h;have g33l:=G8 g33;refine⟨rfl,rfl,JAF.toD v30,(BW (f:=JAF.toD) g31),?_⟩;refine⟨_,KE (f:=JAF.toD) g33,?_⟩;refine⟨_,rfl,?_⟩;exact AN h
    rintro⟨v25,v26⟩ h;refine⟨_,rfl,?_⟩;exact p20 _ _ wk h
   rintro⟨v12,v13⟩ h;(conv=>whnf);refine .inr (.inl ?_);obtain⟨_,g34,h⟩:=AH h;have g96c:=Ce g34;refine⟨Gx (f:=JAF.toD) g34,rfl,(Int.toNat v12),(Int.toNat (v13.length:Int)-Int.toNat v12),rfl,(by rw[X10]),?_⟩;refine⟨Bi,JAF.toD (⟨0,0,0⟩:JAF),rfl,List.map JAF.toD (List.take (Int.toNat v12) v13++List.replicate (Int.toNat (v13.length:Int)-Int.toNat v12) (⟨0,0,0⟩:JAF)++List.drop ((Int.toNat v12)+(Int.toNat (v13.length:Int)-Int.toNat v12)) v13),UH,?_⟩;(conv=>whnf);refine .inr (.inr ?_);obtain⟨v35,g36,h⟩:=AH h;refine⟨RU (f:=JAF.toD) g36,Bi,_,MJ (f:=JAF.toD) g36,?_⟩;(conv=>whnf);refine .inl ?_;(conv=>whnf);refine .inr ?_;exact fin h
  rintro _ h;refine⟨_,rfl,?_⟩;exact p5 _ _ wk h
 rintro _ h;(conv=>whnf);refine .inr ?_;exact fin h
theorem Io {a0:JAF}{a1:JAF}{r:Int}(h:Ci a0 a1=some r):yC wl 223 [AV.d (JAF.toD a0),AV.d (JAF.toD a1)] [] (.d (D.i r)) []:=by
 refine oK Tryz.f223 ⟨rfl,?_⟩;unfold Ci at h;refine .inl (dO ?_);refine Ap h (fun _=>A3) (fun _=>rfl) fun _ h=>?_;refine Ap h (fun _=>A3) (fun _=>rfl) fun _ h=>?_;refine Ap h (fun _=>A3) (fun _=>rfl) fun _ h=>?_;refine⟨rfl,?_⟩;refine Ap h (fun _=>Gy) (fun _=>rfl) fun _ h=>?_;refine cO ?_;exact fin h
theorem La {a0:JAA}{a1:JAA}{r:Int}(h:Di a0 a1=some r):yC wl 121 [AV.d (JAA.toD a0),AV.d (JAA.toD a1)] [] (.d (D.i r)) []:=by
 refine oK Tryz.f121 ⟨rfl,?_⟩;unfold Di at h;refine AL h (fun _=>A3) fun _ h=>?_;exact fin h
theorem Cd {a0:List JAA}{r:Int}(h:A2 a0=some r):yC wl 147 [AV.d (D.l 3 JAA.toD a0),AV.fn 115 []] [] (.d (D.i r)) []:=by
 refine oK Tryz.f147 ⟨rfl,?_⟩;unfold A2 at h;refine⟨a0.length,X10 _,?_⟩;refine AM h (fun _=>⟨dd 19 ([]),nn 19 ([])⟩) ?_ ?_
 ·intro _ h;revert h;refine Aa 6 3 JAA.toD rfl (fun i2 _=>⟨y4 a0::AV.fn 115 []::dd 4 (y4 a0::yi (a0.length:Int)::yi (i2:Int)::dd 10 ([])),nn 19 ([])⟩) ?_ ?_ ?_
  ·exact wk
  ·rintro _ K3 h;refine goC ?_;refine BI CX ?_;exact AN h
  rintro _ i2 x5 _ K3 b2 c2 e2 h p6;refine goC ?_;refine BB (CO b2) ?_;refine goC ?_;refine⟨BD (f:=JAA.toD) b2,JAA.toD x5,c2,rfl,?_⟩;refine AL h (fun _=>Lc) fun _ h=>?_;refine goC ?_;refine AT h ?_ ?_<;>intro h
  ·exact fin h
  refine⟨_,e2,?_⟩;exact p6 _ _ wk h
 rintro _ h;exact fin h
theorem CV {a0:List JAA}{r:Bool}(h:Aj a0=some r):yC wl 114 [AV.d (D.l 3 JAA.toD a0),AV.fn 115 []] [] (.d (D.b r)) []:=by
 refine oK Tryz.f114 ⟨rfl,?_⟩;unfold Aj at h;refine AL h (fun _=>Cd) fun _ h=>?_;exact fin h
theorem IM {a0:List JAA}{r:JAE×Int}(h:EE a0=some r):yC wl 61 [AV.d (D.l 3 JAA.toD a0)] [] (.tup [.d (JAE.toD r.1),.d (D.i r.2)]) []:=by
 refine oKx 166 Tryz.f61 ⟨rfl,?_⟩;unfold EE at h;refine AL h (fun _=>Ld) fun v1 h=>?_;refine AL h (fun _=>CV) fun _ h=>?_;refine goC ?_;refine AT h ?_ ?_<;>intro h
 ·exact fin h
 refine AM h (fun (v5,v6,v7,v8,v9,v10,v11,v12,v13,v14,v15)=>⟨y4 v1::X::yr 2 0::dd 12 (AV.tup [AV.agg [yi v5,yO 64 JAD.toD v13,yb v6,yu v7,yu v8,yi v9,yi v10,yi v11,yO 65 JAB.toD v14,yO 67 JAF.toD v15,AV.d (D.nil 3)],yb v12]::dd 52 ([])),N::N::yB JAE.zv::nn 61 (yR 132 2 JAD.toD v13::yR 137 2 JAB.toD v14::N::yR 141 3 JAF.toD v15::nn 166 ([]))⟩) ?_ ?_
 ·intro _ h;(conv=>whnf);refine inl Tryz.f117 68 (by kernel_rfl) (by kernel_rfl) ⟨rfl,?_⟩;refine AM h (fun _=>⟨y4 v1::X::yr 70 0::dd 6 (AV.d (D.agg [D.i (-1),D.nil 2,D.b false,D.u64 (0:UInt64),D.u64 (0:UInt64),D.i (-1),D.i (-1),D.i (-1),D.nil 2,D.nil 3,D.nil 3])::dd 29 ([])),N::N::yB JAE.zv::nn 67 (yB JAE.zv::nn 163 ([]))⟩) ?_ ?_
  ·intro _ h;(conv=>whnf);refine inl Tryz.f60 107 (by kernel_rfl) (by kernel_rfl) ⟨rfl,?_⟩;exact AN h
  rintro _ h;refine⟨v1.length,X10 _,?_⟩;refine AM h (fun (v18,v19,v20,v21,v22,v23,v24,v25,v26,v27)=>⟨X::X::yr 70 0::X::yr 72 0::dd 34 ([]),zS8 v18 v19 v20 v21 v22 v23 v24 v25 v26 v27⟩) ?_ ?_
  ·intro _ h;revert h;refine Aa 10 3 JAA.toD rfl (fun i29 (v30,v31,v32,v33,v34,v35,v36,v37,v38,v39)=>⟨X::X::yr 70 0::X::yr 72 0::dd 5 (y4 v1::yi (v1.length:Int)::yi (i29:Int)::dd 26 ([])),zS8 v30 v31 v32 v33 v34 v35 v36 v37 v38 v39⟩) ?_ ?_ ?_
   ·exact wk
   ·rintro⟨v30,v31,v32,v33,v34,v35,v36,v37,v38,v39⟩ K40 h;refine goC ?_;refine BI CX ?_;exact AN h
   rintro _ i29 x42 ⟨v30,v31,v32,v33,v34,v35,v36,v37,v38,v39⟩ K40 b29 c29 e29 h p43;delta Ed at h;refine goC ?_;refine BB (CO b29) ?_;refine AM h (fun (v44,v45,v46,v47,v48,v49,v50,v51,v52,v53)=>⟨X::X::yr 70 0::X::yr 72 0::dd 5 (y4 v1::yi (v1.length:Int)::yi (i29:Int)::dd 26 ([])),zS8 v44 v45 v46 v47 v48 v49 v50 v51 v52 v53⟩) ?_ ?_
   ·intro _ h;refine⟨BD (f:=JAA.toD) b29,JAA.toD x42,c29,rfl,?_⟩;(conv=>whnf);by_cases g55:(x42.Type_==1)=true
    ·replace h:=PO g55 h;refine⟨_,(G2 g55),_,rfl,_,rfl,?_⟩;refine AM h (fun (v56,v57)=>⟨Wv (v1.length:Int) (i29:Int) v56 v1,zS8 v57 v31 v32 v33 v34 v35 v36 v37 v38 v39⟩) ?_ ?_
     ·intro _ h;refine AL h (fun _=>Bt) fun _ h=>?_;refine An h fun h=>?_;refine AM h (fun (v61,v62)=>⟨Wm (v1.length:Int) (i29:Int) true false v61 v1,zS8 v62 v31 v32 v33 v34 v35 v36 v37 v38 v39⟩) ?_ ?_
      ·intro _ h;(conv=>whnf);refine inl Tryz.f208 107 (by kernel_rfl) (by kernel_rfl) ⟨rfl,?_⟩;refine AL h (fun _=>C3) fun v64 h=>?_;refine AM h (fun v66=>⟨dd 4 (yb v66::dd 15 ([])),ZO v64 v31 v32 v33 v34 v35 v36 v37 v38 v39 x42⟩) ?_ ?_
       ·intro _ h;refine⟨x42.Data.length,X10 _,?_⟩;exact selC h
       rintro v66 h;exact AN h
      rintro⟨v61,v62⟩ h;exact AN h
     rintro⟨v56,v57⟩ h;refine goC ?_;refine AT h ?_ ?_<;>intro h<;>exact AN h
    replace h:=PE g55 h;by_cases g68:(x42.Type_==2)=true
    ·replace h:=PO g68 h;refine⟨_,(Ar g55 (G2 g68)),_,rfl,_,rfl,?_⟩;refine AM h (fun (v69,v70)=>⟨Wv (v1.length:Int) (i29:Int) v69 v1,zS8 v30 v31 v32 v33 v34 v35 v36 v70 v38 v39⟩) ?_ ?_
     ·intro _ h;refine AL h (fun _=>Bt) fun _ h=>?_;refine An h fun h=>?_;refine AM h (fun (v74,v75)=>⟨Wm (v1.length:Int) (i29:Int) true false v74 v1,zS8 v30 v31 v32 v33 v34 v35 v36 v75 v38 v39⟩) ?_ ?_
      ·intro _ h;(conv=>whnf);refine inl Tryz.f209 107 (by kernel_rfl) (by kernel_rfl) ⟨rfl,?_⟩;refine AM h (fun v77=>⟨yr 72 0::dd 126 ([]),ZO v30 v31 v32 v33 v34 v35 v36 v77 v38 v39 x42⟩) ?_ ?_
       ·intro _ h;obtain⟨_,g79,h⟩:=AH h;have g79l:(List.map JAD.toD v37).length=0:=(by rw[Ce g79];rfl);revert h;refine AZ (fun (v80,v81,v82,v83)=>⟨yr 72 0::y3 v80::dd 125 ([]),N::N::yB JAE.zv::nn 67 (yB JAE.zv::N::zS0 v30 v31 v32 v33 v34 v35 v36 v81 v38 v39::N::yB (JAA.av x42)::nn 29 (yR 141 3 JAF.toD v39::yR 137 2 JAB.toD v38::some (OB.row 132 2 (List.map JAD.toD v81) (.lk v82 1 232 (List.map D.i v83).length))::nn 125 (some (OB.row 3 1 (List.map D.i v83) .yes)::N::[])))⟩) ?_ ?_
        ·exact wk
        rintro _ ⟨v80,v81,v82,v83⟩ _ h p86;refine⟨v80.length,X10 _,?_⟩;refine goC ?_;refine AW h fun h=>?_;refine goC ?_;refine AM h (fun v87=>⟨yr 72 0::y3 v80::dd 40 (yb v87::dd 84 ([])),N::N::yB JAE.zv::nn 67 (yB JAE.zv::N::zS0 v30 v31 v32 v33 v34 v35 v36 v81 v38 v39::N::yB (JAA.av x42)::nn 29 (yR 141 3 JAF.toD v39::yR 137 2 JAB.toD v38::some (OB.row 132 2 (List.map JAD.toD v81) (.lk v82 1 232 (List.map D.i v83).length))::nn 125 (some (OB.row 3 1 (List.map D.i v83) .yes)::N::[])))⟩) ?_ ?_
        ·intro _ h;refine⟨v80.length,X10 _,?_⟩;refine An h fun h=>?_;(conv=>whnf);refine Av h (fun _=>rfl) fun _ h=>?_;refine AT h ?_ ?_<;>intro h
         ·(conv=>whnf);refine Av h (fun _=>rfl) fun _ h=>?_;refine An h fun h=>?_;refine⟨v80.length,X10 _,?_⟩;(conv=>whnf);refine Av h (fun _=>rfl) fun v93 h=>?_;refine⟨_,BG v93,?_⟩;refine⟨_,rfl,?_⟩;refine⟨_,rfl,?_⟩;refine An h fun h=>?_;(conv=>whnf);refine Av h (fun _=>rfl) fun _ h=>?_;exact AN h
         refine⟨v80.length,X10 _,?_⟩;(conv=>whnf);refine Av h (fun _=>rfl) fun v97 h=>?_;refine⟨_,BG v97,?_⟩;refine⟨_,rfl,?_⟩;refine⟨_,rfl,?_⟩;refine An h fun h=>?_;(conv=>whnf);refine Av h (fun _=>rfl) fun _ h=>?_;exact AN h
        rintro v87 h;refine goC ?_;refine AT h ?_ ?_<;>intro h
        ·exact BH (.swap 232 103 rfl rfl rfl wk) h
        (conv=>whnf);refine Av h (fun _=>rfl) fun v101 h=>?_;refine⟨_,BG v101,?_⟩;refine⟨_,rfl,?_⟩;refine⟨_,rfl,?_⟩;refine .inl (dO ?_);(conv=>whnf);refine Av h (fun _=>rfl) fun v103 h=>?_;(conv=>whnf);refine Eb (f:=D.u8) h fun _ h=>?_;refine X7 h (fun _=>E0) rfl fun v107 h=>?_;refine cO ?_;(conv=>whnf);refine Hu (f:=D.u8) h fun v109 h=>?_;refine AM h (fun v111=>⟨yr 72 0::y3 v109::dd 4 (yr 113 0::dd 120 ([])),N::N::yB JAE.zv::nn 67 (yB JAE.zv::N::zS0 v30 v31 v32 v33 v34 v35 v36 v81 v38 v39::N::yB (JAA.av x42)::nn 29 (yR 141 3 JAF.toD v39::yR 137 2 JAB.toD v38::some (OB.row 132 2 (List.map JAD.toD v81) (.lk v82 1 232 (List.map D.i v83).length))::nn 6 (yB [yb ((v103.toNat:Int)==1),yO 175 D.i v111]::nn 61 (yR 3 1 D.i v111::nn 56 (some (OB.row 3 1 (List.map D.i v83) .yes)::N::[])))))⟩) ?_ ?_
        ·intro _ h;refine AT h ?_ ?_<;>intro h
         ·obtain⟨v113,g114,h⟩:=AH h;have g114l:=Yx g114;refine⟨_,_,some [],VY g114,?_⟩;obtain⟨v115,g116,h⟩:=AH h;have g117:(List.map D.i v113).length=(List.map D.i v107).length:=(by first | rfl | (simp only[X10,X21];omega)|(simp only[cpy,X10,X21,X11,X18,X17,X20];omega)|(simp only[X10] at *;omega));refine⟨_,_,some [175],(g117 ▸ IF g116),?_⟩;exact AN h
         exact BH (.swap 163 175 rfl rfl rfl wk) h
        rintro v111 h;refine⟨v81.length,Bi,?_⟩;refine⟨_,rfl,?_⟩;refine AM h (fun v118=>⟨yr 72 0::y3 v109::dd 4 (yr 113 0::yi (AD ((v81.length:Int)-1))::dd 85 (yb v118::dd 33 ([]))),N::N::yB JAE.zv::nn 67 (yB JAE.zv::N::zS0 v30 v31 v32 v33 v34 v35 v36 v81 v38 v39::N::yB (JAA.av x42)::nn 29 (yR 141 3 JAF.toD v39::yR 137 2 JAB.toD v38::some (OB.row 132 2 (List.map JAD.toD v81) (.lk v82 1 232 (List.map D.i v83).length))::nn 6 (yB [yb ((v103.toNat:Int)==1),yO 175 D.i v111]::nn 61 (yR 3 1 D.i v111::nn 56 (some (OB.row 3 1 (List.map D.i v83) .yes)::N::[])))))⟩) ?_ ?_
        ·intro _ h;refine AW h fun h=>?_;refine AW h fun h=>?_;obtain⟨v120,g121,h⟩:=AH h;refine⟨rfl,BM (f:=JAD.toD) g121,?_⟩;refine⟨rfl,?_⟩;(conv=>whnf);refine .inl ?_;refine⟨rfl,JAD.toD v120,(BW (f:=JAD.toD) g121),?_⟩;exact AN h
        rintro v118 h;refine AM h (fun (v122,v123,v124)=>⟨yr 72 0::y3 v109::dd 125 ([]),N::N::yB JAE.zv::nn 67 (yB JAE.zv::N::zS0 v30 v31 v32 v33 v34 v35 v36 v122 v38 v39::N::yB (JAA.av x42)::nn 29 (yR 141 3 JAF.toD v39::yR 137 2 JAB.toD v38::some (OB.row 132 2 (List.map JAD.toD v122) (.lk v123 1 232 (List.map D.i v124).length))::nn 125 (some (OB.row 3 1 (List.map D.i v124) .yes)::N::[])))⟩) ?_ ?_
        ·intro _ h;refine AT h ?_ ?_<;>intro h
         ·refine .inl (dO ?_);obtain⟨v126,g127,h⟩:=AH h;refine⟨rfl,BM (f:=JAD.toD) g127,?_⟩;refine⟨rfl,?_⟩;obtain⟨_,g128,h⟩:=AH h;refine .inr ⟨rfl,Ce g128,rfl,(Xr (f:=JAD.toD) g127),by decide,rfl,?_⟩;refine⟨rfl,?_⟩;refine apO h rfl fun _ h=>?_;obtain⟨v131,g132,h⟩:=AH h;refine⟨rfl,BM (f:=JAD.toD) g132,?_⟩;refine⟨rfl,?_⟩;obtain⟨v133,g134,h⟩:=AH h;have g134l:=G8 g134;refine⟨rfl,?_⟩;refine⟨rfl,rfl,JAD.toD v131,(BW (f:=JAD.toD) g132),?_⟩;refine⟨_,KE (f:=JAD.toD) g134,?_⟩;refine cO ?_;exact AN h
         refine .inl (dO ?_);(conv=>whnf);refine .inr (.inr ?_);refine⟨1,175,_,rfl,?_⟩;refine⟨rfl,?_⟩;refine⟨rfl,?_⟩;refine apO h rfl fun _ h=>?_;refine⟨rfl,?_⟩;refine cO ?_;exact BH (.swap 175 232 rfl rfl rfl wk) h
        rintro⟨v122,v123,v124⟩ h;exact p86 _ _ wk h
       rintro v77 h;refine⟨rfl,?_⟩;refine HS h (fun _=>Jx) fun _ h=>?_;exact AN h
      rintro⟨v74,v75⟩ h;exact AN h
     rintro⟨v69,v70⟩ h;refine goC ?_;refine AT h ?_ ?_<;>intro h<;>exact AN h
    replace h:=PE g68 h;by_cases g139:(x42.Type_==3)=true
    ·replace h:=PO g139 h;refine⟨_,(Ar g55 (Ar g68 (G2 g139))),_,rfl,_,rfl,?_⟩;refine AM h (fun (v140,v141,v142,v143)=>⟨Wv (v1.length:Int) (i29:Int) v140 v1,zS8 v30 v141 v142 v143 v34 v35 v36 v37 v38 v39⟩) ?_ ?_
     ·intro _ h;refine AL h (fun _=>Bt) fun _ h=>?_;refine An h fun h=>?_;refine AM h (fun (v147,v148,v149)=>⟨Wm (v1.length:Int) (i29:Int) true false ((x42.Data.length:Int)==4) v1,zS8 v30 v147 v148 v149 v34 v35 v36 v37 v38 v39⟩) ?_ ?_
      ·intro _ h;(conv=>whnf);refine inl Tryz.f210 107 (by kernel_rfl) (by kernel_rfl) ⟨rfl,?_⟩;refine AL h (fun _=>F8) ?_;rintro⟨_,_⟩ h;refine⟨x42.Data.length,X10 _,?_⟩;exact AN h
      rintro⟨v147,v148,v149⟩ h;exact AN h
     rintro⟨v140,v141,v142,v143⟩ h;refine goC ?_;refine AT h ?_ ?_<;>intro h<;>exact AN h
    replace h:=PE g139 h;by_cases g154:(x42.Type_==4)=true
    ·replace h:=PO g154 h;refine⟨_,(Ar g55 (Ar g68 (Ar g139 (G2 g154)))),_,rfl,_,rfl,?_⟩;refine AM h (fun (v155,v156)=>⟨Wv (v1.length:Int) (i29:Int) v155 v1,zS8 v30 v31 v32 v33 v156 v35 v36 v37 v38 v39⟩) ?_ ?_
     ·intro _ h;refine AL h (fun _=>Bt) fun _ h=>?_;refine An h fun h=>?_;refine AM h (fun v160=>⟨Wm (v1.length:Int) (i29:Int) true false ((x42.Data.length:Int)==4) v1,zS8 v30 v31 v32 v33 v160 v35 v36 v37 v38 v39⟩) ?_ ?_
      ·intro _ h;(conv=>whnf);refine inl Tryz.f211 107 (by kernel_rfl) (by kernel_rfl) ⟨rfl,?_⟩;refine AM h (fun v162=>⟨dd 4 (yb false::dd 4 (yb ((x42.Data.length:Int)==4)::[])),ZO v30 v31 v32 v33 v162 v35 v36 v37 v38 v39 x42⟩) ?_ ?_
       ·intro _ h;(conv=>whnf);refine inl Tryz.f212 117 (by kernel_rfl) (by kernel_rfl) ⟨rfl,?_⟩;refine AL h (fun _=>C3) fun _ h=>?_;refine⟨x42.Data.length,X10 _,?_⟩;exact AN h
       rintro v162 h;exact AN h
      rintro v160 h;exact AN h
     rintro⟨v155,v156⟩ h;refine goC ?_;refine AT h ?_ ?_<;>intro h<;>exact AN h
    replace h:=PE g154 h;by_cases g166:(x42.Type_==5)=true
    ·replace h:=PO g166 h;refine⟨_,(Ar g55 (Ar g68 (Ar g139 (Ar g154 (G2 g166))))),_,rfl,_,rfl,?_⟩;refine AM h (fun (v167,v168)=>⟨Wv (v1.length:Int) (i29:Int) v167 v1,zS8 v30 v31 v32 v33 v34 v168 v36 v37 v38 v39⟩) ?_ ?_
     ·intro _ h;refine AL h (fun _=>Bt) fun _ h=>?_;refine An h fun h=>?_;refine AM h (fun v172=>⟨Wm (v1.length:Int) (i29:Int) true false ((x42.Data.length:Int)==4) v1,zS8 v30 v31 v32 v33 v34 v172 v36 v37 v38 v39⟩) ?_ ?_
      ·intro _ h;(conv=>whnf);refine inl Tryz.f213 107 (by kernel_rfl) (by kernel_rfl) ⟨rfl,?_⟩;refine AM h (fun v174=>⟨dd 4 (yb false::dd 4 (yb ((x42.Data.length:Int)==4)::[])),ZO v30 v31 v32 v33 v34 v174 v36 v37 v38 v39 x42⟩) ?_ ?_
       ·intro _ h;(conv=>whnf);refine inl Tryz.f212 117 (by kernel_rfl) (by kernel_rfl) ⟨rfl,?_⟩;refine AL h (fun _=>C3) fun _ h=>?_;refine⟨x42.Data.length,X10 _,?_⟩;exact AN h
       rintro v174 h;exact AN h
      rintro v172 h;exact AN h
     rintro⟨v167,v168⟩ h;refine goC ?_;refine AT h ?_ ?_<;>intro h<;>exact AN h
    replace h:=PE g166 h;by_cases g178:(x42.Type_==8)=true
    ·replace h:=PO g178 h;refine⟨_,(Ar g55 (Ar g68 (Ar g139 (Ar g154 (Ar g166 (G2 g178)))))),_,rfl,_,rfl,?_⟩;refine AM h (fun (v179,v180)=>⟨Wv (v1.length:Int) (i29:Int) v179 v1,zS8 v30 v31 v32 v33 v34 v35 v36 v37 v180 v39⟩) ?_ ?_
     ·intro _ h;refine AL h (fun _=>Bt) fun _ h=>?_;refine An h fun h=>?_;refine AM h (fun (v184,v185)=>⟨Wm (v1.length:Int) (i29:Int) true false v184 v1,zS8 v30 v31 v32 v33 v34 v35 v36 v37 v185 v39⟩) ?_ ?_
      ·intro _ h;(conv=>whnf);refine inl Tryz.f214 107 (by kernel_rfl) (by kernel_rfl) ⟨rfl,?_⟩;refine PU [117] h (fun _=>E0) fun v187 h=>?_;refine⟨v187.length,Bi,?_⟩;refine AM h (fun v189=>⟨yr 72 0::AV.d (D.l 1 D.u8 x42.Data)::X::X::X::yO 112 JAB.toD v189::dd 41 ([]),N::N::yB JAE.zv::nn 67 (yB JAE.zv::N::zS0 v30 v31 v32 v33 v34 v35 v36 v37 v38 v39::N::yB (JAA.av x42)::nn 29 (yR 141 3 JAF.toD v39::yR 137 2 JAB.toD v38::yR 132 2 JAD.toD v37::nn 5 (yR 137 2 JAB.toD v189::nn 121 ([]))))⟩) ?_ ?_
       ·intro _ h;revert h;refine Nh 117 3 1 .no D.i rfl (fun i191 v192=>⟨yr 72 0::AV.d (D.l 1 D.u8 x42.Data)::X::X::X::yO 112 JAB.toD v192::dd 4 (yO 117 D.i v187::yi (v187.length:Int)::yi (i191:Int)::dd 34 ([])),N::N::yB JAE.zv::nn 67 (yB JAE.zv::N::zS0 v30 v31 v32 v33 v34 v35 v36 v37 v38 v39::N::yB (JAA.av x42)::nn 29 (yR 141 3 JAF.toD v39::yR 137 2 JAB.toD v38::yR 132 2 JAD.toD v37::nn 5 (yR 137 2 JAB.toD v192::nn 4 (yR 3 1 D.i v187::nn 116 ([])))))⟩) ?_ ?_ ?_
        ·exact wk
        ·rintro v192 K193 h;refine goC ?_;refine BI CX ?_;exact AN h
        rintro _ i191 x195 v192 K193 b191 c191 e191 h p196;refine goC ?_;refine BB (CO b191) ?_;refine goC ?_;refine⟨rfl,BD (f:=D.i) b191,?_⟩;refine⟨rfl,D.i x195,c191,?_⟩;refine⟨by decide,_,rfl,?_⟩;refine⟨_,rfl,?_⟩;refine⟨rfl,?_⟩;refine apO h rfl fun _ h=>?_;refine⟨_,e191,?_⟩;exact p196 _ _ wk h
       rintro v189 h;refine AM h (fun (v199,v200)=>⟨yr 72 0::AV.d (D.l 1 D.u8 x42.Data)::dd 6 (yb false::dd 17 (yr 72 0::X::AV.tup [yO 153 JAB.toD v200,yb v199]::dd 18 ([]))),N::N::yB JAE.zv::nn 67 (yB JAE.zv::N::zS0 v30 v31 v32 v33 v34 v35 v36 v37 v38 v39::N::yB (JAA.av x42)::nn 29 (yR 141 3 JAF.toD v39::yR 137 2 JAB.toD v38::yR 132 2 JAD.toD v37::nn 46 (yR 137 2 JAB.toD v200::nn 80 ([]))))⟩) ?_ ?_
       ·intro _ h;(conv=>whnf);refine inl Tryz.f220 154 (by kernel_rfl) (by kernel_rfl) ⟨rfl,?_⟩;refine AM h (fun v202=>⟨yO 112 JAB.toD v189::AV.fn 221 []::dd 4 (yb v202::dd 14 ([])),N::N::yB JAE.zv::nn 67 (yB JAE.zv::N::zS0 v30 v31 v32 v33 v34 v35 v36 v37 v38 v39::N::yB (JAA.av x42)::nn 29 (yR 141 3 JAF.toD v39::yR 137 2 JAB.toD v38::yR 132 2 JAD.toD v37::nn 5 (yR 137 2 JAB.toD v189::nn 121 ([]))))⟩) ?_ ?_
        ·intro _ h;refine⟨v189.length,Bi,?_⟩;refine AW h fun h=>?_;refine⟨v189.length,Bi,?_⟩;exact AN h
        rintro v202 h;obtain⟨v204,g205,h⟩:=AH h;have g205l:=GP g205;refine⟨_,_,some [],VG (f:=JAB.toD) (enters_of Tryz.func221 (by kernel_rfl) rfl) (fun h=>GU h) g205,?_⟩;obtain⟨v206,g207,h⟩:=AH h;have g208:(List.map JAB.toD v204).length=(List.map JAB.toD v189).length:=(by first | rfl | (simp only[X10,X21];omega)|(simp only[cpy,X10,X21,X11,X18,X17,X20];omega)|(simp only[X10] at *;omega));refine⟨_,_,some [173],(g208 ▸ ED g207),?_⟩;exact BH (.swap 173 153 rfl rfl rfl wk) h
       rintro⟨v199,v200⟩ h;refine AM h (fun v209=>⟨dd 4 (yb v209::dd 42 ([])),N::N::yB JAE.zv::nn 67 (yB JAE.zv::N::yB [yi v30,yO 106 JAD.toD v37,yb v31,yu v32,yu v33,yi v34,yi v35,yi v36,yO 153 JAB.toD v200,yO 104 JAF.toD v39,AV.d (D.nil 3)]::N::yB (JAA.av x42)::nn 29 (yR 141 3 JAF.toD v39::yR 137 2 JAB.toD v38::yR 132 2 JAD.toD v37::nn 46 (yR 137 2 JAB.toD v200::nn 80 ([]))))⟩) ?_ ?_
       ·intro _ h;refine AW h fun h=>?_;refine⟨x42.Data.length,X10 _,?_⟩;refine⟨by decide,_,rfl,?_⟩;refine AW h fun h=>?_;refine⟨rfl,?_⟩;refine HS h (fun _=>FU) fun _ h=>?_;exact AN h
       rintro v209 h;exact BH (.swap 153 105 rfl rfl rfl wk) h
      rintro⟨v184,v185⟩ h;exact AN h
     rintro⟨v179,v180⟩ h;refine goC ?_;refine AT h ?_ ?_<;>intro h<;>exact AN h
    replace h:=PE g178 h;by_cases g213:(x42.Type_==32)=true
    ·replace h:=PO g213 h;refine⟨_,(Ar g55 (Ar g68 (Ar g139 (Ar g154 (Ar g166 (Ar g178 (G2 g213))))))),_,rfl,_,rfl,?_⟩;refine AM h (fun (v214,v215)=>⟨Wv (v1.length:Int) (i29:Int) v214 v1,zS8 v30 v31 v32 v33 v34 v35 v36 v37 v38 v215⟩) ?_ ?_
     ·intro _ h;refine AL h (fun _=>Bt) fun _ h=>?_;refine An h fun h=>?_;refine AM h (fun (v219,v220)=>⟨Wm (v1.length:Int) (i29:Int) true false v219 v1,zS8 v30 v31 v32 v33 v34 v35 v36 v37 v38 v220⟩) ?_ ?_
      ·intro _ h;(conv=>whnf);refine inl Tryz.f215 107 (by kernel_rfl) (by kernel_rfl) ⟨rfl,?_⟩;refine⟨x42.Data.length,X10 _,?_⟩;refine⟨by decide,_,rfl,?_⟩;refine goC ?_;refine An h fun h=>?_;refine PU [120] h (fun _=>E0) fun _ h=>?_;refine AM h (fun v224=>⟨yr 72 0::dd 4 (yO 112 JAF.toD v224::dd 42 ([])),N::N::yB JAE.zv::nn 67 (yB JAE.zv::N::zS0 v30 v31 v32 v33 v34 v35 v36 v37 v38 v39::N::yB (JAA.av x42)::nn 29 (yR 141 3 JAF.toD v39::yR 137 2 JAB.toD v38::yR 132 2 JAD.toD v37::nn 5 (yR 141 3 JAF.toD v224::nn 121 ([]))))⟩) ?_ ?_
       ·intro _ h;revert h;refine AZ (fun (v226,v227)=>⟨yr 72 0::dd 4 (yO 112 JAF.toD v226::yO 120 D.i v227::dd 41 ([])),N::N::yB JAE.zv::nn 67 (yB JAE.zv::N::zS0 v30 v31 v32 v33 v34 v35 v36 v37 v38 v39::N::yB (JAA.av x42)::nn 29 (yR 141 3 JAF.toD v39::yR 137 2 JAB.toD v38::yR 132 2 JAD.toD v37::nn 5 (yR 141 3 JAF.toD v226::nn 7 (yR 3 1 D.i v227::nn 113 ([])))))⟩) ?_ ?_
        ·exact wk
        rintro _ ⟨v226,v227⟩ _ h p230;refine⟨v227.length,Bi,?_⟩;refine goC ?_;refine AW h fun h=>?_;refine goC ?_;refine .inl (dO ?_);obtain⟨v231,g232,h⟩:=AH h;refine⟨rfl,BM (f:=D.i) g232,?_⟩;refine⟨rfl,D.i v231,(BW (f:=D.i) g232),?_⟩;obtain⟨v233,g234,h⟩:=AH h;refine⟨rfl,BM (f:=D.i) g234,?_⟩;refine⟨rfl,D.i v233,(BW (f:=D.i) g234),?_⟩;obtain⟨v235,g236,h⟩:=AH h;refine⟨rfl,BM (f:=D.i) g236,?_⟩;refine⟨rfl,D.i v235,(BW (f:=D.i) g236),?_⟩;refine⟨rfl,?_⟩;refine apO h rfl fun _ h=>?_;refine cO ?_;(conv=>whnf);refine .inr (.inr ?_);obtain⟨v239,g240,h⟩:=AH h;refine⟨bQ (f:=D.i) g240,rfl,_,YT (f:=D.i) g240,?_⟩;exact p230 _ _ (.swap 125 120 rfl rfl rfl wk) h
       rintro v224 h;refine AM h (fun (v241,v242)=>⟨yr 72 0::dd 6 (yb false::dd 25 (yr 72 0::X::AV.tup [yO 154 JAF.toD v242,yb v241]::dd 12 ([]))),N::N::yB JAE.zv::nn 67 (yB JAE.zv::N::zS0 v30 v31 v32 v33 v34 v35 v36 v37 v38 v39::N::yB (JAA.av x42)::nn 29 (yR 141 3 JAF.toD v39::yR 137 2 JAB.toD v38::yR 132 2 JAD.toD v37::nn 47 (yR 141 3 JAF.toD v242::nn 79 ([]))))⟩) ?_ ?_
       ·intro _ h;(conv=>whnf);refine inl Tryz.f222 155 (by kernel_rfl) (by kernel_rfl) ⟨rfl,?_⟩;refine AM h (fun v244=>⟨yO 112 JAF.toD v224::AV.fn 223 []::dd 4 (yb v244::dd 14 ([])),N::N::yB JAE.zv::nn 67 (yB JAE.zv::N::zS0 v30 v31 v32 v33 v34 v35 v36 v37 v38 v39::N::yB (JAA.av x42)::nn 29 (yR 141 3 JAF.toD v39::yR 137 2 JAB.toD v38::yR 132 2 JAD.toD v37::nn 5 (yR 141 3 JAF.toD v224::nn 121 ([]))))⟩) ?_ ?_
        ·intro _ h;refine⟨v224.length,Bi,?_⟩;refine AW h fun h=>?_;refine⟨v224.length,Bi,?_⟩;exact AN h
        rintro v244 h;obtain⟨v246,g247,h⟩:=AH h;have g247l:=GP g247;refine⟨_,_,some [],WJ (f:=JAF.toD) (enters_of Tryz.func223 (by kernel_rfl) rfl) (fun h=>Io h) g247,?_⟩;obtain⟨v248,g249,h⟩:=AH h;have g250:(List.map JAF.toD v246).length=(List.map JAF.toD v224).length:=(by first | rfl | (simp only[X10,X21];omega)|(simp only[cpy,X10,X21,X11,X18,X17,X20];omega)|(simp only[X10] at *;omega));refine⟨_,_,some [174],(g250 ▸ E5 g249),?_⟩;exact BH (.swap 174 154 rfl rfl rfl wk) h
       rintro⟨v241,v242⟩ h;refine AM h (fun v251=>⟨dd 4 (yb v251::dd 43 ([])),N::N::yB JAE.zv::nn 67 (yB JAE.zv::N::yB [yi v30,yO 106 JAD.toD v37,yb v31,yu v32,yu v33,yi v34,yi v35,yi v36,yO 105 JAB.toD v38,yO 154 JAF.toD v242,AV.d (D.nil 3)]::N::yB (JAA.av x42)::nn 29 (yR 141 3 JAF.toD v39::yR 137 2 JAB.toD v38::yR 132 2 JAD.toD v37::nn 47 (yR 141 3 JAF.toD v242::nn 79 ([]))))⟩) ?_ ?_
       ·intro _ h;refine AW h fun h=>?_;refine⟨rfl,?_⟩;refine HS h (fun _=>EI) fun _ h=>?_;exact AN h
       rintro v251 h;exact BH (.swap 154 104 rfl rfl rfl wk) h
      rintro⟨v219,v220⟩ h;exact AN h
     rintro⟨v214,v215⟩ h;refine goC ?_;refine AT h ?_ ?_<;>intro h<;>exact AN h
    replace h:=PE g213 h;by_cases g255:(x42.Type_==35)=true
    ·replace h:=PO g255 h;refine⟨_,(Ar g55 (Ar g68 (Ar g139 (Ar g154 (Ar g166 (Ar g178 (Ar g213 (G2 g255)))))))),_,rfl,_,rfl,?_⟩;refine AM h (fun (v256,v257)=>⟨Wv (v1.length:Int) (i29:Int) v256 v1,zS8 v30 v31 v32 v33 v34 v35 v257 v37 v38 v39⟩) ?_ ?_
     ·intro _ h;refine AL h (fun _=>Bt) fun _ h=>?_;refine An h fun h=>?_;refine AM h (fun (v261,v262)=>⟨Wm (v1.length:Int) (i29:Int) true false v261 v1,zS8 v30 v31 v32 v33 v34 v35 v262 v37 v38 v39⟩) ?_ ?_
      ·intro _ h;(conv=>whnf);refine inl Tryz.f216 107 (by kernel_rfl) (by kernel_rfl) ⟨rfl,?_⟩;refine AM h (fun (v264,v265)=>⟨dd 4 (yb v264::dd 12 ([])),ZO v30 v31 v32 v33 v34 v35 v265 v37 v38 v39 x42⟩) ?_ ?_
       ·intro _ h;refine AM h (fun v267=>⟨yr 72 0::X::X::X::yb false::dd 4 (yb ((x42.Data.length:Int)==4)::dd 7 ([])),ZO v30 v31 v32 v33 v34 v35 v267 v37 v38 v39 x42⟩) ?_ ?_
        ·intro _ h;(conv=>whnf);refine inl Tryz.f212 124 (by kernel_rfl) (by kernel_rfl) ⟨rfl,?_⟩;refine AL h (fun _=>C3) fun _ h=>?_;refine⟨x42.Data.length,X10 _,?_⟩;exact AN h
        rintro v267 h;refine AW h fun h=>?_;refine AL h (fun _=>Gq) fun _ h=>?_;exact AN h
       rintro⟨v264,v265⟩ h;exact AN h
      rintro⟨v261,v262⟩ h;exact AN h
     rintro⟨v256,v257⟩ h;refine goC ?_;refine AT h ?_ ?_<;>intro h<;>exact AN h
    replace h:=PE g255 h;refine⟨_,(Ar g55 (Ar g68 (Ar g139 (Ar g154 (Ar g166 (Ar g178 (Ar g213 (Ar g255 Zz)))))))),_,rfl,_,rfl,?_⟩;refine goC ?_;refine goC ?_;exact AN h
   rintro⟨v44,v45,v46,v47,v48,v49,v50,v51,v52,v53⟩ h;refine⟨_,e29,?_⟩;exact p43 _ _ wk h
  rintro⟨v18,v19,v20,v21,v22,v23,v24,v25,v26,v27⟩ h;exact BH (.swap 104 67 rfl rfl rfl (.swap 105 65 rfl rfl rfl (.swap 106 64 rfl rfl rfl wk))) h
 rintro⟨v5,v6,v7,v8,v9,v10,v11,v12,v13,v14,v15⟩ h;refine goC ?_;refine AT h ?_ ?_<;>intro h
 ·exact fin h
 refine⟨v1.length,X10 _,?_⟩;refine AM h (fun v273=>⟨X::X::yr 2 0::X::yr 4 0::dd 63 ([]),dD v5 v6 v7 v8 v9 v10 v11 v13 v14 v15 v273⟩) ?_ ?_
 ·intro _ h;revert h;refine Aa 21 3 JAA.toD rfl (fun i275 v276=>⟨X::X::yr 2 0::X::yr 4 0::dd 16 (y4 v1::yi (v1.length:Int)::yi (i275:Int)::dd 44 ([])),dD v5 v6 v7 v8 v9 v10 v11 v13 v14 v15 v276⟩) ?_ ?_ ?_
  ·exact wk
  ·rintro v276 K277 h;refine goC ?_;refine BI CX ?_;exact AN h
  rintro _ i275 x279 v276 K277 b275 c275 e275 h p280;refine goC ?_;refine BB (CO b275) ?_;refine goC ?_;refine⟨BD (f:=JAA.toD) b275,JAA.toD x279,c275,rfl,?_⟩;refine AM h (fun v281=>⟨X::X::yr 2 0::X::yr 4 0::X::X::yr 7 0::dd 13 (y4 v1::yi (v1.length:Int)::yi (i275:Int)::dd 22 (yb v281::dd 21 ([]))),N::N::yB JAE.zv::N::zS3 v5 v6 v7 v8 v9 v10 v11 v13 v14 v15 v276::N::N::yB (JAA.av x279)::nn 48 (yR 88 3 JAA.toD v276::nn 7 (yR 132 2 JAD.toD v13::yR 137 2 JAB.toD v14::N::yR 141 3 JAF.toD v15::nn 166 ([])))⟩) ?_ ?_
  ·intro _ h;refine AL h (fun _=>Es) fun _ h=>?_;refine AW h fun h=>?_;refine AL h (fun _=>B0) fun _ h=>?_;refine AW h fun h=>?_;refine⟨_,rfl,?_⟩;refine AW h fun h=>?_;refine⟨x279.Data.length,X10 _,?_⟩;exact AN h
  rintro v281 h;refine AM h (fun v287=>⟨X::X::yr 2 0::X::yr 4 0::dd 16 (y4 v1::yi (v1.length:Int)::yi (i275:Int)::dd 44 ([])),dD v5 v6 v7 v8 v9 v10 v11 v13 v14 v15 v287⟩) ?_ ?_
  ·intro _ h;refine AW h fun h=>?_;refine .inl (dO ?_);refine Ap h (fun _=>FG) (fun _=>rfl) fun _ h=>?_;refine⟨rfl,?_⟩;refine apO h rfl fun _ h=>?_;refine cO ?_;exact AN h
  rintro v287 h;refine⟨_,e275,?_⟩;exact p280 _ _ wk h
 rintro v273 h;refine⟨v273.length,Bi,?_⟩;refine goC ?_;refine AT h ?_ ?_<;>intro h
 ·exact fin h
 obtain⟨v293,g294,h⟩:=AH h;have g294l:=GP g294;refine⟨_,_,some [],K4 (f:=JAA.toD) (enters_of Tryz.func121 (by kernel_rfl) rfl) (fun h=>La h) g294,?_⟩;refine⟨rfl,?_⟩;refine⟨rfl,?_⟩;refine⟨rfl,?_⟩;refine⟨Bi,?_⟩;exact fin h
end Go.AX.Q19
end
