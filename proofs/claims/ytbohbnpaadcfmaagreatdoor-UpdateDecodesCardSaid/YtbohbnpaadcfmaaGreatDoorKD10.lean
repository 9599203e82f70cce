/-
  Texts of one proof, packed.
-/
import Derived.Test.YtbohbnpaadcfmaaGreatDoorKD5
import Derived.Test.YtbohbnpaadcfmaaGreatDoorKD8
import Derived.Test.YtbohbnpaadcfmaaGreatDoorKD9
set_option linter.all false
set_option maxRecDepth 100000
set_option maxHeartbeats 4000000
open List renaming length_map→X10,length_append→X11,length_drop→X17,length_take→X18,length_replicate→X20,length_set→X21
open Nat renaming le_of_ble_eq_true→X29
section
namespace Go.AX.Q19
open Go Go.AX Go.Proofs
variable {wl:Prop}
theorem Gs {a0:List UInt8}{r:Int}(h:Ek a0=some r):yC wl 72 [AV.d (D.l 1 D.u8 a0)] [] (.d (D.i r)) []:=by
 refine oK Tryz.f72 ⟨rfl,?_⟩;unfold Ek at h;refine .inl (dO ?_);(conv=>whnf);refine Av h (fun _=>rfl) fun v1 h=>?_;refine⟨_,BG v1,?_⟩;refine⟨by decide,_,rfl,?_⟩;(conv=>whnf);refine Av h (fun _=>rfl) fun v3 h=>?_;refine⟨_,BG v3,?_⟩;refine⟨_,rfl,?_⟩;refine cO ?_;exact fin h
theorem L0 {a0:List UInt8}{r:(List UInt8)×(List UInt8)×Bool}(h:Gl a0=some r):yC wl 108 [AV.d (D.l 1 D.u8 a0)] [] (.tup [.d (D.l 1 D.u8 r.1),.d (D.l 1 D.u8 r.2.1),.d (D.b r.2.2)]) []:=by
 refine oK Tryz.f108 ⟨rfl,?_⟩;unfold Gl at h;refine AM h (fun v1=>⟨y3 a0::dd 15 (yb v1::dd 9 ([])),nn 26 ([])⟩) ?_ ?_
 ·intro _ h;refine⟨a0.length,X10 _,?_⟩;refine An h fun h=>?_;refine⟨a0.length,X10 _,?_⟩;refine⟨_,rfl,?_⟩;refine AL h (fun _=>Gs) fun _ h=>?_;exact AN h
 rintro v1 h;refine goC ?_;refine AT h ?_ ?_<;>intro h
 ·(conv=>whnf);refine .inl ?_;refine⟨rfl,?_⟩;(conv=>whnf);refine .inl ?_;refine⟨rfl,?_⟩;exact fin h
 refine AL h (fun _=>Gs) fun _ h=>?_;refine⟨_,rfl,?_⟩;refine .inl (dO ?_);(conv=>whnf);refine Eb (f:=D.u8) h fun _ h=>?_;(conv=>whnf);refine Hu (f:=D.u8) h fun _ h=>?_;refine cO ?_;exact fin h
theorem MN {a0:List UInt8}{r:(List JAA)×Int}(h:EU a0=some r):yC wl 109 [AV.d (D.l 1 D.u8 a0)] [] (.tup [.d (D.l 3 JAA.toD r.1),.d (D.i r.2)]) []:=by
 refine oK Tryz.f109 ⟨rfl,?_⟩;unfold EU at h;refine AM h (fun v1=>⟨dd 4 (yO 4 JAA.toD v1::dd 53 ([])),nn 4 (yR 88 3 JAA.toD v1::nn 53 ([]))⟩) ?_ ?_
 ·intro _ h;revert h;refine AZ (fun (v3,v4)=>⟨y3 v3::X::X::X::yO 4 JAA.toD v4::dd 53 ([]),nn 4 (yR 88 3 JAA.toD v4::nn 53 ([]))⟩) ?_ ?_
  ·exact wk
  rintro _ ⟨v3,v4⟩ _ h p7;refine⟨v3.length,X10 _,?_⟩;refine goC ?_;refine AW h fun h=>?_;refine goC ?_;(conv=>whnf);refine Av h (fun _=>rfl) fun _ h=>?_;refine⟨_,Ae _,?_⟩;refine AM h (fun v10=>⟨y3 v3::X::X::X::yO 4 JAA.toD v4::yi v10::dd 52 ([]),nn 4 (yR 88 3 JAA.toD v4::nn 53 ([]))⟩) ?_ ?_
  ·intro _ h;exact selC h
  rintro v10 h;refine AM h (fun v12=>⟨y3 v3::X::X::X::yO 4 JAA.toD v4::yi v10::dd 23 (yb v12::dd 28 ([])),nn 4 (yR 88 3 JAA.toD v4::nn 53 ([]))⟩) ?_ ?_
  ·intro _ h;refine⟨v3.length,X10 _,?_⟩;refine An h fun h=>?_;refine⟨v3.length,X10 _,?_⟩;refine⟨_,rfl,?_⟩;(conv=>whnf);refine Eb (f:=D.u8) h fun _ h=>?_;refine AL h (fun _=>C3) fun _ h=>?_;exact AN h
  rintro v12 h;refine goC ?_;refine AT h ?_ ?_<;>intro h
  ·(conv=>whnf);refine .inl ?_;refine⟨rfl,?_⟩;exact fin h
  (conv=>whnf);refine Eb (f:=D.u8) h fun _ h=>?_;refine AL h (fun _=>C3) fun _ h=>?_;refine⟨_,rfl,?_⟩;refine .inl (dO ?_);(conv=>whnf);refine Av h (fun _=>rfl) fun v22 h=>?_;refine⟨_,Ae _,?_⟩;refine⟨_,BG (Am ((BitVec.ofInt 8 (v22.toNat:Int) &&& BitVec.ofInt 8 224).toNat:Int)),?_⟩;(conv=>whnf);refine Av h (fun _=>rfl) fun v24 h=>?_;refine⟨_,BG v24,?_⟩;(conv=>whnf);refine Eb (f:=D.u8) h fun _ h=>?_;refine apN (f:=D.u8) h fun _ h=>?_;(conv=>whnf);refine .inl ?_;refine⟨rfl,?_⟩;refine⟨rfl,?_⟩;refine apO h rfl fun _ h=>?_;refine cO ?_;(conv=>whnf);refine Hu (f:=D.u8) h fun _ h=>?_;exact p7 _ _ wk h
 rintro v1 h;(conv=>whnf);refine .inl ?_;refine⟨rfl,?_⟩;exact fin h
theorem Rh {a0:Addr}{a1:Int}{r:JAC×Int}(h:G4 a0 a1=some r):yC wl 146 [AV.d (Addr.toD a0),AV.d (D.i a1)] [] (.tup [.d (JAC.toD r.1),.d (D.i r.2)]) []:=by
 refine oK Tryz.f146 ⟨rfl,?_⟩;unfold G4 at h;refine goC ?_;refine AL h (fun _=>Gu) fun _ h=>?_;refine goC ?_;refine AT h ?_ ?_<;>intro h
 ·exact fin h
 refine AM h (fun v3=>⟨X::yi a1::yr 2 0::X::yr 4 0::dd 6 (yb v3::dd 14 ([])),N::N::yB (Addr.av a0)::N::yB JAC.zv::nn 21 ([])⟩) ?_ ?_
 ·intro _ h;refine An h fun h=>?_;refine AL h (fun _=>HH) fun _ h=>?_;exact AN h
 rintro v3 h;refine goC ?_;refine AT h ?_ ?_<;>intro h
 ·exact fin h
 refine AL h (fun _=>Jy) fun _ h=>?_;exact fin h
theorem ES {a0:List UInt8}{a1:Bool}{r:(List JAC)×Bool}(h:CJ a0 a1=some r):yC wl 111 [AV.d (D.l 1 D.u8 a0),AV.d (D.b a1)] [] (.tup [.d (D.l 4 JAC.toD r.1),.d (D.b r.2)]) []:=by
 refine oK Tryz.f111 ⟨rfl,?_⟩;unfold CJ at h;refine AM h (fun v1=>⟨y3 a0::dd 5 (yi v1::dd 58 ([])),nn 65 ([])⟩) ?_ ?_
 ·intro _ h;exact selC h
 rintro v1 h;refine AM h (fun v3=>⟨dd 7 (yO 7 JAC.toD v3::dd 57 ([])),nn 7 (yR 41 4 JAC.toD v3::nn 57 ([]))⟩) ?_ ?_
 ·intro _ h;revert h;refine AZ (fun (v5,v6)=>⟨y3 v5::dd 5 (yi v1::yO 7 JAC.toD v6::dd 57 ([])),nn 7 (yR 41 4 JAC.toD v6::nn 57 ([]))⟩) ?_ ?_
  ·exact wk
  rintro _ ⟨v5,v6⟩ _ h p9;refine⟨v5.length,X10 _,?_⟩;refine goC ?_;refine AW h fun h=>?_;refine goC ?_;(conv=>whnf);refine Av h (fun _=>rfl) fun v10 h=>?_;refine⟨_,BG v10,?_⟩;refine⟨_,rfl,?_⟩;refine⟨by decide,_,rfl,?_⟩;refine AM h (fun v12=>⟨y3 v5::dd 5 (yi v1::yO 7 JAC.toD v6::yi (v10.toNat:Int)::AV.d (D.i (AD (Int.tdiv (AD ((v10.toNat:Int)+7)) 8)))::dd 25 (yb v12::dd 29 ([]))),nn 7 (yR 41 4 JAC.toD v6::nn 57 ([]))⟩) ?_ ?_
  ·intro _ h;refine An h fun h=>?_;refine⟨v5.length,X10 _,?_⟩;refine⟨_,rfl,?_⟩;exact AN h
  rintro v12 h;refine goC ?_;refine AT h ?_ ?_<;>intro h
  ·(conv=>whnf);refine .inl ?_;refine⟨rfl,?_⟩;exact fin h
  refine⟨by decide,_,rfl,?_⟩;obtain⟨_,g14,h⟩:=AH h;refine⟨Xa g14 (X29 rfl),D.u8 (0:UInt8),rfl,(List.map D.u8 (List.replicate (Int.toNat (AD (Int.tdiv v1 8))) (0:UInt8))),List.map_replicate.symm,?_⟩;refine⟨_,rfl,?_⟩;(conv=>whnf);refine Eb (f:=D.u8) h fun v15 h=>?_;refine⟨rfl,List.map D.u8 (cpy (List.replicate (Int.toNat (AD (Int.tdiv v1 8))) (0:UInt8)) 0 (List.replicate (Int.toNat (AD (Int.tdiv v1 8))) (0:UInt8)).length v15),cq,(min v15.length (List.replicate (Int.toNat (AD (Int.tdiv v1 8))) (0:UInt8)).length),dU,?_⟩;refine⟨Bi,?_⟩;refine HS h (fun _=>F8) ?_;rintro⟨_,_⟩ h;refine AL h (fun _=>Rh) ?_;rintro⟨_,_⟩ h;refine .inl (dO ?_);refine⟨rfl,?_⟩;refine apO h rfl fun _ h=>?_;refine⟨_,rfl,?_⟩;(conv=>whnf);refine Hu (f:=D.u8) h fun _ h=>?_;refine cO ?_;exact p9 _ _ wk h
 rintro v3 h;(conv=>whnf);refine .inl ?_;refine⟨rfl,?_⟩;exact fin h
theorem KB {a0:List UInt8}{a1:List UInt8}{r:Bool}(h:bytes_Equal a0 a1=some r):yC wl 71 [AV.d (D.l 1 D.u8 a0),AV.d (D.l 1 D.u8 a1)] [] (.d (D.b r)) []:=by
 refine oK Tryz.f71 ⟨rfl,?_⟩;unfold bytes_Equal at h;refine⟨a0,rfl,?_⟩;refine⟨a1,rfl,?_⟩;exact fin h
theorem MA {a0:List UInt8}{a1:List UInt8}{r:Bool}(h:bytes_HasPrefix a0 a1=some r):yC wl 83 [AV.d (D.l 1 D.u8 a0),AV.d (D.l 1 D.u8 a1)] [] (.d (D.b r)) []:=by
 refine oK Tryz.f83 ⟨rfl,?_⟩;unfold bytes_HasPrefix at h;refine AM h (fun v1=>⟨dd 4 (yb v1::dd 13 ([])),nn 18 ([])⟩) ?_ ?_
 ·intro _ h;refine⟨a0.length,X10 _,?_⟩;refine⟨a1.length,X10 _,?_⟩;refine AW h fun h=>?_;refine⟨a1.length,X10 _,?_⟩;(conv=>whnf);refine Eb (f:=D.u8) h fun _ h=>?_;refine AL h (fun _=>KB) fun _ h=>?_;exact AN h
 rintro v1 h;exact fin h
theorem MB {a0:List UInt8}{a1:List UInt8}{r:(List UInt8)×Bool}(h:bytes_CutPrefix a0 a1=some r):yC wl 144 [AV.d (D.l 1 D.u8 a0),AV.d (D.l 1 D.u8 a1)] [] (.tup [.d (D.l 1 D.u8 r.1),.d (D.b r.2)]) []:=by
 refine oK Tryz.f144 ⟨rfl,?_⟩;unfold bytes_CutPrefix at h;refine AL h (fun _=>MA) fun _ h=>?_;refine goC ?_;refine AT h ?_ ?_<;>intro h
 ·exact fin h
 refine⟨a1.length,X10 _,?_⟩;(conv=>whnf);refine Hu (f:=D.u8) h fun _ h=>?_;exact fin h
theorem Iw {a0:JAH}{r:Bool×JAH}(h:DF a0=some r):yC wl 110 [.ref 0 0] [.box (JAH.av a0)] (.d (D.b r.1)) [.box (JAH.av r.2)]:=by
 refine oK Tryz.f110 ⟨rfl,?_⟩;unfold DF at h;refine⟨a0.attrs.length,X10 _,?_⟩;refine AM h (fun (v1,v2)=>⟨X::X::X::AV.mp 10::dd 91 ([]),yB (JAH.av v1)::nn 9 (some (OB.map 3 3 (Bv D.i D.i v2))::nn 85 ([]))⟩) ?_ ?_
 ·intro _ h;revert h;refine Aa 13 3 JAA.toD rfl (fun i4 (v5,v6)=>⟨yr 0 0::X::X::AV.mp 10::dd 9 (AV.d (D.l 3 JAA.toD a0.attrs)::yi (a0.attrs.length:Int)::yi (i4:Int)::dd 79 ([])),yB (JAH.av v5)::nn 9 (some (OB.map 3 3 (Bv D.i D.i v6))::nn 85 ([]))⟩) ?_ ?_ ?_
  ·exact wk
  ·rintro⟨v5,v6⟩ K7 h;refine goC ?_;refine BI CX ?_;exact AN h
  rintro _ i4 x9 ⟨v5,v6⟩ K7 b4 c4 e4 h p10;refine goC ?_;refine BB (CO b4) ?_;refine goC ?_;refine⟨BD (f:=JAA.toD) b4,JAA.toD x9,c4,rfl,?_⟩;obtain⟨v11,g12,h⟩:=AH h;refine⟨_,BZ (ek:=D.i) (ev:=D.i) (l:=v6) (k:=x9.Type_) BO,D.i v11,Ds (z:=0) rfl g12,_,rfl,?_⟩;refine⟨_,rfl,?_⟩;refine⟨_,EF (ek:=D.i) (ev:=D.i) (l:=v6) (k:=x9.Type_) (v:=(AD (v11+1))) BO,?_⟩;refine⟨rfl,?_⟩;refine AL h (fun _=>MB) ?_;rintro⟨v13,_⟩ h;refine goC ?_;refine AM h (fun (v16,v17)=>⟨dR v16 (a0.attrs.length:Int) (i4:Int) a0.attrs,yB (JAH.av v17)::nn 9 (some (OB.map 3 3 (Bv D.i D.i (Cf v6 x9.Type_ (AD (v11+1)))))::nn 85 ([]))⟩) ?_ ?_
  ·intro _ h;refine AT h ?_ ?_<;>intro h
   ·refine AM h (fun v19=>⟨yr 0 0::X::X::AV.mp 10::X::X::y3 v13::dd 6 (AV.d (D.l 3 JAA.toD a0.attrs)::yi (a0.attrs.length:Int)::yi (i4:Int)::dd 38 (yb v19::dd 40 ([]))),yB (JAH.av v5)::nn 9 (some (OB.map 3 3 (Bv D.i D.i (Cf v6 x9.Type_ (AD (v11+1)))))::nn 85 ([]))⟩) ?_ ?_
    ·intro _ h;refine An h fun h=>?_;refine⟨v13.length,X10 _,?_⟩;refine An h fun h=>?_;(conv=>whnf);refine Av h (fun _=>rfl) fun _ h=>?_;refine An h fun h=>?_;(conv=>whnf);refine Av h (fun _=>rfl) fun _ h=>?_;exact AN h
    rintro v19 h;refine goC ?_;refine AT h ?_ ?_<;>intro h
    ·exact fin h
    (conv=>whnf);refine Eb (f:=D.u8) h fun _ h=>?_;refine AL h (fun _=>F8) ?_;rintro⟨_,_⟩ h;(conv=>whnf);refine Hu (f:=D.u8) h fun _ h=>?_;refine AL h (fun _=>ES) ?_;rintro⟨_,_⟩ h;exact AN h
   refine AM h (fun (v35,v36)=>⟨dR v35 (a0.attrs.length:Int) (i4:Int) a0.attrs,zS6 v36 v5.next.V6 v5.next.Hi v5.next.Lo v5.attrs v5.gone4 v5.new4 v5.new6::nn 9 (some (OB.map 3 3 (Bv D.i D.i (Cf v6 x9.Type_ (AD (v11+1)))))::nn 85 ([]))⟩) ?_ ?_
   ·intro _ h;refine AW h fun h=>?_;refine AM h (fun (v38,v39)=>⟨dR v38 (a0.attrs.length:Int) (i4:Int) a0.attrs,zS6 v39 v5.next.V6 v5.next.Hi v5.next.Lo v5.attrs v5.gone4 v5.new4 v5.new6::nn 9 (some (OB.map 3 3 (Bv D.i D.i (Cf v6 x9.Type_ (AD (v11+1)))))::nn 85 ([]))⟩) ?_ ?_
    ·intro _ h;refine AW h fun h=>?_;refine AL h (fun _=>ES) ?_;rintro⟨_,_⟩ h;exact AN h
    rintro⟨v38,v39⟩ h;exact AN h
   rintro⟨v35,v36⟩ h;exact AN h
  rintro⟨v16,v17⟩ h;refine goC ?_;refine AT h ?_ ?_<;>intro h
  ·exact fin h
  refine⟨_,e4,?_⟩;exact p10 _ _ wk h
 rintro⟨v1,v2⟩ h;refine AM h (fun v44=>⟨X::X::yb v44::dd 92 ([]),yB (JAH.av v1)::nn 95 ([])⟩) ?_ ?_
 ·intro _ h;obtain⟨v46,g47,h⟩:=AH h;refine⟨_,BZ (ek:=D.i) (ev:=D.i) (l:=v2) (k:=14) BO,D.i v46,Ds (z:=0) rfl g47,_,rfl,?_⟩;refine AW h fun h=>?_;obtain⟨v48,g49,h⟩:=AH h;refine⟨_,BZ (ek:=D.i) (ev:=D.i) (l:=v2) (k:=15) BO,D.i v48,Ds (z:=0) rfl g49,_,rfl,?_⟩;exact AN h
 rintro v44 h;exact fin h
theorem G9 {a0:JAH}{a1:List UInt8}{r:Bool×JAH}(h:B5 a0 a1=some r):yC wl 58 [.ref 0 0,AV.d (D.l 1 D.u8 a1)] [.box (JAH.av a0)] (.d (D.b r.1)) [.box (JAH.av r.2)]:=by
 refine oK Tryz.f58 ⟨rfl,?_⟩;unfold B5 at h;refine AL h (fun _=>L0) ?_;rintro⟨v1,_,_⟩ h;refine goC ?_;refine AT h ?_ ?_<;>intro h
 ·exact fin h
 refine AL h (fun _=>L0) ?_;rintro⟨_,v6,_⟩ h;refine goC ?_;refine AT h ?_ ?_<;>intro h
 ·exact fin h
 refine AL h (fun _=>MN) ?_;rintro⟨_,_⟩ h;refine AM h (fun (v12,v13)=>⟨yr 0 0::y3 v6::X::X::X::y3 v1::dd 34 (yb v12::dd 76 ([])),yB (JAH.av v13)::nn 117 ([])⟩) ?_ ?_
 ·intro _ h;refine An h fun h=>?_;refine AL h (fun _=>Iw) ?_;rintro⟨_,_⟩ h;exact AN h
 rintro⟨v12,v13⟩ h;refine goC ?_;refine AT h ?_ ?_<;>intro h
 ·exact fin h
 refine AL h (fun _=>ES) ?_;rintro⟨v18,_⟩ h;refine AL h (fun _=>ES) ?_;rintro⟨v21,_⟩ h;refine AM h (fun v24=>⟨yr 0 0::dd 105 (yb v24::dd 10 ([])),yB [AV.d (D.l 3 JAA.toD v13.attrs),AV.d (D.b v13.next.V6),AV.d (D.u64 v13.next.Hi),AV.d (D.u64 v13.next.Lo),y5 v18,AV.d (D.l 4 JAC.toD v13.gone6),y5 v21,AV.d (D.l 4 JAC.toD v13.new6)]::nn 117 ([])⟩) ?_ ?_
 ·intro _ h;refine .inl (dO ?_);refine AT h ?_ ?_<;>intro h
  ·refine cO ?_;exact AN h
  refine AT h ?_ ?_<;>intro h
  ·refine cO ?_;exact AN h
  refine⟨v21.length,X10 _,?_⟩;refine AT h ?_ ?_<;>intro h
  ·refine⟨v13.new6.length,X10 _,?_⟩;refine AT h ?_ ?_<;>intro h
   ·refine cO ?_;exact AN h
   refine⟨v18.length,X10 _,?_⟩;refine⟨v13.gone6.length,X10 _,?_⟩;refine⟨_,rfl,?_⟩;refine AT h ?_ ?_<;>intro h
   ·refine cO ?_;exact AN h
   refine⟨v21.length,X10 _,?_⟩;refine⟨v13.new6.length,X10 _,?_⟩;refine⟨_,rfl,?_⟩;refine cO ?_;exact AN h
  refine⟨v18.length,X10 _,?_⟩;refine⟨v13.gone6.length,X10 _,?_⟩;refine⟨_,rfl,?_⟩;refine AT h ?_ ?_<;>intro h
  ·refine cO ?_;exact AN h
  refine⟨v21.length,X10 _,?_⟩;refine⟨v13.new6.length,X10 _,?_⟩;refine⟨_,rfl,?_⟩;refine cO ?_;exact AN h
 rintro v24 h;refine goC ?_;refine AT h ?_ ?_<;>intro h
 ·exact fin h
 refine AL h (fun _=>IM) ?_;rintro⟨_,_⟩ h;exact fin h
theorem Iz {a0:JAA}{a1:Int}{r:Bool×Int}(h:DL a0 a1=some r):yC wl 126 [AV.d (JAA.toD a0),.ref 0 0] [.box [.d (D.i a1)]] (.d (D.b r.1)) [.box [.d (D.i r.2)]]:=by
 refine oK Tryz.f126 ⟨rfl,?_⟩;unfold DL at h;exact fin h
theorem CQ {a0:List JAA}{a1c0:Int}{r:Int×Int}(h:Ai a0 a1c0=some r):yC wl 147 [AV.d (D.l 3 JAA.toD a0),AV.fn 126 [.ref 0 0]] [.box [.d (D.i a1c0)]] (.d (D.i r.1)) [.box [.d (D.i r.2)]]:=by
 refine oK Tryz.f147 ⟨rfl,?_⟩;unfold Ai at h;refine⟨a0.length,X10 _,?_⟩;refine AM h (fun v1=>⟨dd 19 ([]),yB [yi v1]::nn 19 ([])⟩) ?_ ?_
 ·intro _ h;revert h;refine Aa 6 3 JAA.toD rfl (fun i3 v4=>⟨y4 a0::AV.fn 126 [yr 0 0]::dd 4 (y4 a0::yi (a0.length:Int)::yi (i3:Int)::dd 10 ([])),yB [yi v4]::nn 19 ([])⟩) ?_ ?_ ?_
  ·exact wk
  ·rintro v4 K5 h;refine goC ?_;refine BI CX ?_;exact AN h
  rintro _ i3 x7 v4 K5 b3 c3 e3 h p8;refine goC ?_;refine BB (CO b3) ?_;refine goC ?_;refine⟨BD (f:=JAA.toD) b3,JAA.toD x7,c3,rfl,?_⟩;refine AL h (fun _=>Iz) ?_;rintro⟨_,_⟩ h;refine goC ?_;refine AT h ?_ ?_<;>intro h
  ·exact fin h
  refine⟨_,e3,?_⟩;exact p8 _ _ wk h
 rintro v1 h;exact fin h
theorem CE {a0:List JAA}{a1c0:Int}{r:Bool×Int}(h:Ah a0 a1c0=some r):yC wl 114 [AV.d (D.l 3 JAA.toD a0),AV.fn 126 [.ref 0 0]] [.box [.d (D.i a1c0)]] (.d (D.b r.1)) [.box [.d (D.i r.2)]]:=by
 refine oK Tryz.f114 ⟨rfl,?_⟩;unfold Ah at h;refine AL h (fun _=>CQ) ?_;rintro⟨_,_⟩ h;exact fin h
theorem Ea {a0:JAH}{a1:Int}{r:Bool×JAH}(h:CN a0 a1=some r):yC wl 73 [.ref 0 0,AV.d (D.i a1)] [.box (JAH.av a0)] (.d (D.b r.1)) [.box (JAH.av r.2)]:=by
 refine oK Tryz.f73 ⟨rfl,?_⟩;unfold CN at h;refine AL h (fun _=>CE) ?_;rintro⟨_,_⟩ h;exact fin h
theorem K9 {a0:List UInt8}{r:Bool×Bool}(h:Fz a0=some r):yC wl 31 [AV.d (D.l 1 D.u8 a0)] [] (.tup [.d (D.b r.1),.d (D.b r.2)]) []:=by
 refine oK Tryz.f31 ⟨rfl,?_⟩;unfold Fz at h;obtain⟨_,g1,h⟩:=AH h;refine⟨Xa g1 (X29 rfl),D.u8 (0:UInt8),rfl,(List.map D.u8 (List.replicate (Int.toNat 4) (0:UInt8))),List.map_replicate.symm,?_⟩;refine⟨rfl,?_⟩;refine HS h (fun _=>KB) fun _ h=>?_;refine goC ?_;refine AT h ?_ ?_<;>intro h
 ·exact fin h
 refine AM h (fun v4=>⟨dd 48 (yb v4::[]),nn 49 ([])⟩) ?_ ?_
 ·intro _ h;obtain⟨⟨v6,v7⟩,g8,h⟩:=AH h;refine⟨_,_,some [],(G9 g8).box1 ⟨.inr ⟨_,rfl,rfl⟩,.inl rfl,.inl rfl,.inl rfl,.inr ⟨_,rfl,rfl⟩,.inr ⟨_,rfl,rfl⟩,.inr ⟨_,rfl,rfl⟩,.inr ⟨_,rfl,rfl⟩,True.intro⟩,?_⟩;refine An h fun h=>?_;refine⟨a0.length,X10 _,?_⟩;(conv=>whnf);refine Hu (f:=D.u8) h fun _ h=>?_;refine AL h (fun _=>Gs) fun _ h=>?_;refine⟨_,rfl,?_⟩;refine An h fun h=>?_;refine⟨v7.attrs.length,X10 _,?_⟩;refine An h fun h=>?_;refine AL h (fun _=>Ea) ?_;rintro⟨_,v14⟩ h;refine An h fun h=>?_;refine AL h (fun _=>Gs) fun _ h=>?_;refine An h fun h=>?_;refine⟨v14.gone6.length,X10 _,?_⟩;exact AN h
 rintro v4 h;refine goC ?_;refine AT h ?_ ?_<;>intro h
 ·exact fin h
 exact fin h
theorem LC {r:Bool}(h:G1=some r):yC wl 24 [] [] (.d (D.b r)) []:=by
 refine oK Tryz.f24 ⟨rfl,?_⟩;unfold G1 at h;refine .inl (dO ?_);refine Ap h (fun _=>LJ) (fun _=>rfl) fun _ h=>?_;refine⟨rfl,?_⟩;refine Ap h (fun _=>Oh) (fun _=>rfl) ?_;rintro⟨v3,_⟩ h;refine cO ?_;refine⟨rfl,?_⟩;refine HS h (fun _=>K9) ?_;rintro⟨_,_⟩ h;refine AM h (fun v9=>⟨yb v9::dd 34 ([]),nn 35 ([])⟩) ?_ ?_
 ·intro _ h;refine AW h fun h=>?_;refine⟨v3,rfl,?_⟩;refine AW h fun h=>?_;exact selC h
 rintro v9 h;exact fin h
theorem SN {a0:List UInt8}{r:Bool}(h:JM a0=some r):yC wl 26 [AV.d (D.l 1 D.u8 a0)] [] (.d (D.b r)) []:=by
 refine oK Tryz.f26 ⟨rfl,?_⟩;unfold JM at h;refine⟨a0.length,X10 _,?_⟩;exact fin h
theorem Im {a0:JAI}{a1:Int}{r:(List UInt8)×JAI}(h:FW a0 a1=some r):yC wl 56 [.ref 0 0,AV.d (D.i a1)] [.box (JAI.av a0)] (.d (D.l 1 D.u8 r.1)) [.box (JAI.av r.2)]:=by
 refine oK Tryz.f56 ⟨rfl,?_⟩;unfold FW at h;refine AL h (fun _=>AG) ?_;rintro⟨_,_⟩ h;refine AM h (fun (v4,v5)=>⟨dd 5 (yO 6 D.u8 v5::dd 37 ([])),Ye v5 v4⟩) ?_ ?_
 ·intro _ h;revert h;refine AZ (fun (v7,v8,v9)=>⟨yr 0 0::yi a1::X::X::X::yO 6 D.u8 v9::yi v7::dd 36 ([]),Ye v9 v8⟩) ?_ ?_
  ·exact wk
  rintro _ ⟨v7,v8,v9⟩ _ h p12;refine goC ?_;refine AW h fun h=>?_;refine AM h (fun (v13,v14)=>⟨yr 0 0::yi a1::X::X::X::yO 6 D.u8 v14::yi v7::dd 36 ([]),Ye v14 v13⟩) ?_ ?_
  ·intro _ h;refine⟨_,rfl,?_⟩;refine AL h (fun _=>AG) ?_;rintro⟨_,_⟩ h;refine AL h (fun _=>AG) ?_;rintro⟨_,v20⟩ h;refine AM h (fun v22=>⟨yr 0 0::yi a1::X::X::X::yO 6 D.u8 v9::yi v7::yi v22::dd 35 ([]),Ye v9 v20⟩) ?_ ?_
   ·intro _ h;refine AW h fun h=>?_;refine⟨_,rfl,?_⟩;exact AN h
   rintro v22 h;refine⟨_,Ae _,?_⟩;refine⟨rfl,?_⟩;refine apO (f:=D.u8) h rfl fun _ h=>?_;refine AM h (fun (v26,v27)=>⟨yr 0 0::yi a1::X::X::X::yO 6 D.u8 v27::yi v7::dd 36 ([]),Ye v27 v26⟩) ?_ ?_
   ·intro _ h;revert h;refine AZ (fun (v29,v30,v31)=>⟨yr 0 0::yi a1::X::X::X::yO 6 D.u8 v31::yi v7::yi v22::yi v29::dd 34 ([]),Ye v31 v30⟩) ?_ ?_
    ·exact wk
    rintro _ ⟨v29,v30,v31⟩ _ h p34;refine⟨_,rfl,?_⟩;refine⟨by decide,_,rfl,?_⟩;refine goC ?_;refine AW h fun h=>?_;refine goC ?_;refine AL h (fun _=>AG) ?_;rintro⟨_,_⟩ h;refine⟨_,Ae _,?_⟩;refine⟨rfl,?_⟩;refine apO (f:=D.u8) h rfl fun _ h=>?_;refine⟨_,rfl,?_⟩;exact p34 _ _ wk h
   rintro⟨v26,v27⟩ h;exact AN h
  rintro⟨v13,v14⟩ h;refine⟨_,rfl,?_⟩;exact p12 _ _ wk h
 rintro⟨v4,v5⟩ h;(conv=>whnf);refine .inl ?_;(conv=>whnf);refine .inl ?_;refine⟨rfl,?_⟩;exact fin h
theorem Rz {a0:JAI}{r:(List UInt8)×JAI}(h:Hj a0=some r):yC wl 27 [.ref 0 0] [.box (JAI.av a0)] (.d (D.l 1 D.u8 r.1)) [.box (JAI.av r.2)]:=by
 refine oK Tryz.f27 ⟨rfl,?_⟩;unfold Hj at h;refine AL h (fun _=>AG) ?_;rintro⟨_,_⟩ h;refine goC ?_;refine AT h ?_ ?_<;>intro h
 ·refine AL h (fun _=>Lj) ?_;rintro⟨_,_⟩ h;refine AL h (fun _=>P1) ?_;rintro⟨_,_⟩ h;exact fin h
 refine AL h (fun _=>Hh) ?_;rintro⟨_,_⟩ h;refine AL h (fun _=>KR) ?_;rintro⟨_,_⟩ h;refine AL h (fun _=>AG) ?_;rintro⟨_,_⟩ h;refine AM h (fun (v19,v20)=>⟨yr 0 0::dd 4 (y4 v19::dd 153 ([])),yB (JAI.av v20)::nn 159 ([])⟩) ?_ ?_
 ·intro _ h;revert h;refine AZ (fun (v22,v23,v24)=>⟨yr 0 0::dd 4 (y4 v22::X::yi v23::dd 151 ([])),yB (JAI.av v24)::nn 159 ([])⟩) ?_ ?_
  ·exact wk
  rintro _ ⟨v22,v23,v24⟩ _ h p27;refine goC ?_;refine AW h fun h=>?_;refine goC ?_;refine .inl (dO ?_);refine Ap h (fun _=>AG) (fun _=>rfl) ?_;rintro⟨_,_⟩ h;refine Ap h (fun _=>AG) (fun _=>rfl) ?_;rintro⟨_,_⟩ h;refine⟨_,rfl,?_⟩;obtain⟨_,g34,h⟩:=AH h;refine⟨Ce g34,_,rfl,?_⟩;obtain⟨v35,g36,h⟩:=AH h;refine⟨rfl,BM (f:=D.i) g36,?_⟩;refine⟨rfl,D.i v35,(BW (f:=D.i) g36),?_⟩;refine Ap h (fun _=>AG) (fun _=>rfl) ?_;rintro⟨v37,_⟩ h;refine⟨_,rfl,?_⟩;refine Ap h (fun _=>AG) (fun _=>rfl) ?_;rintro⟨_,_⟩ h;refine⟨by decide,_,rfl,?_⟩;refine⟨_,rfl,?_⟩;refine⟨_,Ae _,?_⟩;refine cO ?_;refine AM h (fun (v43,v44)=>⟨yr 0 0::dd 4 (y4 v22::X::yi v23::yr 9 0::dd 150 ([])),yB (JAI.av v43)::nn 8 (yB [yi v35,yi (AD (14+v37)),yO 55 D.u8 v44]::nn 45 (yR 5 1 D.u8 v44::nn 104 ([])))⟩) ?_ ?_
  ·intro _ h;refine AW h fun h=>?_;refine .inl (dO ?_);refine Ap h (fun _=>AG) (fun _=>rfl) ?_;rintro⟨_,_⟩ h;refine⟨by decide,_,rfl,?_⟩;refine⟨_,rfl,?_⟩;refine⟨_,Ae _,?_⟩;refine⟨rfl,?_⟩;refine apO (f:=D.u8) h rfl fun _ h=>?_;refine Ap h (fun _=>AG) (fun _=>rfl) ?_;rintro⟨_,_⟩ h;refine⟨by decide,_,rfl,?_⟩;refine⟨_,rfl,?_⟩;obtain⟨_,g54,h⟩:=AH h;obtain⟨v55,g56,h⟩:=AH h;refine⟨Rn rfl g54 (X29 rfl) g56,D.u8 (0:UInt8),rfl,List.map D.u8 v55,Q8 (f:=D.u8) g56,?_⟩;refine cO ?_;refine .inl (dO ?_);refine Ap h (fun _=>AG) (fun _=>rfl) ?_;rintro⟨_,_⟩ h;refine⟨by decide,_,rfl,?_⟩;refine⟨_,Ae _,?_⟩;refine⟨rfl,?_⟩;refine apO (f:=D.u8) h rfl fun _ h=>?_;refine cO ?_;exact AN h
  rintro⟨v43,v44⟩ h;refine .inl (dO ?_);refine Ap h (fun _=>Im) (fun _=>rfl) ?_;rintro⟨_,_⟩ h;refine apO (f:=D.u8) h rfl fun _ h=>?_;refine cO ?_;refine⟨v22.length,X10 _,?_⟩;refine⟨_,rfl,?_⟩;refine AL h (fun _=>AG) ?_;rintro⟨_,_⟩ h;refine .inl (dO ?_);(conv=>whnf);refine Eb (f:=JAA.toD) h fun _ h=>?_;refine apN (f:=JAA.toD) h fun _ h=>?_;(conv=>whnf);refine .inl ?_;refine⟨rfl,?_⟩;refine⟨rfl,?_⟩;refine apO (f:=JAA.toD) h rfl fun _ h=>?_;(conv=>whnf);refine Hu (f:=JAA.toD) h fun _ h=>?_;refine apO (f:=JAA.toD) h rfl fun _ h=>?_;refine cO ?_;refine⟨_,rfl,?_⟩;exact p27 _ _ wk h
 rintro⟨v19,v20⟩ h;refine AM h (fun (v79,v80)=>⟨yr 0 0::dd 4 (y4 v19::dd 106 (yb v79::dd 46 ([]))),yB (JAI.av v80)::nn 159 ([])⟩) ?_ ?_
 ·intro _ h;refine⟨v19.length,X10 _,?_⟩;refine AW h fun h=>?_;refine AL h (fun _=>AG) ?_;rintro⟨_,_⟩ h;exact AN h
 rintro⟨v79,v80⟩ h;refine AM h (fun (v85,v86)=>⟨yr 0 0::dd 4 (y4 v85::dd 153 ([])),yB (JAI.av v86)::nn 159 ([])⟩) ?_ ?_
 ·intro _ h;refine AW h fun h=>?_;refine⟨v19.length,X10 _,?_⟩;refine AL h (fun _=>AG) ?_;rintro⟨_,_⟩ h;refine .inl (dO ?_);(conv=>whnf);refine Eb (f:=JAA.toD) h fun _ h=>?_;refine apN (f:=JAA.toD) h fun _ h=>?_;refine⟨_,rfl,?_⟩;(conv=>whnf);refine Hu (f:=JAA.toD) h fun _ h=>?_;refine apO (f:=JAA.toD) h rfl fun _ h=>?_;refine cO ?_;exact AN h
 rintro⟨v85,v86⟩ h;refine AL h (fun _=>Ly) ?_;rintro⟨v98,_⟩ h;refine AL h (fun _=>Im) ?_;rintro⟨v101,_⟩ h;refine⟨v101.length,X10 _,?_⟩;refine⟨by decide,_,rfl,?_⟩;refine⟨_,Ae _,?_⟩;refine⟨v101.length,X10 _,?_⟩;refine⟨_,Ae _,?_⟩;refine apO (f:=D.u8) h rfl fun _ h=>?_;refine⟨v98.length,X10 _,?_⟩;refine⟨by decide,_,rfl,?_⟩;refine⟨_,Ae _,?_⟩;refine⟨v98.length,X10 _,?_⟩;refine⟨_,Ae _,?_⟩;refine⟨rfl,?_⟩;refine apO (f:=D.u8) h rfl fun _ h=>?_;refine apO (f:=D.u8) h rfl fun _ h=>?_;refine AL h (fun _=>Im) ?_;rintro⟨_,_⟩ h;refine apO (f:=D.u8) h rfl fun _ h=>?_;(conv=>whnf);refine .inl ?_;(conv=>whnf);refine .inl ?_;refine⟨rfl,?_⟩;exact fin h
theorem QX {a0:List UInt8}{a1:Int}{a2:Int}{r:(List UInt8)}(h:G0 a0 a1 a2=some r):yC wl 28 [AV.d (D.l 1 D.u8 a0),AV.d (D.i a1),AV.d (D.i a2)] [] (.d (D.l 1 D.u8 r)) []:=by
 refine oK Tryz.f28 ⟨rfl,?_⟩;unfold G0 at h;refine apN (f:=D.u8) h fun _ h=>?_;refine⟨a0.length,Bi,?_⟩;refine goC ?_;refine AT h ?_ ?_<;>intro h
 ·refine⟨_,Ae _,?_⟩;(conv=>whnf);refine .inl ?_;(conv=>whnf);refine .inl ?_;refine⟨rfl,?_⟩;exact fin h
 refine⟨a0.length,Bi,?_⟩;refine AL h (fun _=>KC) fun v2 h=>?_;refine⟨by decide,_,rfl,?_⟩;refine AL h (fun _=>KC) fun _ h=>?_;refine goC ?_;refine goC ?_;refine AT h ?_ ?_<;>intro h
 ·refine⟨_,Ae _,?_⟩;obtain⟨v6,g7,h⟩:=AH h;refine⟨rfl,BM (f:=D.u8) g7,?_⟩;obtain⟨v8,g9,h⟩:=AH h;have g9l:=G8 g9;refine⟨rfl,rfl,D.u8 v6,(BW (f:=D.u8) g7),?_⟩;refine⟨_,KE (f:=D.u8) g9,?_⟩;(conv=>whnf);refine .inl ?_;(conv=>whnf);refine .inl ?_;refine⟨Bi,?_⟩;exact fin h
 refine goC ?_;refine AT h ?_ ?_<;>intro h
 ·refine .inl (dO ?_);(conv=>whnf);refine .inr (.inl ?_);obtain⟨_,g10,h⟩:=AH h;have g12c:=Ce g10;refine⟨QV (f:=D.u8) g10,rfl,(Int.toNat 0),(Int.toNat v2-Int.toNat 0),rfl,rfl,?_⟩;refine⟨_,rfl,?_⟩;(conv=>whnf);refine .inr (.inl ?_);obtain⟨_,g11,h⟩:=AH h;have g14c:=Ce g11;refine⟨Gx (f:=D.u8) g11,rfl,(Int.toNat (AD (v2+1))),(Int.toNat (a0.length:Int)-Int.toNat (AD (v2+1))),rfl,(by rw[X10]),?_⟩;refine⟨Bi,List.map D.u8 (List.take (Int.toNat (a0.length:Int)-Int.toNat (AD (v2+1))) (List.drop (Int.toNat (AD (v2+1))) a0)),KT,?_⟩;obtain⟨v12,g13,h⟩:=AH h;refine⟨rfl,rfl,(by simp only[X10];omega),eP (g:=D.u8) g13 (by omega),_,ew (f:=D.u8) g13,?_⟩;refine cO ?_;(conv=>whnf);refine .inl ?_;(conv=>whnf);refine .inl ?_;refine⟨rfl,?_⟩;exact fin h
 refine goC ?_;refine AT h ?_ ?_<;>intro h
 ·refine .inl (dO ?_);(conv=>whnf);refine .inr (.inl ?_);obtain⟨_,g14,h⟩:=AH h;have g18c:=Ce g14;refine⟨QV (f:=D.u8) g14,rfl,(Int.toNat 0),(Int.toNat v2-Int.toNat 0),rfl,rfl,?_⟩;refine⟨Bi,List.map D.u8 (List.take (Int.toNat v2-Int.toNat 0) (List.drop (Int.toNat 0) a0)),KT,?_⟩;refine apN (f:=D.u8) h fun _ h=>?_;refine⟨_,Ae _,?_⟩;refine⟨rfl,?_⟩;refine apO (f:=D.u8) h rfl fun _ h=>?_;(conv=>whnf);refine .inr (.inl ?_);obtain⟨_,g18,h⟩:=AH h;have g24c:=Ce g18;refine⟨Gx (f:=D.u8) g18,rfl,(Int.toNat v2),(Int.toNat (a0.length:Int)-Int.toNat v2),rfl,(by rw[X10]),?_⟩;refine⟨Bi,List.map D.u8 (List.take (Int.toNat (a0.length:Int)-Int.toNat v2) (List.drop (Int.toNat v2) a0)),KT,?_⟩;refine apO (f:=D.u8) h rfl fun _ h=>?_;refine cO ?_;(conv=>whnf);refine .inl ?_;(conv=>whnf);refine .inl ?_;refine⟨rfl,?_⟩;exact fin h
 (conv=>whnf);refine .inl ?_;refine⟨rfl,?_⟩;(conv=>whnf);refine Eb (f:=D.u8) h fun _ h=>?_;exact fin h
theorem DD {a0:List (List JAC)}{r:(List JAC)}(h:A0 a0=some r):yC wl 59 [AV.d (D.l 1 (D.l 4 JAC.toD) a0)] [] (AV.own 0 (List.map JAC.toD r).length) [.row 41 4 (List.map JAC.toD r) .no]:=by
 refine oKx 27 Tryz.f59 ⟨rfl,?_⟩;unfold A0 at h;refine⟨a0.length,X10 _,?_⟩;refine AM h (fun v1=>⟨AV.d (D.l 1 (D.l 4 JAC.toD) a0)::X::X::yi v1::dd 32 ([]),nn 63 ([])⟩) ?_ ?_
 ·intro _ h;revert h;refine Aa 9 1 (D.l 4 JAC.toD) rfl (fun i3 v4=>⟨AV.d (D.l 1 (D.l 4 JAC.toD) a0)::X::X::yi v4::dd 5 (AV.d (D.l 1 (D.l 4 JAC.toD) a0)::yi (a0.length:Int)::yi (i3:Int)::dd 24 ([])),nn 63 ([])⟩) ?_ ?_ ?_
  ·exact wk
  ·rintro v4 K5 h;refine goC ?_;refine BI CX ?_;exact AN h
  rintro _ i3 x7 v4 K5 b3 c3 e3 h p8;refine goC ?_;refine BB (CO b3) ?_;refine goC ?_;refine⟨BD (f:=(D.l 4 JAC.toD)) b3,(D.l 4 JAC.toD) x7,c3,rfl,?_⟩;refine⟨x7.length,X10 _,?_⟩;refine⟨_,rfl,?_⟩;refine goC ?_;refine AT h ?_ ?_<;>intro h
  ·exact nomatch h
  refine⟨_,e3,?_⟩;exact p8 _ _ wk h
 rintro v1 h;refine AM h (fun v9=>⟨AV.d (D.l 1 (D.l 4 JAC.toD) a0)::dd 23 (yO 35 JAC.toD v9::dd 11 ([])),nn 35 (yR 41 4 JAC.toD v9::nn 27 ([]))⟩) ?_ ?_
 ·intro _ h;(conv=>whnf);refine inl Tryz.f112 36 (by kernel_rfl) (by kernel_rfl) ⟨rfl,?_⟩;refine goC ?_;refine AT h ?_ ?_<;>intro h
  ·exact nomatch h
  refine⟨_,rfl,?_⟩;refine⟨_,rfl,?_⟩;refine AM h (fun v11=>⟨yO 61 JAC.toD v11::dd 26 ([]),nn 61 (yR 41 4 JAC.toD v11::N::[])⟩) ?_ ?_
  ·intro _ h;refine AW h fun h=>?_;(conv=>whnf);refine .inr ?_;refine⟨⟨rfl,rfl⟩,?_⟩;obtain⟨_,g13,h⟩:=AH h;refine⟨eY g13 (X29 rfl),JAC.toD (⟨(⟨false,(0:UInt64),(0:UInt64)⟩:Addr),0⟩:JAC),rfl,(List.map JAC.toD (List.replicate (Int.toNat (AD (v1-(AD (0-0))))) (⟨(⟨false,(0:UInt64),(0:UInt64)⟩:Addr),0⟩:JAC))),List.map_replicate.symm,?_⟩;(conv=>whnf);refine .inr (.inr ?_);obtain⟨v14,g15,h⟩:=AH h;refine⟨RU (f:=JAC.toD) g15,rfl,_,MJ (f:=JAC.toD) g15,?_⟩;exact AN h
  rintro v11 h;exact BH (.swap 61 35 rfl rfl rfl wk) h
 rintro v9 h;refine⟨a0.length,X10 _,?_⟩;refine AM h (fun v16=>⟨dd 6 (yO 35 JAC.toD v16::dd 29 ([])),nn 35 (yR 41 4 JAC.toD v16::nn 27 ([]))⟩) ?_ ?_
 ·intro _ h;revert h;refine Aa 25 1 (D.l 4 JAC.toD) rfl (fun i18 v19=>⟨dd 6 (yO 35 JAC.toD v19::dd 18 (AV.d (D.l 1 (D.l 4 JAC.toD) a0)::yi (a0.length:Int)::yi (i18:Int)::dd 8 ([]))),nn 35 (yR 41 4 JAC.toD v19::nn 27 ([]))⟩) ?_ ?_ ?_
  ·exact wk
  ·rintro v19 K20 h;refine goC ?_;refine BI CX ?_;exact AN h
  rintro _ i18 x22 v19 K20 b18 c18 e18 h p23;refine goC ?_;refine BB (CO b18) ?_;refine goC ?_;refine⟨BD (f:=(D.l 4 JAC.toD)) b18,(D.l 4 JAC.toD) x22,c18,rfl,?_⟩;refine apO (f:=JAC.toD) h rfl fun _ h=>?_;refine⟨_,e18,?_⟩;exact p23 _ _ wk h
 rintro v16 h;(conv=>whnf);refine .inl ?_;(conv=>whnf);refine .inr ?_;exact fin h
theorem Ig {a0:JAA}{r:Bool}(h:B8 a0=some r):yC wl 123 [AV.d (JAA.toD a0)] [] (.d (D.b r)) []:=by
 refine oK Tryz.f123 ⟨rfl,?_⟩;unfold B8 at h;refine AM h (fun v1=>⟨X::X::yb v1::dd 14 ([]),nn 17 ([])⟩) ?_ ?_
 ·intro _ h;refine AT h ?_ ?_<;>intro h
  ·refine⟨_,rfl,?_⟩;exact AN h
  refine AW h fun h=>?_;refine⟨_,rfl,?_⟩;exact AN h
 rintro v1 h;exact fin h
theorem CP {a0:List JAA}{r:Int}(h:Au a0=some r):yC wl 147 [AV.d (D.l 3 JAA.toD a0),AV.fn 123 []] [] (.d (D.i r)) []:=by
 refine oK Tryz.f147 ⟨rfl,?_⟩;unfold Au at h;refine⟨a0.length,X10 _,?_⟩;refine AM h (fun _=>⟨dd 19 ([]),nn 19 ([])⟩) ?_ ?_
 ·intro _ h;revert h;refine Aa 6 3 JAA.toD rfl (fun i2 _=>⟨y4 a0::AV.fn 123 []::dd 4 (y4 a0::yi (a0.length:Int)::yi (i2:Int)::dd 10 ([])),nn 19 ([])⟩) ?_ ?_ ?_
  ·exact wk
  ·rintro _ K3 h;refine goC ?_;refine BI CX ?_;exact AN h
  rintro _ i2 x5 _ K3 b2 c2 e2 h p6;refine goC ?_;refine BB (CO b2) ?_;refine goC ?_;refine⟨BD (f:=JAA.toD) b2,JAA.toD x5,c2,rfl,?_⟩;refine AL h (fun _=>Ig) fun _ h=>?_;refine goC ?_;refine AT h ?_ ?_<;>intro h
  ·exact fin h
  refine⟨_,e2,?_⟩;exact p6 _ _ wk h
 rintro _ h;exact fin h
theorem B6 {a0:List JAA}{r:Bool}(h:Ag a0=some r):yC wl 114 [AV.d (D.l 3 JAA.toD a0),AV.fn 123 []] [] (.d (D.b r)) []:=by
 refine oK Tryz.f114 ⟨rfl,?_⟩;unfold Ag at h;refine AL h (fun _=>CP) fun _ h=>?_;exact fin h
theorem JL {a0:JAH}{a1:JAE}{a2:Int}{r:Bool×JAH}(h:DW a0 a1 a2=some r):yC wl 62 [.ref 0 0,AV.d (JAE.toD a1),AV.d (D.i a2)] [.box (JAH.av a0)] (.d (D.b r.1)) [.box (JAH.av r.2)]:=by
 refine oK Tryz.f62 ⟨rfl,?_⟩;unfold DW at h;refine AM h (fun (v1,v2)=>⟨dd 6 (yb v1::dd 35 ([])),yB (JAH.av v2)::nn 42 ([])⟩) ?_ ?_
 ·intro _ h;refine An h fun h=>?_;refine AL h (fun _=>B6) fun _ h=>?_;refine An h fun h=>?_;refine AL h (fun _=>Ea) ?_;rintro⟨_,_⟩ h;refine An h fun h=>?_;refine AL h (fun _=>Ea) ?_;rintro⟨_,v10⟩ h;refine An h fun h=>?_;refine⟨v10.new4.length,X10 _,?_⟩;exact selC h
 rintro⟨v1,v2⟩ h;exact fin h
theorem Om {a0:List UInt8}{r:JAG×Int}(h:FM a0=some r):yC wl 29 [AV.d (D.l 1 D.u8 a0)] [] (.tup [.d (JAG.toD r.1),.d (D.i r.2)]) []:=by
 refine oK Tryz.f29 ⟨rfl,?_⟩;unfold FM at h;obtain⟨⟨v1,v2⟩,g3,h⟩:=AH h;refine⟨_,_,some [],(G9 g3).box1 ⟨.inr ⟨_,rfl,rfl⟩,.inl rfl,.inl rfl,.inl rfl,.inr ⟨_,rfl,rfl⟩,.inr ⟨_,rfl,rfl⟩,.inr ⟨_,rfl,rfl⟩,.inr ⟨_,rfl,rfl⟩,True.intro⟩,?_⟩;refine goC ?_;refine AT h ?_ ?_<;>intro h
 ·exact fin h
 refine .inl (dO ?_);refine⟨rfl,?_⟩;refine X7 h (fun _=>DD) rfl fun v4 h=>?_;refine Ap h (fun _=>MS) (fun _=>rfl) fun v6 h=>?_;refine cO ?_;refine .inl (dO ?_);refine⟨rfl,?_⟩;refine X7 h (fun _=>DD) rfl fun v8 h=>?_;refine cO ?_;refine⟨v8.length,Bi,?_⟩;refine goC ?_;refine AT h ?_ ?_<;>intro h
 ·refine⟨rfl,?_⟩;exact fin h
 refine AL h (fun _=>IM) ?_;rintro⟨_,_⟩ h;refine AL h (fun _=>JL) ?_;rintro⟨_,v14⟩ h;refine goC ?_;refine AT h ?_ ?_<;>intro h
 ·refine⟨rfl,?_⟩;refine apO (f:=JAC.toD) h rfl fun _ h=>?_;refine⟨rfl,?_⟩;exact fin h
 refine⟨v14.new6.length,X10 _,?_⟩;refine AM h (fun v18=>⟨X::X::yr 2 0::X::X::yr 5 0::yO 37 JAC.toD v8::yr 7 0::dd 68 ([]),N::N::yB JAG.zv::N::N::yB [yO 25 JAC.toD v4,AV.d (D.i v6.Origin),AV.d (D.l 2 JAD.toD v6.Path),AV.d (D.b v6.Next.V6),AV.d (D.u64 v6.Next.Hi),AV.d (D.u64 v6.Next.Lo),AV.d (D.i v6.MED),AV.d (D.i v6.Pref),AV.d (D.i v6.OTC),AV.d (D.l 2 JAB.toD v6.Communities),AV.d (D.l 3 JAF.toD v6.JAF),AV.d (D.l 3 JAA.toD v6.Other),AV.d (D.nil 4)]::N::yB (JAE.av v18)::nn 17 (yR 41 4 JAC.toD v4::nn 11 (yR 41 4 JAC.toD v8::nn 38 ([])))⟩) ?_ ?_
 ·intro _ h;exact selC h
 rintro v18 h;refine⟨rfl,?_⟩;refine⟨rfl,?_⟩;exact fin h
theorem Ii {a0:List UInt8}{r:(List UInt8)×(List UInt8)×Bool}(h:ER a0=some r):yC wl 63 [AV.d (D.l 1 D.u8 a0)] [] (.tup [.d (D.l 1 D.u8 r.1),.d (D.l 1 D.u8 r.2.1),.d (D.b r.2.2)]) []:=by
 refine oK Tryz.f63 ⟨rfl,?_⟩;unfold ER at h;refine⟨a0.length,X10 _,?_⟩;refine goC ?_;refine AT h ?_ ?_<;>intro h
 ·exact fin h
 refine .inl (dO ?_);(conv=>whnf);refine Av h (fun _=>rfl) fun v1 h=>?_;refine⟨_,BG v1,?_⟩;refine⟨by decide,_,rfl,?_⟩;(conv=>whnf);refine Av h (fun _=>rfl) fun v3 h=>?_;refine⟨_,BG v3,?_⟩;refine⟨_,rfl,?_⟩;refine cO ?_;refine⟨a0.length,X10 _,?_⟩;refine⟨_,rfl,?_⟩;refine goC ?_;refine AT h ?_ ?_<;>intro h
 ·exact fin h
 refine .inl (dO ?_);refine⟨_,rfl,?_⟩;(conv=>whnf);refine Eb (f:=D.u8) h fun _ h=>?_;refine⟨_,rfl,?_⟩;(conv=>whnf);refine Hu (f:=D.u8) h fun _ h=>?_;refine cO ?_;exact fin h
theorem KL {a0:List UInt8}{r:(List JAA)×Int}(h:Eo a0=some r):yC wl 65 [AV.d (D.l 1 D.u8 a0)] [] (.tup [.d (D.l 3 JAA.toD r.1),.d (D.i r.2)]) []:=by
 refine oK Tryz.f65 ⟨rfl,?_⟩;unfold Eo at h;refine AM h (fun v1=>⟨dd 4 (yO 4 JAA.toD v1::dd 59 ([])),nn 4 (yR 88 3 JAA.toD v1::nn 59 ([]))⟩) ?_ ?_
 ·intro _ h;revert h;refine AZ (fun (v3,v4)=>⟨y3 v3::X::X::X::yO 4 JAA.toD v4::dd 59 ([]),nn 4 (yR 88 3 JAA.toD v4::nn 59 ([]))⟩) ?_ ?_
  ·exact wk
  rintro _ ⟨v3,v4⟩ _ h p7;refine⟨v3.length,X10 _,?_⟩;refine goC ?_;refine AW h fun h=>?_;refine goC ?_;(conv=>whnf);refine Av h (fun _=>rfl) fun _ h=>?_;refine⟨_,Ae _,?_⟩;refine AM h (fun v10=>⟨y3 v3::X::X::X::yO 4 JAA.toD v4::yi v10::dd 58 ([]),nn 4 (yR 88 3 JAA.toD v4::nn 59 ([]))⟩) ?_ ?_
  ·intro _ h;exact selC h
  rintro v10 h;refine⟨v3.length,X10 _,?_⟩;refine goC ?_;refine AT h ?_ ?_<;>intro h
  ·(conv=>whnf);refine .inl ?_;refine⟨rfl,?_⟩;exact fin h
  (conv=>whnf);refine Av h (fun _=>rfl) fun v12 h=>?_;refine⟨_,BG v12,?_⟩;refine AM h (fun v14=>⟨y3 v3::X::X::X::yO 4 JAA.toD v4::yi v10::yi v14::dd 57 ([]),nn 4 (yR 88 3 JAA.toD v4::nn 59 ([]))⟩) ?_ ?_
  ·intro _ h;refine AW h fun h=>?_;refine⟨by decide,_,rfl,?_⟩;(conv=>whnf);refine Av h (fun _=>rfl) fun v16 h=>?_;refine⟨_,BG v16,?_⟩;refine⟨_,rfl,?_⟩;exact AN h
  rintro v14 h;refine⟨v3.length,X10 _,?_⟩;refine⟨_,rfl,?_⟩;refine goC ?_;refine AT h ?_ ?_<;>intro h
  ·(conv=>whnf);refine .inl ?_;refine⟨rfl,?_⟩;exact fin h
  refine .inl (dO ?_);(conv=>whnf);refine Av h (fun _=>rfl) fun v18 h=>?_;refine⟨_,Ae _,?_⟩;refine⟨_,BG (Am ((BitVec.ofInt 8 (v18.toNat:Int) &&& BitVec.ofInt 8 224).toNat:Int)),?_⟩;(conv=>whnf);refine Av h (fun _=>rfl) fun v20 h=>?_;refine⟨_,BG v20,?_⟩;refine⟨_,rfl,?_⟩;(conv=>whnf);refine Eb (f:=D.u8) h fun _ h=>?_;refine apN (f:=D.u8) h fun _ h=>?_;(conv=>whnf);refine .inl ?_;refine⟨rfl,?_⟩;refine⟨rfl,?_⟩;refine apO (f:=JAA.toD) h rfl fun _ h=>?_;refine cO ?_;refine⟨_,rfl,?_⟩;(conv=>whnf);refine Hu (f:=D.u8) h fun _ h=>?_;exact p7 _ _ wk h
 rintro v1 h;(conv=>whnf);refine .inl ?_;refine⟨rfl,?_⟩;exact fin h
theorem Ij {a0:List JAA}{a1:Int}{r:JAA×Int}(h:FX a0 a1=some r):yC wl 66 [AV.d (D.l 3 JAA.toD a0),AV.d (D.i a1)] [] (.tup [.d (JAA.toD r.1),.d (D.i r.2)]) []:=by
 refine oK Tryz.f66 ⟨rfl,?_⟩;unfold FX at h;refine⟨a0.length,X10 _,?_⟩;refine AM h (fun (v1,v2)=>⟨dd 4 (yr 4 0::X::yr 6 0::yi v1::dd 20 ([])),bL v2⟩) ?_ ?_
 ·intro _ h;revert h;refine Aa 10 3 JAA.toD rfl (fun i4 (v5,v6)=>⟨dX a1 v5 (a0.length:Int) (i4:Int) a0,bL v6⟩) ?_ ?_ ?_
  ·exact wk
  ·rintro⟨v5,v6⟩ K7 h;refine goC ?_;refine BI CX ?_;exact AN h
  rintro _ i4 x9 ⟨v5,v6⟩ K7 b4 c4 e4 h p10;refine goC ?_;refine BB (CO b4) ?_;refine goC ?_;refine⟨BD (f:=JAA.toD) b4,JAA.toD x9,c4,rfl,?_⟩;refine AM h (fun (v11,v12)=>⟨dX a1 v11 (a0.length:Int) (i4:Int) a0,bL v12⟩) ?_ ?_
  ·intro _ h;refine AW h fun h=>?_;refine⟨_,rfl,?_⟩;refine AM h (fun v14=>⟨dX a1 (AD (v5+1)) (a0.length:Int) (i4:Int) a0,bL v14⟩) ?_ ?_
   ·intro _ h;exact selC h
   rintro v14 h;exact AN h
  rintro⟨v11,v12⟩ h;refine⟨_,e4,?_⟩;exact p10 _ _ wk h
 rintro⟨v1,v2⟩ h;exact fin h
theorem QT {a0:JAA}{a1:Int}{r:Addr×(List JAC)×Bool}(h:DC a0 a1=some r):yC wl 67 [AV.d (JAA.toD a0),AV.d (D.i a1)] [] (.tup [.d (Addr.toD r.1),.d (D.l 4 JAC.toD r.2.1),.d (D.b r.2.2)]) []:=by
 refine oKx 64 Tryz.f67 ⟨rfl,?_⟩;unfold DC at h;refine goC ?_;refine AT h ?_ ?_<;>intro h
 ·exact fin h
 refine AM h (fun v1=>⟨dd 4 (yr 4 0::X::X::AV.d (D.l 1 D.u8 a0.Data)::dd 45 (yb v1::dd 16 ([]))),nn 4 (yB Addr.zv::nn 129 ([]))⟩) ?_ ?_
 ·intro _ h;refine An h fun h=>?_;refine⟨a0.Data.length,X10 _,?_⟩;refine An h fun h=>?_;(conv=>whnf);refine Av h (fun _=>rfl) fun _ h=>?_;refine An h fun h=>?_;(conv=>whnf);refine Av h (fun _=>rfl) fun _ h=>?_;refine An h fun h=>?_;(conv=>whnf);refine Av h (fun _=>rfl) fun _ h=>?_;refine An h fun h=>?_;(conv=>whnf);refine Av h (fun _=>rfl) fun _ h=>?_;refine An h fun h=>?_;(conv=>whnf);refine Av h (fun _=>rfl) fun _ h=>?_;exact AN h
 rintro v1 h;refine goC ?_;refine AT h ?_ ?_<;>intro h
 ·(conv=>whnf);refine .inl ?_;refine⟨rfl,?_⟩;exact fin h
 (conv=>whnf);refine Eb (f:=D.u8) h fun _ h=>?_;refine AL h (fun _=>Bq) ?_;rintro⟨v15,_⟩ h;(conv=>whnf);refine Hu (f:=D.u8) h fun _ h=>?_;refine AM h (fun (v20,v21)=>⟨dd 4 (yr 4 0::X::X::X::yr 8 0::dd 55 (AV.tup [yO 69 JAC.toD v21,yb v20]::dd 5 ([]))),nn 4 (yB Addr.zv::N::N::N::yB (Addr.av v15)::nn 60 (yR 41 4 JAC.toD v21::nn 64 ([])))⟩) ?_ ?_
 ·intro _ h;(conv=>whnf);refine inl Tryz.f64 70 (by kernel_rfl) (by kernel_rfl) ⟨rfl,?_⟩;refine goC ?_;refine AM h (fun v23=>⟨dd 6 (yO 76 JAC.toD v23::dd 57 ([])),du v23 v15⟩) ?_ ?_
  ·intro _ h;revert h;refine AZ (fun (v25,v26)=>⟨y3 v25::dd 5 (yO 76 JAC.toD v26::yi 16::dd 56 ([])),du v26 v15⟩) ?_ ?_
   ·exact wk
   rintro _ ⟨v25,v26⟩ _ h p29;refine⟨v25.length,X10 _,?_⟩;refine goC ?_;refine AW h fun h=>?_;refine goC ?_;(conv=>whnf);refine Av h (fun _=>rfl) fun v30 h=>?_;refine⟨_,BG v30,?_⟩;refine⟨_,rfl,?_⟩;refine⟨by decide,_,rfl,?_⟩;refine AM h (fun v32=>⟨y3 v25::dd 5 (yO 76 JAC.toD v26::yi 16::yi (v30.toNat:Int)::AV.d (D.i (AD (Int.tdiv (AD ((v30.toNat:Int)+7)) 8)))::dd 25 (yb v32::dd 28 ([]))),du v26 v15⟩) ?_ ?_
   ·intro _ h;refine⟨_,rfl,?_⟩;refine An h fun h=>?_;refine⟨v25.length,X10 _,?_⟩;refine⟨_,rfl,?_⟩;exact AN h
   rintro v32 h;refine goC ?_;refine AT h ?_ ?_<;>intro h
   ·exact BH (.swap 74 69 rfl rfl rfl wk) h
   refine⟨_,rfl,?_⟩;(conv=>whnf);refine Eb (f:=D.u8) h fun _ h=>?_;refine apN (f:=D.u8) h fun _ h=>?_;refine⟨_,rfl,?_⟩;obtain⟨_,g37,h⟩:=AH h;obtain⟨v38,g39,h⟩:=AH h;refine⟨Rn rfl g37 (X29 rfl) g39,D.u8 (0:UInt8),rfl,List.map D.u8 v38,Q8 (f:=D.u8) g39,?_⟩;refine⟨rfl,?_⟩;refine HS h (fun _=>Bq) ?_;rintro⟨_,_⟩ h;refine AL h (fun _=>EX) ?_;rintro⟨_,_⟩ h;refine .inl (dO ?_);refine⟨rfl,?_⟩;refine apO (f:=JAC.toD) h rfl fun _ h=>?_;refine⟨_,rfl,?_⟩;(conv=>whnf);refine Hu (f:=D.u8) h fun _ h=>?_;refine cO ?_;exact p29 _ _ wk h
  rintro v23 h;exact BH (.swap 76 69 rfl rfl rfl wk) h
 rintro⟨v20,v21⟩ h;(conv=>whnf);refine .inl ?_;refine⟨rfl,?_⟩;exact fin h
theorem Ov {a0:JAA}{a1:Int}{r:(List JAC)×Bool}(h:C6 a0 a1=some r):yC wl 68 [AV.d (JAA.toD a0),AV.d (D.i a1)] [] (.tup [.d (D.l 4 JAC.toD r.1),.d (D.b r.2)]) []:=by
 refine oKx 64 Tryz.f68 ⟨rfl,?_⟩;unfold C6 at h;refine goC ?_;refine AT h ?_ ?_<;>intro h
 ·exact fin h
 refine AM h (fun v1=>⟨dd 6 (AV.d (D.l 1 D.u8 a0.Data)::dd 28 (yb v1::dd 5 ([]))),nn 105 ([])⟩) ?_ ?_
 ·intro _ h;refine An h fun h=>?_;refine⟨a0.Data.length,X10 _,?_⟩;refine An h fun h=>?_;(conv=>whnf);refine Av h (fun _=>rfl) fun _ h=>?_;refine An h fun h=>?_;(conv=>whnf);refine Av h (fun _=>rfl) fun _ h=>?_;refine An h fun h=>?_;(conv=>whnf);refine Av h (fun _=>rfl) fun _ h=>?_;exact AN h
 rintro v1 h;refine goC ?_;refine AT h ?_ ?_<;>intro h
 ·(conv=>whnf);refine .inl ?_;refine⟨rfl,?_⟩;exact fin h
 (conv=>whnf);refine Hu (f:=D.u8) h fun _ h=>?_;refine AM h (fun (v11,v12)=>⟨dd 38 (AV.tup [yO 40 JAC.toD v12,yb v11]::X::X::[]),nn 40 (yR 41 4 JAC.toD v12::nn 64 ([]))⟩) ?_ ?_
 ·intro _ h;(conv=>whnf);refine inl Tryz.f64 41 (by kernel_rfl) (by kernel_rfl) ⟨rfl,?_⟩;refine goC ?_;refine AM h (fun v14=>⟨dd 6 (yO 47 JAC.toD v14::dd 57 ([])),nn 47 (yR 41 4 JAC.toD v14::nn 57 ([]))⟩) ?_ ?_
  ·intro _ h;revert h;refine AZ (fun (v16,v17)=>⟨y3 v16::dd 5 (yO 47 JAC.toD v17::yi 16::dd 56 ([])),nn 47 (yR 41 4 JAC.toD v17::nn 57 ([]))⟩) ?_ ?_
   ·exact wk
   rintro _ ⟨v16,v17⟩ _ h p20;refine⟨v16.length,X10 _,?_⟩;refine goC ?_;refine AW h fun h=>?_;refine goC ?_;(conv=>whnf);refine Av h (fun _=>rfl) fun v21 h=>?_;refine⟨_,BG v21,?_⟩;refine⟨_,rfl,?_⟩;refine⟨by decide,_,rfl,?_⟩;refine AM h (fun v23=>⟨y3 v16::dd 5 (yO 47 JAC.toD v17::yi 16::yi (v21.toNat:Int)::AV.d (D.i (AD (Int.tdiv (AD ((v21.toNat:Int)+7)) 8)))::dd 25 (yb v23::dd 28 ([]))),nn 47 (yR 41 4 JAC.toD v17::nn 57 ([]))⟩) ?_ ?_
   ·intro _ h;refine⟨_,rfl,?_⟩;refine An h fun h=>?_;refine⟨v16.length,X10 _,?_⟩;refine⟨_,rfl,?_⟩;exact AN h
   rintro v23 h;refine goC ?_;refine AT h ?_ ?_<;>intro h
   ·exact BH (.swap 45 40 rfl rfl rfl wk) h
   refine⟨_,rfl,?_⟩;(conv=>whnf);refine Eb (f:=D.u8) h fun _ h=>?_;refine apN (f:=D.u8) h fun _ h=>?_;refine⟨_,rfl,?_⟩;obtain⟨_,g28,h⟩:=AH h;obtain⟨v29,g30,h⟩:=AH h;refine⟨Rn rfl g28 (X29 rfl) g30,D.u8 (0:UInt8),rfl,List.map D.u8 v29,Q8 (f:=D.u8) g30,?_⟩;refine⟨rfl,?_⟩;refine HS h (fun _=>Bq) ?_;rintro⟨_,_⟩ h;refine AL h (fun _=>EX) ?_;rintro⟨_,_⟩ h;refine .inl (dO ?_);refine⟨rfl,?_⟩;refine apO (f:=JAC.toD) h rfl fun _ h=>?_;refine⟨_,rfl,?_⟩;(conv=>whnf);refine Hu (f:=D.u8) h fun _ h=>?_;refine cO ?_;exact p20 _ _ wk h
  rintro v14 h;exact BH (.swap 47 40 rfl rfl rfl wk) h
 rintro⟨v11,v12⟩ h;(conv=>whnf);refine .inl ?_;refine⟨rfl,?_⟩;exact fin h
theorem Qq {a0:List JAA}{r:(List JAA)}(h:F5 a0=some r):yC wl 124 [AV.d (D.l 3 JAA.toD a0)] [] (.d (D.l 3 JAA.toD r)) []:=by
 refine oK Tryz.f124 ⟨rfl,?_⟩;unfold F5 at h;refine⟨a0.length,X10 _,?_⟩;refine AM h (fun v1=>⟨X::X::X::yO 3 JAA.toD v1::dd 24 ([]),N::N::N::yR 88 3 JAA.toD v1::nn 24 ([])⟩) ?_ ?_
 ·intro _ h;revert h;refine Aa 8 3 JAA.toD rfl (fun i3 (v4,v5)=>⟨X::X::X::yO 3 JAA.toD v4::AV.mp 7::X::X::X::y4 a0::yi (a0.length:Int)::yi (i3:Int)::dd 17 ([]),N::N::N::yR 88 3 JAA.toD v4::N::N::N::some (OB.map 3 4 (Bv D.i D.b v5))::nn 20 ([])⟩) ?_ ?_ ?_
  ·exact wk
  ·rintro⟨v4,v5⟩ K6 h;refine goC ?_;refine BI CX ?_;exact AN h
  rintro _ i3 x8 ⟨v4,v5⟩ K6 b3 c3 e3 h p9;refine goC ?_;refine BB (CO b3) ?_;refine goC ?_;refine⟨BD (f:=JAA.toD) b3,JAA.toD x8,c3,rfl,?_⟩;obtain⟨v10,g11,h⟩:=AH h;refine⟨_,BZ (ek:=D.i) (ev:=D.b) (l:=v5) (k:=x8.Type_) BO,D.b v10,Ds (z:=false) rfl g11,_,rfl,?_⟩;refine AM h (fun v12=>⟨X::X::X::yO 3 JAA.toD v12::AV.mp 7::X::yr 6 0::X::y4 a0::yi (a0.length:Int)::yi (i3:Int)::dd 17 ([]),N::N::N::yR 88 3 JAA.toD v12::N::N::yB (JAA.av x8)::some (OB.map 3 4 (Bv D.i D.b v5))::nn 20 ([])⟩) ?_ ?_
  ·intro _ h;refine AW h fun h=>?_;refine⟨rfl,?_⟩;refine apO (f:=JAA.toD) h rfl fun _ h=>?_;exact AN h
  rintro v12 h;refine⟨_,EF (ek:=D.i) (ev:=D.b) (l:=v5) (k:=x8.Type_) (v:=true) BO,?_⟩;refine⟨_,e3,?_⟩;exact p9 _ _ wk h
 rintro v1 h;(conv=>whnf);refine .inl ?_;(conv=>whnf);refine .inl ?_;refine⟨rfl,?_⟩;exact fin h
theorem BJ {a0:List UInt8}{r:Int}(h:Az a0=some r):yC wl 153 [AV.d (D.l 1 D.u8 a0)] [] (.d (D.i r)) []:=by
 refine oK Tryz.f153 ⟨rfl,?_⟩;unfold Az at h;refine⟨a0.length,X10 _,?_⟩;refine AM h (fun v1=>⟨X::X::X::yi v1::dd 15 ([]),nn 19 ([])⟩) ?_ ?_
 ·intro _ h;revert h;refine Aa 6 1 D.u8 rfl (fun i3 v4=>⟨X::X::X::yi v4::X::X::y3 a0::yi (a0.length:Int)::yi (i3:Int)::dd 10 ([]),nn 19 ([])⟩) ?_ ?_ ?_
  ·exact wk
  ·rintro v4 K5 h;refine goC ?_;refine BI CX ?_;exact AN h
  rintro _ i3 x7 v4 K5 b3 c3 e3 h p8;refine goC ?_;refine BB (CO b3) ?_;refine goC ?_;refine⟨BD (f:=D.u8) b3,D.u8 x7,c3,rfl,?_⟩;refine⟨by decide,_,rfl,?_⟩;refine⟨_,BG x7,?_⟩;refine⟨_,rfl,?_⟩;refine⟨_,e3,?_⟩;exact p8 _ _ wk h
 rintro v1 h;exact fin h
theorem QE {a0:List Int}{r:(List Int)}(h:EQ a0=some r):yC wl 178 [AV.d (D.l 1 D.i a0)] [] (AV.own 0 (List.map D.i r).length) [.row 3 1 (List.map D.i r) .no]:=by
 refine oK Tryz.f178 ⟨rfl,?_⟩;unfold EQ at h;refine⟨a0.length,X10 _,?_⟩;refine AM h (fun v1=>⟨X::X::X::yO 3 D.i v1::dd 48 ([]),XI v1⟩) ?_ ?_
 ·intro _ h;revert h;refine Aa 7 1 D.i rfl (fun i3 v4=>⟨X::X::X::yO 3 D.i v4::X::X::X::y6 a0::yi (a0.length:Int)::yi (i3:Int)::dd 42 ([]),XI v4⟩) ?_ ?_ ?_
  ·exact wk
  ·rintro v4 K5 h;refine goC ?_;refine BI CX ?_;exact AN h
  rintro _ i3 x7 v4 K5 b3 c3 e3 h p8;refine goC ?_;refine BB (CO b3) ?_;refine AM h (fun v9=>⟨X::X::X::yO 3 D.i v9::X::X::X::y6 a0::yi (a0.length:Int)::yi (i3:Int)::dd 42 ([]),XI v9⟩) ?_ ?_
  ·intro _ h;refine⟨BD (f:=D.i) b3,D.i x7,c3,rfl,?_⟩;refine AM h (fun v11=>⟨X::X::X::yO 3 D.i v4::X::yi x7::yi v11::y6 a0::yi (a0.length:Int)::yi (i3:Int)::dd 42 ([]),XI v4⟩) ?_ ?_
   ·intro _ h;revert h;refine AZ (fun v13=>⟨X::X::X::yO 3 D.i v4::X::yi x7::yi v13::y6 a0::yi (a0.length:Int)::yi (i3:Int)::dd 42 ([]),XI v4⟩) ?_ ?_
    ·exact wk
    rintro _ v13 _ h p16;refine AM h (fun v17=>⟨X::X::X::yO 3 D.i v4::X::yi x7::yi v13::y6 a0::yi (a0.length:Int)::yi (i3:Int)::dd 14 (yb v17::dd 27 ([])),XI v4⟩) ?_ ?_
    ·intro _ h;refine⟨v4.length,Bi,?_⟩;refine AW h fun h=>?_;obtain⟨v19,g20,h⟩:=AH h;refine⟨rfl,BM (f:=D.i) g20,?_⟩;refine⟨rfl,D.i v19,(BW (f:=D.i) g20),?_⟩;exact AN h
    rintro v17 h;refine goC ?_;refine AW h fun h=>?_;refine goC ?_;refine⟨_,rfl,?_⟩;exact p16 _ _ wk h
   rintro v11 h;refine AM h (fun v21=>⟨X::X::X::yO 3 D.i v4::X::yi x7::yi v11::y6 a0::yi (a0.length:Int)::yi (i3:Int)::dd 28 (yb v21::dd 13 ([])),XI v4⟩) ?_ ?_
   ·intro _ h;refine⟨v4.length,Bi,?_⟩;refine AW h fun h=>?_;obtain⟨v23,g24,h⟩:=AH h;refine⟨rfl,BM (f:=D.i) g24,?_⟩;refine⟨rfl,D.i v23,(BW (f:=D.i) g24),?_⟩;exact AN h
   rintro v21 h;refine goC ?_;refine An h fun h=>?_;refine .inl (dO ?_);(conv=>whnf);refine .inr (.inl ?_);obtain⟨_,g25,h⟩:=AH h;have g57c:=Ce g25;refine⟨QV (f:=D.i) g25,rfl,(Int.toNat 0),(Int.toNat v11-Int.toNat 0),rfl,rfl,?_⟩;refine⟨Bi,List.map D.i (List.take (Int.toNat v11-Int.toNat 0) (List.drop (Int.toNat 0) v4)),KT,?_⟩;refine apN (f:=D.i) h fun _ h=>?_;refine⟨rfl,?_⟩;refine apO (f:=D.i) h rfl fun _ h=>?_;(conv=>whnf);refine .inr (.inl ?_);obtain⟨_,g29,h⟩:=AH h;have g63c:=Ce g29;refine⟨Gx (f:=D.i) g29,rfl,(Int.toNat v11),(Int.toNat (v4.length:Int)-Int.toNat v11),rfl,(by rw[X10]),?_⟩;refine⟨Bi,List.map D.i (List.take (Int.toNat (v4.length:Int)-Int.toNat v11) (List.drop (Int.toNat v11) v4)),KT,?_⟩;refine apO (f:=D.i) h rfl fun _ h=>?_;refine cO ?_;exact BH (.swap 42 3 rfl rfl rfl wk) h
  rintro v9 h;refine⟨_,e3,?_⟩;exact p8 _ _ wk h
 rintro v1 h;(conv=>whnf);refine .inl ?_;(conv=>whnf);refine .inr ?_;exact fin h
theorem L8 {a0:List UInt8}{r:(List JAD)×Bool}(h:Gj a0=some r):yC wl 152 [AV.d (D.l 1 D.u8 a0)] [] (.tup [.d (D.l 2 JAD.toD r.1),.d (D.b r.2)]) []:=by
 refine oK Tryz.f152 ⟨rfl,?_⟩;unfold Gj at h;refine AM h (fun (v1,v2,v3)=>⟨dd 4 (yO 4 JAD.toD v1::dd 113 ([])),nn 4 (some (OB.row 132 2 (List.map JAD.toD v1) (.lk v2 1 116 (List.map D.i v3).length))::nn 111 (some (OB.row 3 1 (List.map D.i v3) .yes)::N::[]))⟩) ?_ ?_
 ·intro _ h;revert h;refine AZ (fun (v5,v6,v7,v8)=>⟨y3 v5::X::X::X::yO 4 JAD.toD v6::dd 113 ([]),nn 4 (some (OB.row 132 2 (List.map JAD.toD v6) (.lk v7 1 116 (List.map D.i v8).length))::nn 111 (some (OB.row 3 1 (List.map D.i v8) .yes)::N::[]))⟩) ?_ ?_
  ·exact wk
  rintro _ ⟨v5,v6,v7,v8⟩ _ h p11;refine⟨v5.length,X10 _,?_⟩;refine goC ?_;refine AW h fun h=>?_;refine AM h (fun (v12,v13,v14,v15)=>⟨y3 v12::X::X::X::yO 4 JAD.toD v13::dd 113 ([]),nn 4 (some (OB.row 132 2 (List.map JAD.toD v13) (.lk v14 1 116 (List.map D.i v15).length))::nn 111 (some (OB.row 3 1 (List.map D.i v15) .yes)::N::[]))⟩) ?_ ?_
  ·intro _ h;refine AM h (fun v17=>⟨y3 v5::X::X::X::yO 4 JAD.toD v6::dd 36 (yb v17::dd 76 ([])),nn 4 (some (OB.row 132 2 (List.map JAD.toD v6) (.lk v7 1 116 (List.map D.i v8).length))::nn 111 (some (OB.row 3 1 (List.map D.i v8) .yes)::N::[]))⟩) ?_ ?_
   ·intro _ h;refine⟨v5.length,X10 _,?_⟩;refine An h fun h=>?_;(conv=>whnf);refine Av h (fun _=>rfl) fun _ h=>?_;refine AT h ?_ ?_<;>intro h
    ·(conv=>whnf);refine Av h (fun _=>rfl) fun _ h=>?_;refine An h fun h=>?_;(conv=>whnf);refine Av h (fun _=>rfl) fun _ h=>?_;refine An h fun h=>?_;refine⟨v5.length,X10 _,?_⟩;(conv=>whnf);refine Av h (fun _=>rfl) fun v25 h=>?_;refine⟨_,BG v25,?_⟩;refine⟨_,rfl,?_⟩;refine⟨_,rfl,?_⟩;exact AN h
    (conv=>whnf);refine Av h (fun _=>rfl) fun _ h=>?_;refine An h fun h=>?_;refine⟨v5.length,X10 _,?_⟩;(conv=>whnf);refine Av h (fun _=>rfl) fun v29 h=>?_;refine⟨_,BG v29,?_⟩;refine⟨_,rfl,?_⟩;refine⟨_,rfl,?_⟩;exact AN h
   rintro v17 h;refine goC ?_;refine AT h ?_ ?_<;>intro h
   ·(conv=>whnf);refine .inl ?_;refine⟨rfl,?_⟩;exact fin h
   (conv=>whnf);refine Av h (fun _=>rfl) fun v31 h=>?_;refine⟨_,BG v31,?_⟩;refine AM h (fun v33=>⟨y3 v5::X::X::X::yO 4 JAD.toD v6::yO 5 D.i v33::dd 112 ([]),nn 4 (some (OB.row 132 2 (List.map JAD.toD v6) (.lk v7 1 116 (List.map D.i v8).length))::yR 3 1 D.i v33::nn 110 (some (OB.row 3 1 (List.map D.i v8) .yes)::N::[]))⟩) ?_ ?_
   ·intro _ h;revert h;refine AZ (fun (v35,v36)=>⟨y3 v5::X::X::X::yO 4 JAD.toD v6::yO 5 D.i v36::dd 39 (yi (v31.toNat:Int)::yi v35::dd 71 ([])),nn 4 (some (OB.row 132 2 (List.map JAD.toD v6) (.lk v7 1 116 (List.map D.i v8).length))::yR 3 1 D.i v36::nn 110 (some (OB.row 3 1 (List.map D.i v8) .yes)::N::[]))⟩) ?_ ?_
    ·exact wk
    rintro _ ⟨v35,v36⟩ _ h p39;refine goC ?_;refine AW h fun h=>?_;refine goC ?_;refine⟨_,rfl,?_⟩;refine⟨_,rfl,?_⟩;refine⟨_,rfl,?_⟩;refine⟨_,rfl,?_⟩;(conv=>whnf);refine Eb (f:=D.u8) h fun _ h=>?_;refine AL h (fun _=>BJ) fun _ h=>?_;refine⟨rfl,?_⟩;refine apO (f:=D.i) h rfl fun _ h=>?_;refine⟨_,rfl,?_⟩;exact p39 _ _ wk h
   rintro v33 h;refine goC ?_;(conv=>whnf);refine Av h (fun _=>rfl) fun _ h=>?_;refine AM h (fun (v48,v49,v50)=>⟨y3 v5::X::X::X::yO 4 JAD.toD v48::dd 113 ([]),nn 4 (some (OB.row 132 2 (List.map JAD.toD v48) (.lk v49 1 116 (List.map D.i v50).length))::nn 111 (some (OB.row 3 1 (List.map D.i v50) .yes)::N::[]))⟩) ?_ ?_
   ·intro _ h;refine AT h ?_ ?_<;>intro h
    ·refine⟨rfl,?_⟩;refine PU [74] h (fun _=>QE) fun _ h=>?_;(conv=>whnf);refine .inr (.inr ?_);refine⟨1,74,_,rfl,?_⟩;refine⟨rfl,?_⟩;refine⟨rfl,?_⟩;refine apO (f:=JAD.toD) h rfl fun _ h=>?_;refine⟨rfl,?_⟩;exact BH (.swap 74 116 rfl rfl rfl wk) h
    refine AM h (fun v56=>⟨y3 v5::X::X::X::yO 4 JAD.toD v6::yO 5 D.i v33::dd 72 (yb v56::dd 39 ([])),nn 4 (some (OB.row 132 2 (List.map JAD.toD v6) (.lk v7 1 116 (List.map D.i v8).length))::yR 3 1 D.i v33::nn 110 (some (OB.row 3 1 (List.map D.i v8) .yes)::N::[]))⟩) ?_ ?_
    ·intro _ h;refine⟨v6.length,Bi,?_⟩;refine AW h fun h=>?_;refine⟨v6.length,Bi,?_⟩;refine⟨_,rfl,?_⟩;obtain⟨v58,g59,h⟩:=AH h;refine⟨rfl,BM (f:=JAD.toD) g59,?_⟩;refine⟨rfl,?_⟩;(conv=>whnf);refine .inl ?_;refine⟨rfl,JAD.toD v58,(BW (f:=JAD.toD) g59),?_⟩;exact AN h
    rintro v56 h;refine AM h (fun (v60,v61,v62)=>⟨y3 v5::X::X::X::yO 4 JAD.toD v60::dd 113 ([]),nn 4 (some (OB.row 132 2 (List.map JAD.toD v60) (.lk v61 1 116 (List.map D.i v62).length))::nn 111 (some (OB.row 3 1 (List.map D.i v62) .yes)::N::[]))⟩) ?_ ?_
    ·intro _ h;refine AT h ?_ ?_<;>intro h
     ·refine⟨v6.length,Bi,?_⟩;refine⟨_,rfl,?_⟩;refine⟨v6.length,Bi,?_⟩;refine⟨_,rfl,?_⟩;obtain⟨v64,g65,h⟩:=AH h;refine⟨rfl,BM (f:=JAD.toD) g65,?_⟩;refine⟨rfl,?_⟩;obtain⟨_,g66,h⟩:=AH h;refine .inr ⟨rfl,Ce g66,rfl,(Xr (f:=JAD.toD) g65),by decide,rfl,?_⟩;refine⟨rfl,?_⟩;refine apO (f:=D.i) h rfl fun _ h=>?_;obtain⟨v69,g70,h⟩:=AH h;refine⟨rfl,BM (f:=JAD.toD) g70,?_⟩;refine⟨rfl,?_⟩;obtain⟨v71,g72,h⟩:=AH h;have g72l:=G8 g72;refine .inr ?_;refine⟨rfl,?_⟩;refine⟨rfl,rfl,JAD.toD v69,(BW (f:=JAD.toD) g70),?_⟩;refine⟨_,KE (f:=JAD.toD) g72,?_⟩;exact AN h
     (conv=>whnf);refine .inr (.inr ?_);refine⟨1,5,_,rfl,?_⟩;refine⟨rfl,?_⟩;refine⟨rfl,?_⟩;refine apO (f:=JAD.toD) h rfl fun _ h=>?_;refine⟨rfl,?_⟩;exact BH (.swap 5 116 rfl rfl rfl wk) h
    rintro⟨v60,v61,v62⟩ h;exact AN h
   rintro⟨v48,v49,v50⟩ h;(conv=>whnf);refine Av h (fun _=>rfl) fun v75 h=>?_;refine⟨_,BG v75,?_⟩;refine⟨_,rfl,?_⟩;refine⟨_,rfl,?_⟩;(conv=>whnf);refine Hu (f:=D.u8) h fun _ h=>?_;exact AN h
  rintro⟨v12,v13,v14,v15⟩ h;exact p11 _ _ wk h
 rintro⟨v1,v2,v3⟩ h;refine⟨rfl,?_⟩;refine HS h (fun _=>Hn) fun _ h=>?_;(conv=>whnf);refine .inl ?_;refine⟨rfl,?_⟩;exact fin h
theorem SC {a0:List JAA}{r:JAE×Int}(h:H5 a0=some r):yC wl 69 [AV.d (D.l 3 JAA.toD a0)] [] (.tup [.d (JAE.toD r.1),.d (D.i r.2)]) []:=by
 refine oKx 200 Tryz.f69 ⟨rfl,?_⟩;unfold H5 at h;refine AL h (fun _=>Qq) fun v1 h=>?_;refine⟨v1.length,X10 _,?_⟩;refine AM h (fun _=>⟨y4 v1::X::yr 2 0::dd 110 ([]),N::N::yB JAE.zv::nn 310 ([])⟩) ?_ ?_
 ·intro _ h;revert h;refine Aa 15 3 JAA.toD rfl (fun i4 _=>⟨y4 v1::X::yr 2 0::dd 12 (y4 v1::yi (v1.length:Int)::yi (i4:Int)::dd 95 ([])),N::N::yB JAE.zv::nn 310 ([])⟩) ?_ ?_ ?_
  ·exact wk
  ·rintro _ K5 h;refine goC ?_;refine BI CX ?_;exact AN h
  rintro _ i4 x7 _ K5 b4 c4 e4 h p8;refine goC ?_;refine BB (CO b4) ?_;refine goC ?_;refine⟨BD (f:=JAA.toD) b4,JAA.toD x7,c4,rfl,?_⟩;refine AM h (fun v9=>⟨y4 v1::X::yr 2 0::dd 12 (y4 v1::yi (v1.length:Int)::yi (i4:Int)::dd 11 (yb v9::dd 83 ([]))),N::N::yB JAE.zv::nn 310 ([])⟩) ?_ ?_
  ·intro _ h;refine AL h (fun _=>Ge) fun _ h=>?_;refine AW h fun h=>?_;refine⟨_,rfl,?_⟩;exact AN h
  rintro v9 h;refine goC ?_;refine AT h ?_ ?_<;>intro h
  ·exact fin h
  refine⟨_,e4,?_⟩;exact p8 _ _ wk h
 rintro _ h;refine AM h (fun _=>⟨y4 v1::X::yr 2 0::dd 29 (AV.d (D.agg [D.i (-1),D.nil 2,D.b false,D.u64 (0:UInt64),D.u64 (0:UInt64),D.i (-1),D.i (-1),D.i (-1),D.nil 2,D.nil 3,D.nil 3])::dd 80 ([])),N::N::yB JAE.zv::nn 310 ([])⟩) ?_ ?_
 ·intro _ h;(conv=>whnf);refine inl Tryz.f17 113 (by kernel_rfl) (by kernel_rfl) ⟨rfl,?_⟩;exact AN h
 rintro _ h;refine⟨v1.length,X10 _,?_⟩;refine AM h (fun (v14,v15,v16,v17,v18,v19,v20,v21,v22,v23)=>⟨y4 v1::X::yr 2 0::X::X::X::yr 6 0::dd 106 ([]),N::N::yB JAE.zv::N::N::N::yA0 v14 v15 v16 v17 v18 v19 v20 v21 v22 v23::nn 306 ([])⟩) ?_ ?_
 ·intro _ h;revert h;refine Aa 33 3 JAA.toD rfl (fun i25 (v26,v27,v28,v29,v30,v31,v32,v33,v34,v35)=>⟨y4 v1::X::yr 2 0::X::X::X::yr 6 0::dd 26 (y4 v1::yi (v1.length:Int)::yi (i25:Int)::dd 77 ([])),N::N::yB JAE.zv::N::N::N::yA0 v26 v27 v28 v29 v30 v31 v32 v33 v34 v35::nn 306 ([])⟩) ?_ ?_ ?_
  ·exact wk
  ·rintro⟨v26,v27,v28,v29,v30,v31,v32,v33,v34,v35⟩ K36 h;refine goC ?_;refine BI CX ?_;exact AN h
  rintro _ i25 x38 ⟨v26,v27,v28,v29,v30,v31,v32,v33,v34,v35⟩ K36 b25 c25 e25 h p39;delta Ee at h;refine goC ?_;refine BB (CO b25) ?_;refine AM h (fun (v40,v41,v42,v43,v44,v45,v46,v47,v48,v49)=>⟨y4 v1::X::yr 2 0::X::X::X::yr 6 0::dd 26 (y4 v1::yi (v1.length:Int)::yi (i25:Int)::dd 77 ([])),N::N::yB JAE.zv::N::N::N::yA0 v40 v41 v42 v43 v44 v45 v46 v47 v48 v49::nn 306 ([])⟩) ?_ ?_
  ·intro _ h;refine⟨BD (f:=JAA.toD) b25,JAA.toD x38,c25,rfl,?_⟩;refine AL h (fun _=>IB) fun _ h=>?_;refine goC ?_;refine An h fun h=>?_;refine AM h (fun (v53,v54,v55,v56,v57,v58,v59,v60,v61,v62,v63)=>⟨y4 v1::X::yr 2 0::X::X::X::yr 6 0::dd 26 (y4 v1::yi (v1.length:Int)::yi (i25:Int)::dd 27 (yb v53::dd 49 ([]))),N::N::yB JAE.zv::N::N::N::yA0 v54 v55 v56 v57 v58 v59 v60 v61 v62 v63::nn 306 ([])⟩) ?_ ?_
   ·intro _ h;refine⟨_,rfl,?_⟩;refine An h fun h=>?_;refine AT h ?_ ?_<;>intro h
    ·refine⟨_,rfl,?_⟩;refine An h fun h=>?_;refine AM h (fun (v65,v66,v67,v68,v69,v70,v71,v72,v73,v74,v75)=>⟨y4 v1::X::yr 2 0::X::X::X::yr 6 0::dd 26 (y4 v1::yi (v1.length:Int)::yi (i25:Int)::dd 23 (yb false::X::yb v65::dd 51 ([]))),N::N::yB JAE.zv::N::N::N::yA0 v66 v67 v68 v69 v70 v71 v72 v73 v74 v75::nn 306 ([])⟩) ?_ ?_
     ·intro _ h;(conv=>whnf);refine inl Tryz.f125 113 (by kernel_rfl) (by kernel_rfl) ⟨rfl,?_⟩;refine⟨x38.Data.length,X10 _,?_⟩;refine AM h (fun (v77,v78,v79,v80,v81,v82,v83,v84,v85)=>⟨Ir,N::N::yB JAE.zv::N::N::N::yA0 v77 v27 v78 v79 v80 v81 v82 v83 v84 v85::N::yB (JAA.av x38)::nn 304 ([])⟩) ?_ ?_
      ·intro _ h;refine AM h (fun (v87,v88,v89,v90,v91,v92,v93,v94,v95)=>⟨Ir,N::N::yB JAE.zv::N::N::N::yA0 v87 v27 v88 v89 v90 v91 v92 v93 v94 v95::N::yB (JAA.av x38)::nn 304 ([])⟩) ?_ ?_
       ·intro _ h;refine AT h ?_ ?_<;>intro h
        ·refine AM h (fun v97=>⟨yr 6 0::X::X::yr 116 0::dd 22 (yb v97::dd 173 ([])),N::N::yB JAE.zv::N::N::N::yA0 v26 v27 v28 v29 v30 v31 v32 v33 v34 v35::N::yB (JAA.av x38)::nn 107 (yB (JAA.av x38)::nn 196 ([]))⟩) ?_ ?_
         ·intro _ h;refine An h fun h=>?_;(conv=>whnf);refine Av h (fun _=>rfl) fun _ h=>?_;exact AN h
         rintro v97 h;refine goC ?_;refine An h fun h=>?_;(conv=>whnf);refine Av h (fun _=>rfl) fun v101 h=>?_;refine⟨_,BG v101,?_⟩;exact AN h
        refine goC ?_;refine AT h ?_ ?_<;>intro h
        ·refine AL h (fun _=>L8) ?_;rintro⟨_,_⟩ h;exact AN h
        refine AM h (fun (v106,v107,v108,v109,v110,v111,v112,v113)=>⟨Ir,N::N::yB JAE.zv::N::N::N::yA0 v26 v27 v106 v107 v108 v109 v110 v111 v112 v113::N::yB (JAA.av x38)::nn 304 ([])⟩) ?_ ?_
        ·intro _ h;refine AT h ?_ ?_<;>intro h
         ·refine goC ?_;refine An h fun h=>?_;refine AL h (fun _=>Bq) ?_;rintro⟨_,_⟩ h;exact AN h
         refine AM h (fun v118=>⟨be (x38.Data.length:Int) v118 x38.Type_,N::N::yB JAE.zv::N::N::N::yA0 v26 v27 v28 v29 v30 v31 v32 v33 v34 v35::N::yB (JAA.av x38)::nn 107 (yB (JAA.av x38)::nn 196 ([]))⟩) ?_ ?_
         ·intro _ h;refine An h fun h=>?_;refine AM h (fun v120=>⟨be (x38.Data.length:Int) v120 x38.Type_,N::N::yB JAE.zv::N::N::N::yA0 v26 v27 v28 v29 v30 v31 v32 v33 v34 v35::N::yB (JAA.av x38)::nn 107 (yB (JAA.av x38)::nn 196 ([]))⟩) ?_ ?_
          ·intro _ h;exact selC h
          rintro v120 h;exact AN h
         rintro v118 h;refine AM h (fun (v122,v123,v124,v125,v126)=>⟨Ir,N::N::yB JAE.zv::N::N::N::yA0 v26 v27 v28 v29 v30 v122 v123 v124 v125 v126::N::yB (JAA.av x38)::nn 304 ([])⟩) ?_ ?_
         ·intro _ h;refine AT h ?_ ?_<;>intro h
          ·refine⟨_,rfl,?_⟩;(conv=>whnf);refine Eb (f:=D.u8) h fun _ h=>?_;refine AL h (fun _=>BJ) fun v130 h=>?_;refine AM h (fun v132=>⟨yr 6 0::X::X::yr 116 0::dd 4 (yi v130::dd 72 (yb v132::dd 118 ([]))),N::N::yB JAE.zv::N::N::N::yA0 v26 v27 v28 v29 v30 v31 v32 v33 v34 v35::N::yB (JAA.av x38)::nn 107 (yB (JAA.av x38)::nn 196 ([]))⟩) ?_ ?_
           ·intro _ h;refine An h fun h=>?_;exact selC h
           rintro v132 h;refine goC ?_;refine An h fun h=>?_;refine goC ?_;refine AM h (fun (v134,v135,v136)=>⟨Ir,N::N::yB JAE.zv::N::N::N::yA0 v26 v27 v28 v29 v30 v134 v135 v136 v34 v35::N::yB (JAA.av x38)::nn 304 ([])⟩) ?_ ?_
           ·intro _ h;refine An h fun h=>?_;refine AM h (fun (v138,v139)=>⟨Ir,N::N::yB JAE.zv::N::N::N::yA0 v26 v27 v28 v29 v30 v31 v138 v139 v34 v35::N::yB (JAA.av x38)::nn 304 ([])⟩) ?_ ?_
            ·intro _ h;exact selC h
            rintro⟨v138,v139⟩ h;exact AN h
           rintro⟨v134,v135,v136⟩ h;exact AN h
          refine AM h (fun (v141,v142)=>⟨Ir,N::N::yB JAE.zv::N::N::N::yA0 v26 v27 v28 v29 v30 v31 v32 v33 v141 v142::N::yB (JAA.av x38)::nn 304 ([])⟩) ?_ ?_
          ·intro _ h;refine AT h ?_ ?_<;>intro h
           ·refine AM h (fun v144=>⟨yr 6 0::X::X::yr 116 0::X::yi (x38.Data.length:Int)::dd 107 (yb v144::dd 86 ([])),N::N::yB JAE.zv::N::N::N::yA0 v26 v27 v28 v29 v30 v31 v32 v33 v34 v35::N::yB (JAA.av x38)::nn 107 (yB (JAA.av x38)::nn 196 ([]))⟩) ?_ ?_
            ·intro _ h;refine An h fun h=>?_;refine⟨by decide,_,rfl,?_⟩;refine An h fun h=>?_;refine⟨by decide,_,rfl,?_⟩;exact AN h
            rintro v144 h;refine goC ?_;refine An h fun h=>?_;refine AM h (fun v146=>⟨Ir,N::N::yB JAE.zv::N::N::N::yA0 v26 v27 v28 v29 v30 v31 v32 v33 v146 v35::N::yB (JAA.av x38)::nn 304 ([])⟩) ?_ ?_
            ·intro _ h;revert h;refine AZ (fun (v148,v149)=>⟨yr 6 0::X::X::yr 116 0::X::yi (x38.Data.length:Int)::X::X::X::yi v148::dd 190 ([]),N::N::yB JAE.zv::N::N::N::yA0 v26 v27 v28 v29 v30 v31 v32 v33 v149 v35::N::yB (JAA.av x38)::nn 107 (yB (JAA.av x38)::nn 196 ([]))⟩) ?_ ?_
             ·exact wk
             rintro _ ⟨v148,v149⟩ _ h p152;refine goC ?_;refine AW h fun h=>?_;refine goC ?_;refine .inl (dO ?_);refine⟨_,rfl,?_⟩;(conv=>whnf);refine Eb (f:=D.u8) h fun _ h=>?_;refine Ap h (fun _=>BJ) (fun _=>rfl) fun _ h=>?_;refine⟨_,rfl,?_⟩;refine⟨_,rfl,?_⟩;(conv=>whnf);refine Eb (f:=D.u8) h fun _ h=>?_;refine Ap h (fun _=>BJ) (fun _=>rfl) fun _ h=>?_;refine Ap h (fun _=>Jj) (fun _=>rfl) ?_;rintro⟨_,_⟩ h;refine cO ?_;refine⟨_,rfl,?_⟩;exact p152 _ _ wk h
            rintro v146 h;exact AN h
           refine AM h (fun v164=>⟨Ir,N::N::yB JAE.zv::N::N::N::yA0 v26 v27 v28 v29 v30 v31 v32 v33 v34 v164::N::yB (JAA.av x38)::nn 304 ([])⟩) ?_ ?_
           ·intro _ h;refine AW h fun h=>?_;refine AM h (fun v166=>⟨yr 6 0::X::X::yr 116 0::X::yi (x38.Data.length:Int)::dd 153 (yb v166::dd 40 ([])),N::N::yB JAE.zv::N::N::N::yA0 v26 v27 v28 v29 v30 v31 v32 v33 v34 v35::N::yB (JAA.av x38)::nn 107 (yB (JAA.av x38)::nn 196 ([]))⟩) ?_ ?_
            ·intro _ h;refine An h fun h=>?_;refine⟨by decide,_,rfl,?_⟩;refine An h fun h=>?_;refine⟨by decide,_,rfl,?_⟩;exact AN h
            rintro v166 h;refine goC ?_;refine An h fun h=>?_;refine AM h (fun v168=>⟨Ir,N::N::yB JAE.zv::N::N::N::yA0 v26 v27 v28 v29 v30 v31 v32 v33 v34 v168::N::yB (JAA.av x38)::nn 304 ([])⟩) ?_ ?_
            ·intro _ h;revert h;refine AZ (fun (v170,v171)=>⟨yr 6 0::X::X::yr 116 0::X::yi (x38.Data.length:Int)::dd 4 (yi v170::dd 189 ([])),N::N::yB JAE.zv::N::N::N::yA0 v26 v27 v28 v29 v30 v31 v32 v33 v34 v171::N::yB (JAA.av x38)::nn 107 (yB (JAA.av x38)::nn 196 ([]))⟩) ?_ ?_
             ·exact wk
             rintro _ ⟨v170,v171⟩ _ h p174;refine goC ?_;refine AW h fun h=>?_;refine goC ?_;refine .inl (dO ?_);refine⟨_,rfl,?_⟩;(conv=>whnf);refine Eb (f:=D.u8) h fun _ h=>?_;refine Ap h (fun _=>BJ) (fun _=>rfl) fun _ h=>?_;refine⟨_,rfl,?_⟩;refine⟨_,rfl,?_⟩;(conv=>whnf);refine Eb (f:=D.u8) h fun _ h=>?_;refine Ap h (fun _=>BJ) (fun _=>rfl) fun _ h=>?_;refine⟨_,rfl,?_⟩;refine⟨_,rfl,?_⟩;(conv=>whnf);refine Eb (f:=D.u8) h fun _ h=>?_;refine Ap h (fun _=>BJ) (fun _=>rfl) fun _ h=>?_;refine Ap h (fun _=>GG) (fun _=>rfl) ?_;rintro⟨_,_⟩ h;refine cO ?_;refine⟨_,rfl,?_⟩;exact p174 _ _ wk h
            rintro v168 h;exact AN h
           rintro v164 h;exact AN h
          rintro⟨v141,v142⟩ h;exact AN h
         rintro⟨v122,v123,v124,v125,v126⟩ h;exact AN h
        rintro⟨v106,v107,v108,v109,v110,v111,v112,v113⟩ h;exact AN h
       rintro⟨v87,v88,v89,v90,v91,v92,v93,v94,v95⟩ h;exact AN h
      rintro⟨v77,v78,v79,v80,v81,v82,v83,v84,v85⟩ h;exact AN h
     rintro⟨v65,v66,v67,v68,v69,v70,v71,v72,v73,v74,v75⟩ h;exact AN h
    refine AM h (fun (v190,v191,v192,v193,v194,v195,v196,v197,v198,v199,v200)=>⟨y4 v1::X::yr 2 0::X::X::X::yr 6 0::dd 26 (y4 v1::yi (v1.length:Int)::yi (i25:Int)::dd 23 (yb false::X::yb v190::dd 51 ([]))),N::N::yB JAE.zv::N::N::N::yA0 v191 v192 v193 v194 v195 v196 v197 v198 v199 v200::nn 306 ([])⟩) ?_ ?_
    ·intro _ h;(conv=>whnf);refine inl Tryz.f125 113 (by kernel_rfl) (by kernel_rfl) ⟨rfl,?_⟩;refine⟨x38.Data.length,X10 _,?_⟩;refine AM h (fun (v202,v203,v204,v205,v206,v207,v208,v209,v210)=>⟨Ir,N::N::yB JAE.zv::N::N::N::yA0 v202 v27 v203 v204 v205 v206 v207 v208 v209 v210::N::yB (JAA.av x38)::nn 304 ([])⟩) ?_ ?_
     ·intro _ h;refine AM h (fun (v212,v213,v214,v215,v216,v217,v218,v219,v220)=>⟨Ir,N::N::yB JAE.zv::N::N::N::yA0 v212 v27 v213 v214 v215 v216 v217 v218 v219 v220::N::yB (JAA.av x38)::nn 304 ([])⟩) ?_ ?_
      ·intro _ h;refine AT h ?_ ?_<;>intro h
       ·refine AM h (fun v222=>⟨yr 6 0::X::X::yr 116 0::dd 22 (yb v222::dd 173 ([])),N::N::yB JAE.zv::N::N::N::yA0 v26 v27 v28 v29 v30 v31 v32 v33 v34 v35::N::yB (JAA.av x38)::nn 107 (yB (JAA.av x38)::nn 196 ([]))⟩) ?_ ?_
        ·intro _ h;refine An h fun h=>?_;(conv=>whnf);refine Av h (fun _=>rfl) fun _ h=>?_;exact AN h
        rintro v222 h;refine goC ?_;refine An h fun h=>?_;(conv=>whnf);refine Av h (fun _=>rfl) fun v226 h=>?_;refine⟨_,BG v226,?_⟩;exact AN h
       refine goC ?_;refine AT h ?_ ?_<;>intro h
       ·refine AL h (fun _=>L8) ?_;rintro⟨_,_⟩ h;exact AN h
       refine AM h (fun (v231,v232,v233,v234,v235,v236,v237,v238)=>⟨Ir,N::N::yB JAE.zv::N::N::N::yA0 v26 v27 v231 v232 v233 v234 v235 v236 v237 v238::N::yB (JAA.av x38)::nn 304 ([])⟩) ?_ ?_
       ·intro _ h;refine AT h ?_ ?_<;>intro h
        ·refine goC ?_;refine An h fun h=>?_;refine AL h (fun _=>Bq) ?_;rintro⟨_,_⟩ h;exact AN h
        refine AM h (fun v243=>⟨be (x38.Data.length:Int) v243 x38.Type_,N::N::yB JAE.zv::N::N::N::yA0 v26 v27 v28 v29 v30 v31 v32 v33 v34 v35::N::yB (JAA.av x38)::nn 107 (yB (JAA.av x38)::nn 196 ([]))⟩) ?_ ?_
        ·intro _ h;refine An h fun h=>?_;refine AM h (fun v245=>⟨be (x38.Data.length:Int) v245 x38.Type_,N::N::yB JAE.zv::N::N::N::yA0 v26 v27 v28 v29 v30 v31 v32 v33 v34 v35::N::yB (JAA.av x38)::nn 107 (yB (JAA.av x38)::nn 196 ([]))⟩) ?_ ?_
         ·intro _ h;exact selC h
         rintro v245 h;exact AN h
        rintro v243 h;refine AM h (fun (v247,v248,v249,v250,v251)=>⟨Ir,N::N::yB JAE.zv::N::N::N::yA0 v26 v27 v28 v29 v30 v247 v248 v249 v250 v251::N::yB (JAA.av x38)::nn 304 ([])⟩) ?_ ?_
        ·intro _ h;refine AT h ?_ ?_<;>intro h
         ·refine⟨_,rfl,?_⟩;(conv=>whnf);refine Eb (f:=D.u8) h fun _ h=>?_;refine AL h (fun _=>BJ) fun v255 h=>?_;refine AM h (fun v257=>⟨yr 6 0::X::X::yr 116 0::dd 4 (yi v255::dd 72 (yb v257::dd 118 ([]))),N::N::yB JAE.zv::N::N::N::yA0 v26 v27 v28 v29 v30 v31 v32 v33 v34 v35::N::yB (JAA.av x38)::nn 107 (yB (JAA.av x38)::nn 196 ([]))⟩) ?_ ?_
          ·intro _ h;refine An h fun h=>?_;exact selC h
          rintro v257 h;refine goC ?_;refine An h fun h=>?_;refine goC ?_;refine AM h (fun (v259,v260,v261)=>⟨Ir,N::N::yB JAE.zv::N::N::N::yA0 v26 v27 v28 v29 v30 v259 v260 v261 v34 v35::N::yB (JAA.av x38)::nn 304 ([])⟩) ?_ ?_
          ·intro _ h;refine An h fun h=>?_;refine AM h (fun (v263,v264)=>⟨Ir,N::N::yB JAE.zv::N::N::N::yA0 v26 v27 v28 v29 v30 v31 v263 v264 v34 v35::N::yB (JAA.av x38)::nn 304 ([])⟩) ?_ ?_
           ·intro _ h;exact selC h
           rintro⟨v263,v264⟩ h;exact AN h
          rintro⟨v259,v260,v261⟩ h;exact AN h
         refine AM h (fun (v266,v267)=>⟨Ir,N::N::yB JAE.zv::N::N::N::yA0 v26 v27 v28 v29 v30 v31 v32 v33 v266 v267::N::yB (JAA.av x38)::nn 304 ([])⟩) ?_ ?_
         ·intro _ h;refine AT h ?_ ?_<;>intro h
          ·refine AM h (fun v269=>⟨yr 6 0::X::X::yr 116 0::X::yi (x38.Data.length:Int)::dd 107 (yb v269::dd 86 ([])),N::N::yB JAE.zv::N::N::N::yA0 v26 v27 v28 v29 v30 v31 v32 v33 v34 v35::N::yB (JAA.av x38)::nn 107 (yB (JAA.av x38)::nn 196 ([]))⟩) ?_ ?_
           ·intro _ h;refine An h fun h=>?_;refine⟨by decide,_,rfl,?_⟩;refine An h fun h=>?_;refine⟨by decide,_,rfl,?_⟩;exact AN h
           rintro v269 h;refine goC ?_;refine An h fun h=>?_;refine AM h (fun v271=>⟨Ir,N::N::yB JAE.zv::N::N::N::yA0 v26 v27 v28 v29 v30 v31 v32 v33 v271 v35::N::yB (JAA.av x38)::nn 304 ([])⟩) ?_ ?_
           ·intro _ h;revert h;refine AZ (fun (v273,v274)=>⟨yr 6 0::X::X::yr 116 0::X::yi (x38.Data.length:Int)::X::X::X::yi v273::dd 190 ([]),N::N::yB JAE.zv::N::N::N::yA0 v26 v27 v28 v29 v30 v31 v32 v33 v274 v35::N::yB (JAA.av x38)::nn 107 (yB (JAA.av x38)::nn 196 ([]))⟩) ?_ ?_
            ·exact wk
            rintro _ ⟨v273,v274⟩ _ h p277;refine goC ?_;refine AW h fun h=>?_;refine goC ?_;refine .inl (dO ?_);refine⟨_,rfl,?_⟩;(conv=>whnf);refine Eb (f:=D.u8) h fun _ h=>?_;refine Ap h (fun _=>BJ) (fun _=>rfl) fun _ h=>?_;refine⟨_,rfl,?_⟩;refine⟨_,rfl,?_⟩;(conv=>whnf);refine Eb (f:=D.u8) h fun _ h=>?_;refine Ap h (fun _=>BJ) (fun _=>rfl) fun _ h=>?_;refine Ap h (fun _=>Jj) (fun _=>rfl) ?_;rintro⟨_,_⟩ h;refine cO ?_;refine⟨_,rfl,?_⟩;exact p277 _ _ wk h
           rintro v271 h;exact AN h
          refine AM h (fun v289=>⟨Ir,N::N::yB JAE.zv::N::N::N::yA0 v26 v27 v28 v29 v30 v31 v32 v33 v34 v289::N::yB (JAA.av x38)::nn 304 ([])⟩) ?_ ?_
          ·intro _ h;refine AW h fun h=>?_;refine AM h (fun v291=>⟨yr 6 0::X::X::yr 116 0::X::yi (x38.Data.length:Int)::dd 153 (yb v291::dd 40 ([])),N::N::yB JAE.zv::N::N::N::yA0 v26 v27 v28 v29 v30 v31 v32 v33 v34 v35::N::yB (JAA.av x38)::nn 107 (yB (JAA.av x38)::nn 196 ([]))⟩) ?_ ?_
           ·intro _ h;refine An h fun h=>?_;refine⟨by decide,_,rfl,?_⟩;refine An h fun h=>?_;refine⟨by decide,_,rfl,?_⟩;exact AN h
           rintro v291 h;refine goC ?_;refine An h fun h=>?_;refine AM h (fun v293=>⟨Ir,N::N::yB JAE.zv::N::N::N::yA0 v26 v27 v28 v29 v30 v31 v32 v33 v34 v293::N::yB (JAA.av x38)::nn 304 ([])⟩) ?_ ?_
           ·intro _ h;revert h;refine AZ (fun (v295,v296)=>⟨yr 6 0::X::X::yr 116 0::X::yi (x38.Data.length:Int)::dd 4 (yi v295::dd 189 ([])),N::N::yB JAE.zv::N::N::N::yA0 v26 v27 v28 v29 v30 v31 v32 v33 v34 v296::N::yB (JAA.av x38)::nn 107 (yB (JAA.av x38)::nn 196 ([]))⟩) ?_ ?_
            ·exact wk
            rintro _ ⟨v295,v296⟩ _ h p299;refine goC ?_;refine AW h fun h=>?_;refine goC ?_;refine .inl (dO ?_);refine⟨_,rfl,?_⟩;(conv=>whnf);refine Eb (f:=D.u8) h fun _ h=>?_;refine Ap h (fun _=>BJ) (fun _=>rfl) fun _ h=>?_;refine⟨_,rfl,?_⟩;refine⟨_,rfl,?_⟩;(conv=>whnf);refine Eb (f:=D.u8) h fun _ h=>?_;refine Ap h (fun _=>BJ) (fun _=>rfl) fun _ h=>?_;refine⟨_,rfl,?_⟩;refine⟨_,rfl,?_⟩;(conv=>whnf);refine Eb (f:=D.u8) h fun _ h=>?_;refine Ap h (fun _=>BJ) (fun _=>rfl) fun _ h=>?_;refine Ap h (fun _=>GG) (fun _=>rfl) ?_;rintro⟨_,_⟩ h;refine cO ?_;refine⟨_,rfl,?_⟩;exact p299 _ _ wk h
           rintro v293 h;exact AN h
          rintro v289 h;exact AN h
         rintro⟨v266,v267⟩ h;exact AN h
        rintro⟨v247,v248,v249,v250,v251⟩ h;exact AN h
       rintro⟨v231,v232,v233,v234,v235,v236,v237,v238⟩ h;exact AN h
      rintro⟨v212,v213,v214,v215,v216,v217,v218,v219,v220⟩ h;exact AN h
     rintro⟨v202,v203,v204,v205,v206,v207,v208,v209,v210⟩ h;exact AN h
    rintro⟨v190,v191,v192,v193,v194,v195,v196,v197,v198,v199,v200⟩ h;exact AN h
   rintro⟨v53,v54,v55,v56,v57,v58,v59,v60,v61,v62,v63⟩ h;refine goC ?_;refine AW h fun h=>?_;exact fin h
  rintro⟨v40,v41,v42,v43,v44,v45,v46,v47,v48,v49⟩ h;refine⟨_,e25,?_⟩;exact p39 _ _ wk h
 rintro⟨v14,v15,v16,v17,v18,v19,v20,v21,v22,v23⟩ h;refine AM h (fun v315=>⟨X::X::yr 2 0::X::X::X::yr 6 0::dd 106 ([]),ZH v14 v16 v17 v18 v19 v20 v21 v15 v22 v23 v315⟩) ?_ ?_
 ·intro _ h;revert h;refine AZ (fun (v317,v318)=>⟨y4 v1::X::yr 2 0::X::X::X::yr 6 0::X::X::X::yi v317::dd 102 ([]),ZH v14 v16 v17 v18 v19 v20 v21 v15 v22 v23 v318⟩) ?_ ?_
  ·exact wk
  rintro _ ⟨v317,v318⟩ _ h p321;refine goC ?_;refine AW h fun h=>?_;refine AM h (fun v322=>⟨y4 v1::X::yr 2 0::X::X::X::yr 6 0::X::X::X::yi v317::dd 102 ([]),ZH v14 v16 v17 v18 v19 v20 v21 v15 v22 v23 v322⟩) ?_ ?_
  ·intro _ h;refine⟨v1.length,X10 _,?_⟩;refine AM h (fun v324=>⟨y4 v1::X::yr 2 0::X::X::X::yr 6 0::X::X::X::yi v317::dd 102 ([]),ZH v14 v16 v17 v18 v19 v20 v21 v15 v22 v23 v324⟩) ?_ ?_
   ·intro _ h;revert h;refine Aa 70 3 JAA.toD rfl (fun i326 v327=>⟨y4 v1::X::yr 2 0::X::X::X::yr 6 0::X::X::X::yi v317::dd 59 (y4 v1::yi (v1.length:Int)::yi (i326:Int)::dd 40 ([])),ZH v14 v16 v17 v18 v19 v20 v21 v15 v22 v23 v327⟩) ?_ ?_ ?_
    ·exact wk
    ·rintro v327 K328 h;refine goC ?_;refine BI CX ?_;exact AN h
    rintro _ i326 x330 v327 K328 b326 c326 e326 h p331;refine goC ?_;refine BB (CO b326) ?_;refine goC ?_;refine⟨BD (f:=JAA.toD) b326,JAA.toD x330,c326,rfl,?_⟩;refine AM h (fun v332=>⟨y4 v1::X::yr 2 0::X::X::X::yr 6 0::X::X::X::yi v317::X::yr 12 0::dd 57 (y4 v1::yi (v1.length:Int)::yi (i326:Int)::dd 22 (yb v332::dd 17 ([]))),N::N::yB JAE.zv::N::N::N::zS1 v14 v16 v17 v18 v19 v20 v21 v15 v22 v23 v327::nn 5 (yB (JAA.av x330)::nn 91 (yR 88 3 JAA.toD v327::nn 208 ([])))⟩) ?_ ?_
    ·intro _ h;refine AW h fun h=>?_;refine AL h (fun _=>Ge) fun _ h=>?_;refine AW h fun h=>?_;refine⟨_,rfl,?_⟩;refine AW h fun h=>?_;refine⟨x330.Data.length,X10 _,?_⟩;exact AN h
    rintro v332 h;refine AM h (fun v336=>⟨y4 v1::X::yr 2 0::X::X::X::yr 6 0::X::X::X::yi v317::dd 59 (y4 v1::yi (v1.length:Int)::yi (i326:Int)::dd 40 ([])),ZH v14 v16 v17 v18 v19 v20 v21 v15 v22 v23 v336⟩) ?_ ?_
    ·intro _ h;refine AW h fun h=>?_;refine .inl (dO ?_);refine apN (f:=D.u8) h fun _ h=>?_;(conv=>whnf);refine .inl ?_;refine⟨rfl,?_⟩;refine⟨rfl,?_⟩;refine apO (f:=JAA.toD) h rfl fun _ h=>?_;refine cO ?_;exact AN h
    rintro v336 h;refine⟨_,e326,?_⟩;exact p331 _ _ wk h
   rintro v324 h;exact AN h
  rintro v322 h;refine⟨_,rfl,?_⟩;exact p321 _ _ wk h
 rintro v315 h;refine⟨v315.length,Bi,?_⟩;refine goC ?_;refine AT h ?_ ?_<;>intro h
 ·exact fin h
 refine⟨rfl,?_⟩;exact fin h
theorem Kt {a0:JAA}{a1:Int}{r:Bool}(h:EM a0 a1=some r):yC wl 70 [AV.d (JAA.toD a0),AV.d (D.i a1)] [] (.d (D.b r)) []:=by
 refine oK Tryz.f70 ⟨rfl,?_⟩;unfold EM at h;refine AM h (fun v1=>⟨dd 4 (yb v1::dd 8 ([])),nn 13 ([])⟩) ?_ ?_
 ·intro _ h;refine AW h fun h=>?_;refine⟨_,rfl,?_⟩;exact AN h
 rintro v1 h;exact fin h
theorem Jz {a0:List UInt8}{r:JAG×Int}(h:E7 a0=some r):yC wl 30 [AV.d (D.l 1 D.u8 a0)] [] (.tup [.d (JAG.toD r.1),.d (D.i r.2)]) []:=by
 refine oKx 64 Tryz.f30 ⟨rfl,?_⟩;unfold E7 at h;refine AL h (fun _=>Ii) ?_;rintro⟨v1,_,_⟩ h;refine AL h (fun _=>Ii) ?_;rintro⟨v5,v6,_⟩ h;refine AM h (fun v9=>⟨X::X::yr 2 0::X::y3 v1::X::y3 v5::y3 v6::dd 38 (yb v9::dd 158 ([])),N::N::yB JAG.zv::nn 266 ([])⟩) ?_ ?_
 ·intro _ h;exact selC h
 rintro v9 h;refine goC ?_;refine AT h ?_ ?_<;>intro h
 ·exact fin h
 refine AM h (fun _=>⟨X::X::yr 2 0::X::y3 v1::X::y3 v5::y3 v6::dd 40 (AV.d (D.agg [D.i (-1),D.nil 2,D.b false,D.u64 (0:UInt64),D.u64 (0:UInt64),D.i (-1),D.i (-1),D.i (-1),D.nil 2,D.nil 3,D.nil 3])::dd 156 ([])),N::N::yB JAG.zv::nn 266 ([])⟩) ?_ ?_
 ·intro _ h;(conv=>whnf);refine inl Tryz.f17 205 (by kernel_rfl) (by kernel_rfl) ⟨rfl,?_⟩;exact AN h
 rintro _ h;refine AM h (fun (v12,v13)=>⟨X::X::yr 2 0::X::X::X::y3 v5::y3 v6::X::yr 9 0::dd 42 (AV.tup [yO 204 JAC.toD v13,yb v12]::dd 152 ([])),N::N::yB JAG.zv::nn 6 (yA1 (-1) false (0:UInt64) (0:UInt64) (-1) (-1) (-1)::nn 194 (yR 41 4 JAC.toD v13::nn 64 ([])))⟩) ?_ ?_
 ·intro _ h;(conv=>whnf);refine inl Tryz.f64 205 (by kernel_rfl) (by kernel_rfl) ⟨rfl,?_⟩;refine goC ?_;refine AM h (fun v15=>⟨dd 6 (yO 211 JAC.toD v15::dd 57 ([])),N::N::yB JAG.zv::nn 6 (yA1 (-1) false (0:UInt64) (0:UInt64) (-1) (-1) (-1)::nn 201 (yR 41 4 JAC.toD v15::nn 57 ([])))⟩) ?_ ?_
  ·intro _ h;revert h;refine AZ (fun (v17,v18)=>⟨y3 v17::dd 5 (yO 211 JAC.toD v18::yi 4::dd 56 ([])),N::N::yB JAG.zv::nn 6 (yA1 (-1) false (0:UInt64) (0:UInt64) (-1) (-1) (-1)::nn 201 (yR 41 4 JAC.toD v18::nn 57 ([])))⟩) ?_ ?_
   ·exact wk
   rintro _ ⟨v17,v18⟩ _ h p21;refine⟨v17.length,X10 _,?_⟩;refine goC ?_;refine AW h fun h=>?_;refine goC ?_;(conv=>whnf);refine Av h (fun _=>rfl) fun v22 h=>?_;refine⟨_,BG v22,?_⟩;refine⟨_,rfl,?_⟩;refine⟨by decide,_,rfl,?_⟩;refine AM h (fun v24=>⟨y3 v17::dd 5 (yO 211 JAC.toD v18::yi 4::yi (v22.toNat:Int)::AV.d (D.i (AD (Int.tdiv (AD ((v22.toNat:Int)+7)) 8)))::dd 25 (yb v24::dd 28 ([]))),N::N::yB JAG.zv::nn 6 (yA1 (-1) false (0:UInt64) (0:UInt64) (-1) (-1) (-1)::nn 201 (yR 41 4 JAC.toD v18::nn 57 ([])))⟩) ?_ ?_
   ·intro _ h;refine⟨_,rfl,?_⟩;refine An h fun h=>?_;refine⟨v17.length,X10 _,?_⟩;refine⟨_,rfl,?_⟩;exact AN h
   rintro v24 h;refine goC ?_;refine AT h ?_ ?_<;>intro h
   ·exact BH (.swap 209 204 rfl rfl rfl wk) h
   refine⟨_,rfl,?_⟩;(conv=>whnf);refine Eb (f:=D.u8) h fun _ h=>?_;refine apN (f:=D.u8) h fun _ h=>?_;refine⟨_,rfl,?_⟩;obtain⟨_,g29,h⟩:=AH h;obtain⟨v30,g31,h⟩:=AH h;refine⟨Rn rfl g29 (X29 rfl) g31,D.u8 (0:UInt8),rfl,List.map D.u8 v30,Q8 (f:=D.u8) g31,?_⟩;refine⟨rfl,?_⟩;refine HS h (fun _=>Bq) ?_;rintro⟨_,_⟩ h;refine AL h (fun _=>EX) ?_;rintro⟨_,_⟩ h;refine .inl (dO ?_);refine⟨rfl,?_⟩;refine apO (f:=JAC.toD) h rfl fun _ h=>?_;refine⟨_,rfl,?_⟩;(conv=>whnf);refine Hu (f:=D.u8) h fun _ h=>?_;refine cO ?_;exact p21 _ _ wk h
  rintro v15 h;exact BH (.swap 211 204 rfl rfl rfl wk) h
 rintro⟨v12,v13⟩ h;refine AL h (fun _=>KL) ?_;rintro⟨v42,v43⟩ h;refine AL h (fun _=>Ij) ?_;rintro⟨v45,v46⟩ h;refine AL h (fun _=>Ij) ?_;rintro⟨v48,v49⟩ h;refine AL h (fun _=>QT) ?_;rintro⟨v51,v52,v53⟩ h;refine AL h (fun _=>Ov) ?_;rintro⟨v55,v56⟩ h;refine AM h (fun (v58,v59)=>⟨X::X::yr 2 0::dd 6 (yr 9 0::yO 204 JAC.toD v13::yb v12::y4 v42::yi v43::yr 14 0::yi v46::yr 16 0::yi v49::yr 18 0::y5 v52::yb v53::y5 v55::yb v56::dd 62 (AV.tup [yO 203 JAC.toD v59,yb v58]::dd 119 ([]))),N::N::yB JAG.zv::nn 6 (yA1 (-1) false (0:UInt64) (0:UInt64) (-1) (-1) (-1)::nn 4 (yB (JAA.av v45)::N::yB (JAA.av v48)::N::yB (Addr.av v51)::nn 184 (yR 41 4 JAC.toD v59::yR 41 4 JAC.toD v13::nn 64 ([]))))⟩) ?_ ?_
 ·intro _ h;(conv=>whnf);refine inl Tryz.f64 205 (by kernel_rfl) (by kernel_rfl) ⟨rfl,?_⟩;refine goC ?_;refine AM h (fun v61=>⟨dd 6 (yO 211 JAC.toD v61::dd 57 ([])),N::N::yB JAG.zv::nn 6 (yA1 (-1) false (0:UInt64) (0:UInt64) (-1) (-1) (-1)::nn 4 (yB (JAA.av v45)::N::yB (JAA.av v48)::N::yB (Addr.av v51)::nn 185 (yR 41 4 JAC.toD v13::nn 6 (yR 41 4 JAC.toD v61::nn 57 ([])))))⟩) ?_ ?_
  ·intro _ h;revert h;refine AZ (fun (v63,v64)=>⟨y3 v63::dd 5 (yO 211 JAC.toD v64::yi 4::dd 56 ([])),N::N::yB JAG.zv::nn 6 (yA1 (-1) false (0:UInt64) (0:UInt64) (-1) (-1) (-1)::nn 4 (yB (JAA.av v45)::N::yB (JAA.av v48)::N::yB (Addr.av v51)::nn 185 (yR 41 4 JAC.toD v13::nn 6 (yR 41 4 JAC.toD v64::nn 57 ([])))))⟩) ?_ ?_
   ·exact wk
   rintro _ ⟨v63,v64⟩ _ h p67;refine⟨v63.length,X10 _,?_⟩;refine goC ?_;refine AW h fun h=>?_;refine goC ?_;(conv=>whnf);refine Av h (fun _=>rfl) fun v68 h=>?_;refine⟨_,BG v68,?_⟩;refine⟨_,rfl,?_⟩;refine⟨by decide,_,rfl,?_⟩;refine AM h (fun v70=>⟨y3 v63::dd 5 (yO 211 JAC.toD v64::yi 4::yi (v68.toNat:Int)::AV.d (D.i (AD (Int.tdiv (AD ((v68.toNat:Int)+7)) 8)))::dd 25 (yb v70::dd 28 ([]))),N::N::yB JAG.zv::nn 6 (yA1 (-1) false (0:UInt64) (0:UInt64) (-1) (-1) (-1)::nn 4 (yB (JAA.av v45)::N::yB (JAA.av v48)::N::yB (Addr.av v51)::nn 185 (yR 41 4 JAC.toD v13::nn 6 (yR 41 4 JAC.toD v64::nn 57 ([])))))⟩) ?_ ?_
   ·intro _ h;refine⟨_,rfl,?_⟩;refine An h fun h=>?_;refine⟨v63.length,X10 _,?_⟩;refine⟨_,rfl,?_⟩;exact AN h
   rintro v70 h;refine goC ?_;refine AT h ?_ ?_<;>intro h
   ·exact BH (.swap 209 203 rfl rfl rfl wk) h
   refine⟨_,rfl,?_⟩;(conv=>whnf);refine Eb (f:=D.u8) h fun _ h=>?_;refine apN (f:=D.u8) h fun _ h=>?_;refine⟨_,rfl,?_⟩;obtain⟨_,g75,h⟩:=AH h;obtain⟨v76,g77,h⟩:=AH h;refine⟨Rn rfl g75 (X29 rfl) g77,D.u8 (0:UInt8),rfl,List.map D.u8 v76,Q8 (f:=D.u8) g77,?_⟩;refine⟨rfl,?_⟩;refine HS h (fun _=>Bq) ?_;rintro⟨_,_⟩ h;refine AL h (fun _=>EX) ?_;rintro⟨_,_⟩ h;refine .inl (dO ?_);refine⟨rfl,?_⟩;refine apO (f:=JAC.toD) h rfl fun _ h=>?_;refine⟨_,rfl,?_⟩;(conv=>whnf);refine Hu (f:=D.u8) h fun _ h=>?_;refine cO ?_;exact p67 _ _ wk h
  rintro v61 h;exact BH (.swap 211 203 rfl rfl rfl wk) h
 rintro⟨v58,v59⟩ h;refine apO (f:=JAC.toD) h rfl fun v88 h=>?_;refine apO (f:=JAC.toD) h rfl fun v90 h=>?_;refine AM h (fun v92=>⟨X::X::yr 2 0::dd 6 (yr 9 0::X::X::y4 v42::X::yr 14 0::yi v46::yr 16 0::yi v49::yr 18 0::y5 v52::X::X::X::yO 203 JAC.toD v59::dd 111 (yb v92::dd 69 ([]))),N::N::yB JAG.zv::nn 6 (zS4 (-1) false (0:UInt64) v88 v90::nn 4 (yB (JAA.av v45)::N::yB (JAA.av v48)::N::yB (Addr.av v51)::nn 184 (yR 41 4 JAC.toD v90::yR 41 4 JAC.toD v88::nn 64 ([]))))⟩) ?_ ?_
 ·intro _ h;refine An h fun h=>?_;refine An h fun h=>?_;refine An h fun h=>?_;refine An h fun h=>?_;refine An h fun h=>?_;refine⟨v59.length,Bi,?_⟩;refine AT h ?_ ?_<;>intro h
  ·refine⟨v52.length,X10 _,?_⟩;refine An h fun h=>?_;refine⟨v88.length,Bi,?_⟩;refine An h fun h=>?_;refine⟨v90.length,Bi,?_⟩;exact AN h
  refine⟨v88.length,Bi,?_⟩;refine An h fun h=>?_;refine⟨v90.length,Bi,?_⟩;exact AN h
 rintro v92 h;refine goC ?_;refine AT h ?_ ?_<;>intro h
 ·exact fin h
 refine AL h (fun _=>SC) ?_;rintro⟨v94,_⟩ h;refine goC ?_;refine AT h ?_ ?_<;>intro h
 ·exact fin h
 refine⟨v90.length,Bi,?_⟩;refine goC ?_;refine AT h ?_ ?_<;>intro h
 ·refine⟨rfl,?_⟩;refine⟨rfl,?_⟩;exact fin h
 refine AL h (fun _=>Ij) ?_;rintro⟨_,_⟩ h;refine AM h (fun v100=>⟨X::X::yr 2 0::dd 6 (yr 9 0::dd 8 (yr 18 0::y5 v52::dd 5 (yr 25 0::dd 161 (yb v100::dd 17 ([]))))),N::N::yB JAG.zv::nn 6 (zS4 (-1) false (0:UInt64) v88 v90::nn 8 (yB (Addr.av v51)::nn 6 (yB (JAE.av v94)::nn 177 (yR 41 4 JAC.toD v90::yR 41 4 JAC.toD v88::nn 64 ([])))))⟩) ?_ ?_
 ·intro _ h;refine An h fun h=>?_;refine AL h (fun _=>Kt) fun _ h=>?_;refine An h fun h=>?_;refine AL h (fun _=>Kt) fun _ h=>?_;refine An h fun h=>?_;refine An h fun h=>?_;refine An h fun h=>?_;refine⟨v59.length,Bi,?_⟩;exact selC h
 rintro v100 h;refine goC ?_;refine AT h ?_ ?_<;>intro h
 ·refine .inl (dO ?_);refine⟨rfl,?_⟩;refine apN (f:=JAC.toD) h fun _ h=>?_;refine⟨rfl,?_⟩;refine apO (f:=JAC.toD) h rfl fun _ h=>?_;refine cO ?_;refine⟨rfl,?_⟩;exact fin h
 refine⟨v52.length,X10 _,?_⟩;refine AM h (fun v109=>⟨X::X::yr 2 0::dd 6 (yr 9 0::dd 15 (yr 25 0::dd 179 ([]))),N::N::yB JAG.zv::nn 6 (zS4 (-1) false (0:UInt64) v88 v90::nn 15 (yB (JAE.av v109)::nn 177 (yR 41 4 JAC.toD v90::yR 41 4 JAC.toD v88::nn 64 ([]))))⟩) ?_ ?_
 ·intro _ h;exact selC h
 rintro v109 h;refine⟨rfl,?_⟩;refine⟨rfl,?_⟩;exact fin h
theorem SR {a0:List UInt8}{r:Bool×Bool}(h:Hz a0=some r):yC wl 32 [AV.d (D.l 1 D.u8 a0)] [] (.tup [.d (D.b r.1),.d (D.b r.2)]) []:=by
 refine oK Tryz.f32 ⟨rfl,?_⟩;unfold Hz at h;refine⟨a0,rfl,?_⟩;refine goC ?_;refine AT h ?_ ?_<;>intro h
 ·exact fin h
 refine AL h (fun _=>Jz) ?_;rintro⟨v1,_⟩ h;refine AM h (fun v4=>⟨y3 a0::dd 48 (yb v4::dd 35 ([])),nn 85 ([])⟩) ?_ ?_
 ·intro _ h;refine An h fun h=>?_;refine⟨v1.Withdraw.length,X10 _,?_⟩;refine An h fun h=>?_;refine⟨v1.Announce.length,X10 _,?_⟩;refine An h fun h=>?_;refine⟨a0.length,X10 _,?_⟩;refine An h fun h=>?_;(conv=>whnf);refine Av h (fun _=>rfl) fun _ h=>?_;refine An h fun h=>?_;(conv=>whnf);refine Av h (fun _=>rfl) fun _ h=>?_;exact AN h
 rintro v4 h;refine goC ?_;refine AT h ?_ ?_<;>intro h
 ·exact fin h
 (conv=>whnf);refine Hu (f:=D.u8) h fun _ h=>?_;refine AL h (fun _=>Ii) ?_;rintro⟨_,v13,_⟩ h;refine AL h (fun _=>KL) ?_;rintro⟨v16,_⟩ h;refine AM h (fun v19=>⟨dd 84 (yb v19::[]),nn 85 ([])⟩) ?_ ?_
 ·intro _ h;refine An h fun h=>?_;refine⟨v13.length,X10 _,?_⟩;refine An h fun h=>?_;refine An h fun h=>?_;refine⟨v16.length,X10 _,?_⟩;refine An h fun h=>?_;(conv=>whnf);refine Av h (fun _=>rfl) fun _ h=>?_;exact AN h
 rintro v19 h;refine goC ?_;refine AT h ?_ ?_<;>intro h
 ·exact fin h
 exact fin h
theorem IS {a0:List JAC}{a1:List JAC}{r:Bool}(h:EK a0 a1=some r):yC wl 37 [AV.d (D.l 4 JAC.toD a0),AV.d (D.l 4 JAC.toD a1)] [] (.d (D.b r)) []:=by
 refine oK Tryz.f37 ⟨rfl,?_⟩;unfold EK at h;refine⟨a0.length,X10 _,?_⟩;refine⟨a1.length,X10 _,?_⟩;refine goC ?_;refine AT h ?_ ?_<;>intro h
 ·exact fin h
 refine⟨a0.length,X10 _,?_⟩;refine AM h (fun _=>⟨dd 26 ([]),nn 26 ([])⟩) ?_ ?_
 ·intro _ h;revert h;refine Aa 12 4 JAC.toD rfl (fun i2 _=>⟨X::y5 a1::dd 10 (y5 a0::yi (a0.length:Int)::yi (i2:Int)::dd 11 ([])),nn 26 ([])⟩) ?_ ?_ ?_
  ·exact wk
  ·rintro _ K3 h;refine goC ?_;refine BI CX ?_;exact AN h
  rintro _ i2 x5 _ K3 b2 c2 e2 h p6;refine goC ?_;refine BB (CO b2) ?_;refine goC ?_;refine⟨BD (f:=JAC.toD) b2,JAC.toD x5,c2,rfl,?_⟩;refine .inl (dO ?_);(conv=>whnf);refine Av h (fun _=>rfl) fun _ h=>?_;refine cO ?_;refine goC ?_;refine AT h ?_ ?_<;>intro h
  ·exact fin h
  refine⟨_,e2,?_⟩;exact p6 _ _ wk h
 rintro _ h;exact fin h
theorem SA {a0:JAG}{a1:JAG}{r:Bool}(h:IA a0 a1=some r):yC wl 33 [AV.d (JAG.toD a0),AV.d (JAG.toD a1)] [] (.d (D.b r)) []:=by
 refine oK Tryz.f33 ⟨rfl,?_⟩;unfold IA at h;refine AM h (fun v1=>⟨dd 4 (yb v1::dd 19 ([])),nn 24 ([])⟩) ?_ ?_
 ·intro _ h;refine AL h (fun _=>IS) fun _ h=>?_;refine AW h fun h=>?_;refine AL h (fun _=>IS) fun _ h=>?_;refine AW h fun h=>?_;refine AL h (fun _=>L6) fun _ h=>?_;exact AN h
 rintro v1 h;exact fin h
end Go.AX.Q19
end
section
namespace Go.AX.Q19
open Go Go.AX Go.Proofs
end Go.AX.Q19
end
section
namespace Go.AX.Q19
open Go Go.AX Go.Proofs
variable {wl:Prop}
theorem law19_UpdateDecodes_ok {a0:List UInt8}{a1:List Int}{a2:Int}{a3:Int}{r:Bool}(h:Cc a0 a1 a2 a3=some r):yC wl 5 [AV.d (D.l 1 D.u8 a0),AV.d (D.l 1 D.i a1),AV.d (D.i a2),AV.d (D.i a3)] [] (.d (D.b r)) []:=by
 refine oK Tryz.f5 ⟨rfl,?_⟩;unfold Cc at h;refine AL h (fun _=>SN) fun _ h=>?_;refine goC ?_;refine AT h ?_ ?_<;>intro h
 ·refine AL h (fun _=>LC) fun _ h=>?_;exact fin h
 refine PU [25] h (fun _=>Vt) fun _ h=>?_;refine AL h (fun _=>Rz) ?_;rintro⟨v7,_⟩ h;refine AL h (fun _=>QX) fun v10 h=>?_;refine⟨a0.length,X10 _,?_⟩;refine⟨_,Ae _,?_⟩;refine apO (f:=D.u8) h rfl fun v12 h=>?_;refine⟨_,Ae _,?_⟩;refine⟨rfl,?_⟩;refine⟨rfl,?_⟩;refine⟨rfl,?_⟩;refine⟨rfl,?_⟩;refine⟨([a0,v7,v10,v12,([(0:UInt8),(0:UInt8),(0:UInt8),(6:UInt8),(128:UInt8),(15:UInt8),(3:UInt8),(0:UInt8),(2:UInt8),(1:UInt8)]:List UInt8),([(0:UInt8),(0:UInt8),(0:UInt8),(6:UInt8),(128:UInt8),(15:UInt8),(3:UInt8),(0:UInt8),(Am a3),(1:UInt8)]:List UInt8),([(0:UInt8),(0:UInt8),(0:UInt8),(0:UInt8)]:List UInt8)]:List (List UInt8)).length,Bi,?_⟩;refine AM h (fun _=>⟨dd 99 ([]),nn 99 ([])⟩) ?_ ?_
 ·intro _ h;revert h;refine Nh 44 44 1 .no (D.l 1 D.u8) rfl (fun i15 _=>⟨dd 44 (AV.own 44 (List.map (D.l 1 D.u8) ([a0,v7,v10,v12,([(0:UInt8),(0:UInt8),(0:UInt8),(6:UInt8),(128:UInt8),(15:UInt8),(3:UInt8),(0:UInt8),(2:UInt8),(1:UInt8)]:List UInt8),([(0:UInt8),(0:UInt8),(0:UInt8),(6:UInt8),(128:UInt8),(15:UInt8),(3:UInt8),(0:UInt8),(Am a3),(1:UInt8)]:List UInt8),([(0:UInt8),(0:UInt8),(0:UInt8),(0:UInt8)]:List UInt8)]:List (List UInt8))).length::AV.d (D.i (([a0,v7,v10,v12,([(0:UInt8),(0:UInt8),(0:UInt8),(6:UInt8),(128:UInt8),(15:UInt8),(3:UInt8),(0:UInt8),(2:UInt8),(1:UInt8)]:List UInt8),([(0:UInt8),(0:UInt8),(0:UInt8),(6:UInt8),(128:UInt8),(15:UInt8),(3:UInt8),(0:UInt8),(Am a3),(1:UInt8)]:List UInt8),([(0:UInt8),(0:UInt8),(0:UInt8),(0:UInt8)]:List UInt8)]:List (List UInt8)).length:Int))::yi (i15:Int)::dd 52 ([])),nn 44 (some (OB.row 44 1 (List.map (D.l 1 D.u8) ([a0,v7,v10,v12,([(0:UInt8),(0:UInt8),(0:UInt8),(6:UInt8),(128:UInt8),(15:UInt8),(3:UInt8),(0:UInt8),(2:UInt8),(1:UInt8)]:List UInt8),([(0:UInt8),(0:UInt8),(0:UInt8),(6:UInt8),(128:UInt8),(15:UInt8),(3:UInt8),(0:UInt8),(Am a3),(1:UInt8)]:List UInt8),([(0:UInt8),(0:UInt8),(0:UInt8),(0:UInt8)]:List UInt8)]:List (List UInt8))) .no)::nn 54 ([]))⟩) ?_ ?_ ?_
  ·exact wk
  ·rintro _ K16 h;refine goC ?_;exact AN h
  rintro _ i15 x18 _ K16 b15 c15 e15 h p19;refine goC ?_;refine BB (CO b15) ?_;refine goC ?_;refine⟨rfl,BD (f:=(D.l 1 D.u8)) b15,?_⟩;refine⟨rfl,(D.l 1 D.u8) x18,c15,?_⟩;refine AL h (fun _=>Om) ?_;rintro⟨v20,v21⟩ h;refine AL h (fun _=>Jz) ?_;rintro⟨v23,v24⟩ h;refine AL h (fun _=>K9) ?_;rintro⟨v26,v27⟩ h;refine AL h (fun _=>SR) ?_;rintro⟨v29,v30⟩ h;refine AM h (fun v32=>⟨dd 12 (yr 12 0::yi v21::yr 14 0::yi v24::yb v26::yb v27::yb v29::yb v30::dd 24 (AV.own 44 (List.map (D.l 1 D.u8) ([a0,v7,v10,v12,([(0:UInt8),(0:UInt8),(0:UInt8),(6:UInt8),(128:UInt8),(15:UInt8),(3:UInt8),(0:UInt8),(2:UInt8),(1:UInt8)]:List UInt8),([(0:UInt8),(0:UInt8),(0:UInt8),(6:UInt8),(128:UInt8),(15:UInt8),(3:UInt8),(0:UInt8),(Am a3),(1:UInt8)]:List UInt8),([(0:UInt8),(0:UInt8),(0:UInt8),(0:UInt8)]:List UInt8)]:List (List UInt8))).length::AV.d (D.i (([a0,v7,v10,v12,([(0:UInt8),(0:UInt8),(0:UInt8),(6:UInt8),(128:UInt8),(15:UInt8),(3:UInt8),(0:UInt8),(2:UInt8),(1:UInt8)]:List UInt8),([(0:UInt8),(0:UInt8),(0:UInt8),(6:UInt8),(128:UInt8),(15:UInt8),(3:UInt8),(0:UInt8),(Am a3),(1:UInt8)]:List UInt8),([(0:UInt8),(0:UInt8),(0:UInt8),(0:UInt8)]:List UInt8)]:List (List UInt8)).length:Int))::yi (i15:Int)::dd 28 (yb v32::dd 23 ([])))),nn 12 (yB (JAG.av v20)::N::yB (JAG.av v23)::nn 29 (some (OB.row 44 1 (List.map (D.l 1 D.u8) ([a0,v7,v10,v12,([(0:UInt8),(0:UInt8),(0:UInt8),(6:UInt8),(128:UInt8),(15:UInt8),(3:UInt8),(0:UInt8),(2:UInt8),(1:UInt8)]:List UInt8),([(0:UInt8),(0:UInt8),(0:UInt8),(6:UInt8),(128:UInt8),(15:UInt8),(3:UInt8),(0:UInt8),(Am a3),(1:UInt8)]:List UInt8),([(0:UInt8),(0:UInt8),(0:UInt8),(0:UInt8)]:List UInt8)]:List (List UInt8))) .no)::nn 54 ([])))⟩) ?_ ?_
  ·intro _ h;exact selC h
  rintro v32 h;refine AM h (fun (v34,v35)=>⟨dd 12 (yr 12 0::yi v21::yr 14 0::yi v24::yb v26::yb v27::yb v29::yb v30::dd 24 (AV.own 44 (List.map (D.l 1 D.u8) ([a0,v7,v10,v12,([(0:UInt8),(0:UInt8),(0:UInt8),(6:UInt8),(128:UInt8),(15:UInt8),(3:UInt8),(0:UInt8),(2:UInt8),(1:UInt8)]:List UInt8),([(0:UInt8),(0:UInt8),(0:UInt8),(6:UInt8),(128:UInt8),(15:UInt8),(3:UInt8),(0:UInt8),(Am a3),(1:UInt8)]:List UInt8),([(0:UInt8),(0:UInt8),(0:UInt8),(0:UInt8)]:List UInt8)]:List (List UInt8))).length::AV.d (D.i (([a0,v7,v10,v12,([(0:UInt8),(0:UInt8),(0:UInt8),(6:UInt8),(128:UInt8),(15:UInt8),(3:UInt8),(0:UInt8),(2:UInt8),(1:UInt8)]:List UInt8),([(0:UInt8),(0:UInt8),(0:UInt8),(6:UInt8),(128:UInt8),(15:UInt8),(3:UInt8),(0:UInt8),(Am a3),(1:UInt8)]:List UInt8),([(0:UInt8),(0:UInt8),(0:UInt8),(0:UInt8)]:List UInt8)]:List (List UInt8)).length:Int))::yi (i15:Int)::dd 52 ([]))),nn 12 (yB (JAG.av v34)::N::yB (JAG.av v35)::nn 29 (some (OB.row 44 1 (List.map (D.l 1 D.u8) ([a0,v7,v10,v12,([(0:UInt8),(0:UInt8),(0:UInt8),(6:UInt8),(128:UInt8),(15:UInt8),(3:UInt8),(0:UInt8),(2:UInt8),(1:UInt8)]:List UInt8),([(0:UInt8),(0:UInt8),(0:UInt8),(6:UInt8),(128:UInt8),(15:UInt8),(3:UInt8),(0:UInt8),(Am a3),(1:UInt8)]:List UInt8),([(0:UInt8),(0:UInt8),(0:UInt8),(0:UInt8)]:List UInt8)]:List (List UInt8))) .no)::nn 54 ([])))⟩) ?_ ?_
  ·intro _ h;exact selC h
  rintro⟨v34,v35⟩ h;refine AM h (fun v37=>⟨dd 44 (AV.own 44 (List.map (D.l 1 D.u8) ([a0,v7,v10,v12,([(0:UInt8),(0:UInt8),(0:UInt8),(6:UInt8),(128:UInt8),(15:UInt8),(3:UInt8),(0:UInt8),(2:UInt8),(1:UInt8)]:List UInt8),([(0:UInt8),(0:UInt8),(0:UInt8),(6:UInt8),(128:UInt8),(15:UInt8),(3:UInt8),(0:UInt8),(Am a3),(1:UInt8)]:List UInt8),([(0:UInt8),(0:UInt8),(0:UInt8),(0:UInt8)]:List UInt8)]:List (List UInt8))).length::AV.d (D.i (([a0,v7,v10,v12,([(0:UInt8),(0:UInt8),(0:UInt8),(6:UInt8),(128:UInt8),(15:UInt8),(3:UInt8),(0:UInt8),(2:UInt8),(1:UInt8)]:List UInt8),([(0:UInt8),(0:UInt8),(0:UInt8),(6:UInt8),(128:UInt8),(15:UInt8),(3:UInt8),(0:UInt8),(Am a3),(1:UInt8)]:List UInt8),([(0:UInt8),(0:UInt8),(0:UInt8),(0:UInt8)]:List UInt8)]:List (List UInt8)).length:Int))::yi (i15:Int)::dd 49 (yb v37::X::X::[])),nn 44 (some (OB.row 44 1 (List.map (D.l 1 D.u8) ([a0,v7,v10,v12,([(0:UInt8),(0:UInt8),(0:UInt8),(6:UInt8),(128:UInt8),(15:UInt8),(3:UInt8),(0:UInt8),(2:UInt8),(1:UInt8)]:List UInt8),([(0:UInt8),(0:UInt8),(0:UInt8),(6:UInt8),(128:UInt8),(15:UInt8),(3:UInt8),(0:UInt8),(Am a3),(1:UInt8)]:List UInt8),([(0:UInt8),(0:UInt8),(0:UInt8),(0:UInt8)]:List UInt8)]:List (List UInt8))) .no)::nn 54 ([]))⟩) ?_ ?_
  ·intro _ h;refine AL h (fun _=>SA) fun _ h=>?_;refine An h fun h=>?_;refine An h fun h=>?_;exact selC h
  rintro v37 h;refine goC ?_;refine AT h ?_ ?_<;>intro h
  ·exact fin h
  refine⟨_,e15,?_⟩;exact p19 _ _ wk h
 rintro _ h;refine AL h (fun _=>LC) fun _ h=>?_;exact fin h
end Go.AX.Q19
end
