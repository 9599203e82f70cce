/-
  Texts of one proof, packed.
-/
import Derived.Test.YtckndjeehbfpkaaGreatDoorK2
import Derived.Test.YtckndjeehbfpkaaGreatDoorK4
import Derived.Test.YtckndjeehbfpkaaGreatDoorK5
import Derived.Test.YtckndjeehbfpkaaGreatDoorK7
import Derived.IntWalk
import Derived.Shelf.Lays
import Derived.Shelf.SlIter.Nil
import Derived.Shelf.SlIterI.Nil
import Derived.Shelf.SlSortCmp.NoneTotal
import Derived.Shelf.SortM.Plain
import Derived.Shelf.SortM.SortNone
set_option linter.all false
set_option maxRecDepth 100000
set_option maxHeartbeats 4000000
open List renaming length_map→X10,length_append→X11,length_cons→X12,getElem?_eq_getElem→X15,length_drop→X17,length_take→X18,mem_cons_of_mem→X19,length_replicate→X20,length_set→X21
open Option.some renaming injEq→X24,inj→X25
open Prod.mk renaming injEq→X26
open Nat renaming le_of_ble_eq_true→X29,mul_le_mul_right→X31,add_mul→X32
section
namespace Go.AX.Q24
open Go Go.AX Go.Proofs
variable {wl:Prop}
theorem Ba {a0:List JAH}{r:Bool}(h:AZ a0=some r):yC wl 174 [AV.d (D.l 3 JAH.toD a0),AV.fn 175 [],AV.fn 176 []] [] (.d (D.b r)) []:=by
 refine oK Tryz.f174 ⟨rfl,?_⟩;unfold AZ at h;refine⟨a0.length,X10 _,?_⟩;refine AG h (fun _=>⟨y3 a0::dd 38 ([]),nn 39 ([])⟩) ?_ ?_
 ·intro _ h;revert h;refine AM 9 3 JAH.toD rfl (fun i1 _=>⟨y3 a0::AV.fn 175 []::AV.fn 176 []::dd 6 (y3 a0::yi (a0.length:Int)::yi (i1:Int)::dd 27 ([])),nn 39 ([])⟩) ?_ ?_ ?_
  ·exact wk
  ·rintro _ K2 h;refine goC ?_;refine Ax BV ?_;exact AH h
  rintro _ i1 x3 _ K2 b1 c1 e1 h p4;refine goC ?_;refine Ar (BO b1) ?_;refine goC ?_;refine⟨Aq (f:=JAH.toD) b1,JAH.toD x3,c1,rfl,?_⟩;refine AG h (fun v5=>⟨y3 a0::AV.fn 175 []::AV.fn 176 []::dd 6 (y3 a0::yi (a0.length:Int)::yi (i1:Int)::dd 22 (yb v5::dd 4 ([]))),nn 39 ([])⟩) ?_ ?_
  ·intro _ h;refine .inl (dO ?_);refine Ah h (fun _=>Js) (fun _=>rfl) fun _ h=>?_;refine AP h ?_ ?_<;>intro h
   ·refine cO ?_;exact AH h
   refine AP h ?_ ?_<;>intro h
   ·refine⟨_,rfl,?_⟩;(conv=>whnf);refine Cd h (fun _=>rfl) fun _ h=>?_;refine Ah h (fun _=>IY) (fun _=>rfl) fun _ h=>?_;refine cO ?_;exact AH h
   refine cO ?_;exact AH h
  rintro v5 h;refine goC ?_;refine AP h ?_ ?_<;>intro h
  ·exact fin h
  refine⟨_,e1,?_⟩;exact p4 _ _ wk h
 rintro _ h;refine⟨a0.length,X10 _,?_⟩;exact fin h
theorem GQ {a0:List JAH}{r:Bool}(h:B0 a0=some r):yC wl 146 [AV.d (D.l 3 JAH.toD a0)] [] (.d (D.b r)) []:=by
 refine oK Tryz.f146 ⟨rfl,?_⟩;unfold B0 at h;(conv=>whnf);refine AD h (fun _=>Ba) fun _ h=>?_;exact fin h
theorem KZ {a0:Int}{r:Bool}(h:D6 a0=some r):yC wl 177 [AV.d (D.i a0)] [] (.d (D.b r)) []:=by
 refine oK Tryz.f177 ⟨rfl,?_⟩;unfold D6 at h;(conv=>whnf);refine AG h (fun v1=>⟨X::X::yb v1::dd 12 ([]),nn 15 ([])⟩) ?_ ?_
 ·intro _ h;obtain⟨v2,g3,h⟩:=AW h;refine⟨_,Gz (ek:=D.i) (ev:=D.i) (l:=Pn) (k:=a0) XQ,D.i v2,JX (z:=0) rfl g3,_,rfl,?_⟩;refine Ae h fun h=>?_;exact selC h
 rintro v1 h;exact fin h
theorem Hv {a0:List JAJ}{r:Bool}(h:Dh a0=some r):yC wl 147 [AV.d (D.l 3 JAJ.toD a0)] [] (.d (D.b r)) []:=by
 refine oK Tryz.f147 ⟨rfl,?_⟩;unfold Dh at h;refine⟨a0.length,X10 _,?_⟩;refine AG h (fun _=>⟨y4 a0::dd 51 ([]),nn 52 ([])⟩) ?_ ?_
 ·intro _ h;revert h;refine AM 5 3 JAJ.toD rfl (fun i1 _=>⟨y4 a0::dd 4 (y4 a0::yi (a0.length:Int)::yi (i1:Int)::dd 44 ([])),nn 52 ([])⟩) ?_ ?_ ?_
  ·exact wk
  ·rintro _ K2 h;refine goC ?_;refine Ax BV ?_;exact AH h
  rintro _ i1 x3 _ K2 b1 c1 e1 h p4;refine goC ?_;refine Ar (BO b1) ?_;refine goC ?_;refine⟨Aq (f:=JAJ.toD) b1,JAJ.toD x3,c1,rfl,?_⟩;refine AG h (fun v5=>⟨y4 a0::dd 4 (y4 a0::yi (a0.length:Int)::yi (i1:Int)::dd 39 (yb v5::dd 4 ([]))),nn 52 ([])⟩) ?_ ?_
  ·intro _ h;refine .inl (dO ?_);refine Ah h (fun _=>KZ) (fun _=>rfl) fun _ h=>?_;refine AP h ?_ ?_<;>intro h
   ·refine cO ?_;exact AH h
   refine Ah h (fun _=>EI) (fun _=>rfl) fun _ h=>?_;refine AP h ?_ ?_<;>intro h
   ·refine cO ?_;exact AH h
   refine AP h ?_ ?_<;>intro h
   ·refine cO ?_;exact AH h
   refine⟨x3.Data.length,X10 _,?_⟩;refine AP h ?_ ?_<;>intro h
   ·refine cO ?_;exact AH h
   refine AP h ?_ ?_<;>intro h
   ·refine⟨_,rfl,?_⟩;(conv=>whnf);refine Cd h (fun _=>rfl) fun _ h=>?_;refine cO ?_;exact AH h
   refine cO ?_;exact AH h
  rintro v5 h;refine goC ?_;refine AP h ?_ ?_<;>intro h
  ·exact fin h
  refine⟨_,e1,?_⟩;exact p4 _ _ wk h
 rintro _ h;refine⟨a0.length,X10 _,?_⟩;exact fin h
theorem MX {a0:JAG}{r:Bool}(h:Ey a0=some r):yC wl 100 [AV.d (JAG.toD a0)] [] (.d (D.b r)) []:=by
 refine oK Tryz.f100 ⟨rfl,?_⟩;unfold Ey at h;(conv=>whnf);refine AG h (fun v1=>⟨X::X::yb v1::dd 48 ([]),nn 51 ([])⟩) ?_ ?_
 ·intro _ h;refine AD h (fun _=>EI) fun _ h=>?_;refine Ae h fun h=>?_;refine AD h (fun _=>Hj) fun _ h=>?_;refine Ae h fun h=>?_;refine AD h (fun _=>Ix) fun _ h=>?_;refine Ae h fun h=>?_;refine AD h (fun _=>EI) fun _ h=>?_;refine Ae h fun h=>?_;refine AD h (fun _=>EI) fun _ h=>?_;refine Ae h fun h=>?_;refine AP h ?_ ?_<;>intro h
  ·refine AD h (fun _=>IT) fun _ h=>?_;refine Ae h fun h=>?_;refine AD h (fun _=>GQ) fun _ h=>?_;refine Ae h fun h=>?_;refine AD h (fun _=>Hv) fun _ h=>?_;exact AH h
  refine AD h (fun _=>FX) fun _ h=>?_;refine Ae h fun h=>?_;refine AD h (fun _=>IT) fun _ h=>?_;refine Ae h fun h=>?_;refine AD h (fun _=>GQ) fun _ h=>?_;refine Ae h fun h=>?_;refine AD h (fun _=>Hv) fun _ h=>?_;exact AH h
 rintro v1 h;exact fin h
theorem PE {a0:JAK}{r:Bool}(h:Ft a0=some r):yC wl 74 [AV.d (JAK.toD a0)] [] (.d (D.b r)) []:=by
 refine oK Tryz.f74 ⟨rfl,?_⟩;unfold Ft at h;(conv=>whnf);refine AG h (fun v1=>⟨X::X::yb v1::dd 37 ([]),nn 40 ([])⟩) ?_ ?_
 ·intro _ h;refine AD h (fun _=>Et) fun _ h=>?_;refine Ae h fun h=>?_;refine AD h (fun _=>MX) fun _ h=>?_;refine Ae h fun h=>?_;refine Ae h fun h=>?_;refine⟨a0.JAG.Path.length,X10 _,?_⟩;refine Ae h fun h=>?_;exact selC h
 rintro v1 h;exact fin h
theorem SB {a0:List JAE}{r:(List Int)}(h:HZ a0=some r):yC wl 75 [AV.d (D.l 2 JAE.toD a0)] [] (.d (D.l 1 D.i r)) []:=by
 refine oK Tryz.f75 ⟨rfl,?_⟩;unfold HZ at h;refine⟨a0.length,X10 _,?_⟩;refine AG h (fun v1=>⟨X::X::X::yO 3 D.i v1::dd 14 ([]),N::N::N::yR 3 1 D.i v1::nn 14 ([])⟩) ?_ ?_
 ·intro _ h;revert h;refine AM 6 2 JAE.toD rfl (fun i2 v3=>⟨X::X::X::yO 3 D.i v3::X::X::y1 a0::yi (a0.length:Int)::yi (i2:Int)::dd 9 ([]),N::N::N::yR 3 1 D.i v3::nn 14 ([])⟩) ?_ ?_ ?_
  ·exact wk
  ·rintro v3 K4 h;refine goC ?_;refine Ax BV ?_;exact AH h
  rintro _ i2 x5 v3 K4 b2 c2 e2 h p6;refine goC ?_;refine Ar (BO b2) ?_;refine goC ?_;refine⟨Aq (f:=JAE.toD) b2,JAE.toD x5,c2,rfl,?_⟩;refine apO (f:=D.i) h rfl fun _ h=>?_;refine⟨_,e2,?_⟩;exact p6 _ _ wk h
 rintro v1 h;(conv=>whnf);refine .inl ?_;(conv=>whnf);refine .inl ?_;refine⟨rfl,?_⟩;exact fin h
theorem O1 {a0:List JAE}{r:Int×Bool}(h:Fv a0=some r):yC wl 76 [AV.d (D.l 2 JAE.toD a0)] [] (.tup [.d (D.i r.1),.d (D.b r.2)]) []:=by
 refine oK Tryz.f76 ⟨rfl,?_⟩;unfold Fv at h;(conv=>whnf);refine AG h (fun v1=>⟨y1 a0::dd 20 (yb v1::dd 13 ([])),nn 35 ([])⟩) ?_ ?_
 ·intro _ h;refine⟨a0.length,X10 _,?_⟩;refine A6 h fun h=>?_;refine AD h (fun _=>Hj) fun _ h=>?_;refine A6 h fun h=>?_;refine⟨a0.length,X10 _,?_⟩;refine⟨_,rfl,?_⟩;(conv=>whnf);refine Cd h (fun _=>rfl) fun _ h=>?_;exact AH h
 rintro v1 h;refine goC ?_;refine AP h ?_ ?_<;>intro h
 ·exact fin h
 refine⟨a0.length,X10 _,?_⟩;refine⟨_,rfl,?_⟩;(conv=>whnf);refine Cd h (fun _=>rfl) fun v2 h=>?_;refine⟨v2.ASNs.length,X10 _,?_⟩;refine⟨_,rfl,?_⟩;(conv=>whnf);refine Cd h (fun _=>rfl) fun _ h=>?_;exact fin h
theorem QJ {a0:List JAE}{r:Int×Bool}(h:Gt a0=some r):yC wl 103 [AV.d (D.l 2 JAE.toD a0)] [] (.tup [.d (D.i r.1),.d (D.b r.2)]) []:=by
 refine oK Tryz.f103 ⟨rfl,?_⟩;unfold Gt at h;(conv=>whnf);refine AG h (fun v1=>⟨y1 a0::dd 16 (yb v1::dd 6 ([])),nn 24 ([])⟩) ?_ ?_
 ·intro _ h;refine⟨a0.length,X10 _,?_⟩;refine A6 h fun h=>?_;refine AD h (fun _=>Hj) fun _ h=>?_;refine A6 h fun h=>?_;(conv=>whnf);refine Cd h (fun _=>rfl) fun _ h=>?_;exact AH h
 rintro v1 h;refine goC ?_;refine AP h ?_ ?_<;>intro h
 ·exact fin h
 (conv=>whnf);refine Cd h (fun _=>rfl) fun _ h=>?_;(conv=>whnf);refine Cd h (fun _=>rfl) fun _ h=>?_;exact fin h
theorem NG {a0:JAF}{r:Bool×JAF}(h:EV a0=some r):yC wl 102 [.ref 0 0] [.box (JAF.av a0)] (.d (D.b r.1)) [.box (JAF.av r.2)]:=by
 refine oK Tryz.f102 ⟨rfl,?_⟩;unfold EV at h;(conv=>whnf);refine AD h (fun _=>QJ) ?_;rintro⟨_,_⟩ h;refine AG h (fun v1=>⟨X::X::yb v1::dd 23 ([]),yB (JAF.av a0)::nn 26 ([])⟩) ?_ ?_
 ·intro _ h;exact selC h
 rintro v1 h;exact fin h
theorem GY {a0:List Addr}{a1:Addr}{r:Int}(h:Bi a0 a1=some r):yC wl 148 [AV.d (D.l 3 Addr.toD a0),AV.d (Addr.toD a1)] [] (.d (D.i r)) []:=by
 refine oK Tryz.f148 ⟨rfl,?_⟩;unfold Bi at h;refine⟨a0.length,X10 _,?_⟩;refine AG h (fun _=>⟨Kp,JK⟩) ?_ ?_
 ·intro _ h;revert h;refine AM 6 3 Addr.toD rfl (fun i1 _=>⟨y5 a0::X::X::yr 3 0::X::X::y5 a0::yi (a0.length:Int)::yi (i1:Int)::dd 10 ([]),N::N::N::yB (Addr.av a1)::nn 15 ([])⟩) ?_ ?_ ?_
  ·exact wk
  ·rintro _ K2 h;refine goC ?_;refine Ax BV ?_;exact AH h
  rintro _ i1 x3 _ K2 b1 c1 e1 h p4;refine goC ?_;refine Ar (BO b1) ?_;refine goC ?_;refine .inl (dO ?_);refine⟨Aq (f:=Addr.toD) b1,Addr.toD x3,c1,rfl,?_⟩;refine cO ?_;refine goC ?_;refine AP h ?_ ?_<;>intro h
  ·exact fin h
  refine⟨_,e1,?_⟩;exact p4 _ _ wk h
 rintro _ h;exact fin h
theorem Fp {a0:List Addr}{a1:Addr}{r:Bool}(h:BH a0 a1=some r):yC wl 105 [AV.d (D.l 3 Addr.toD a0),AV.d (Addr.toD a1)] [] (.d (D.b r)) []:=by
 refine oK Tryz.f105 ⟨rfl,?_⟩;unfold BH at h;(conv=>whnf);refine AD h (fun _=>GY) fun _ h=>?_;exact fin h
theorem Nn {a0:JAF}{r:Bool×JAF}(h:EX a0=some r):yC wl 104 [.ref 0 0] [.box (JAF.av a0)] (.d (D.b r.1)) [.box (JAF.av r.2)]:=by
 refine oK Tryz.f104 ⟨rfl,?_⟩;unfold EX at h;(conv=>whnf);refine .inl (dO ?_);refine Ah h (fun _=>Fp) (fun _=>rfl) fun _ h=>?_;refine cO ?_;exact fin h
theorem Ot {a0:List JAE}{r:Int}(h:Db a0=some r):yC wl 107 [AV.d (D.l 2 JAE.toD a0)] [] (.d (D.i r)) []:=by
 refine oK Tryz.f107 ⟨rfl,?_⟩;unfold Db at h;refine⟨a0.length,X10 _,?_⟩;refine AG h (fun v1=>⟨X::X::X::yi v1::dd 19 ([]),nn 23 ([])⟩) ?_ ?_
 ·intro _ h;revert h;refine AM 6 2 JAE.toD rfl (fun i2 v3=>⟨bD v3 (a0.length:Int) (i2:Int) a0,nn 23 ([])⟩) ?_ ?_ ?_
  ·exact wk
  ·rintro v3 K4 h;refine goC ?_;refine Ax BV ?_;exact AH h
  rintro _ i2 x5 v3 K4 b2 c2 e2 h p6;refine goC ?_;refine Ar (BO b2) ?_;refine goC ?_;refine⟨Aq (f:=JAE.toD) b2,JAE.toD x5,c2,rfl,?_⟩;refine AG h (fun v7=>⟨bD v7 (a0.length:Int) (i2:Int) a0,nn 23 ([])⟩) ?_ ?_
  ·intro _ h;refine AP h ?_ ?_<;>intro h
   ·refine⟨_,rfl,?_⟩;exact AH h
   refine⟨x5.ASNs.length,X10 _,?_⟩;refine⟨_,rfl,?_⟩;exact AH h
  rintro v7 h;refine⟨_,e2,?_⟩;exact p6 _ _ wk h
 rintro v1 h;exact fin h
theorem OK {a0:JAF}{r:Bool×JAF}(h:Eb a0=some r):yC wl 106 [.ref 0 0] [.box (JAF.av a0)] (.d (D.b r.1)) [.box (JAF.av r.2)]:=by
 refine oK Tryz.f106 ⟨rfl,?_⟩;unfold Eb at h;(conv=>whnf);refine .inl (dO ?_);refine Ah h (fun _=>Ot) (fun _=>rfl) fun _ h=>?_;refine cO ?_;exact fin h
theorem JW {a0:List Int}{a1:Int}{r:Int}(h:EE a0 a1=some r):yC wl 149 [AV.d (D.l 1 D.i a0),AV.d (D.i a1)] [] (.d (D.i r)) []:=by
 refine oK Tryz.f149 ⟨rfl,?_⟩;unfold EE at h;refine⟨a0.length,X10 _,?_⟩;refine AG h (fun _=>⟨Kp,JK⟩) ?_ ?_
 ·intro _ h;revert h;refine AM 6 1 D.i rfl (fun i1 _=>⟨y0 a0::yi a1::dd 4 (y0 a0::yi (a0.length:Int)::yi (i1:Int)::dd 10 ([])),JK⟩) ?_ ?_ ?_
  ·exact wk
  ·rintro _ K2 h;refine goC ?_;refine Ax BV ?_;exact AH h
  rintro _ i1 x3 _ K2 b1 c1 e1 h p4;refine goC ?_;refine Ar (BO b1) ?_;refine goC ?_;refine⟨Aq (f:=D.i) b1,D.i x3,c1,rfl,?_⟩;refine goC ?_;refine AP h ?_ ?_<;>intro h
  ·exact fin h
  refine⟨_,e1,?_⟩;exact p4 _ _ wk h
 rintro _ h;exact fin h
theorem Bc {a0:List Int}{a1:Int}{r:Bool}(h:AS a0 a1=some r):yC wl 109 [AV.d (D.l 1 D.i a0),AV.d (D.i a1)] [] (.d (D.b r)) []:=by
 refine oK Tryz.f109 ⟨rfl,?_⟩;unfold AS at h;(conv=>whnf);refine AD h (fun _=>JW) fun _ h=>?_;exact fin h
theorem OV {a0:JAF}{r:Bool×JAF}(h:EM a0=some r):yC wl 108 [.ref 0 0] [.box (JAF.av a0)] (.d (D.b r.1)) [.box (JAF.av r.2)]:=by
 refine oK Tryz.f108 ⟨rfl,?_⟩;unfold EM at h;(conv=>whnf);refine .inl (dO ?_);refine Ah h (fun _=>Bc) (fun _=>rfl) fun _ h=>?_;refine cO ?_;exact fin h
theorem Ls {a0:JAE}{r:Bool}(h:FW a0=some r):yC wl 112 [AV.d (JAE.toD a0)] [] (.d (D.b r)) []:=by
 refine oK Tryz.f112 ⟨rfl,?_⟩;unfold FW at h;exact fin h
theorem CH {a0:List JAE}{r:Int}(h:Am a0=some r):yC wl 150 [AV.d (D.l 2 JAE.toD a0),AV.fn 112 []] [] (.d (D.i r)) []:=by
 refine oK Tryz.f150 ⟨rfl,?_⟩;unfold Am at h;refine⟨a0.length,X10 _,?_⟩;refine AG h (fun _=>⟨Kp,JK⟩) ?_ ?_
 ·intro _ h;revert h;refine AM 6 2 JAE.toD rfl (fun i1 _=>⟨y1 a0::AV.fn 112 []::dd 4 (y1 a0::yi (a0.length:Int)::yi (i1:Int)::dd 10 ([])),JK⟩) ?_ ?_ ?_
  ·exact wk
  ·rintro _ K2 h;refine goC ?_;refine Ax BV ?_;exact AH h
  rintro _ i1 x3 _ K2 b1 c1 e1 h p4;refine goC ?_;refine Ar (BO b1) ?_;refine goC ?_;refine⟨Aq (f:=JAE.toD) b1,JAE.toD x3,c1,rfl,?_⟩;refine AD h (fun _=>Ls) fun _ h=>?_;refine goC ?_;refine AP h ?_ ?_<;>intro h
  ·exact fin h
  refine⟨_,e1,?_⟩;exact p4 _ _ wk h
 rintro _ h;exact fin h
theorem B2 {a0:List JAE}{r:Bool}(h:AY a0=some r):yC wl 111 [AV.d (D.l 2 JAE.toD a0),AV.fn 112 []] [] (.d (D.b r)) []:=by
 refine oK Tryz.f111 ⟨rfl,?_⟩;unfold AY at h;(conv=>whnf);refine AD h (fun _=>CH) fun _ h=>?_;exact fin h
theorem OJ {a0:JAF}{r:Bool×JAF}(h:EW a0=some r):yC wl 110 [.ref 0 0] [.box (JAF.av a0)] (.d (D.b r.1)) [.box (JAF.av r.2)]:=by
 refine oK Tryz.f110 ⟨rfl,?_⟩;unfold EW at h;(conv=>whnf);refine AD h (fun _=>B2) fun _ h=>?_;exact fin h
theorem BI {a0:Int}{a1:Int}{a2:Int}{r:Bool}(h:BG a0 a1 a2=some r):yC wl 48 [AV.d (D.i a0),AV.d (D.i a1),AV.d (D.i a2)] [] (.d (D.b r)) []:=by
 refine oK Tryz.f48 ⟨rfl,?_⟩;unfold BG at h;(conv=>whnf);refine AG h (fun v1=>⟨dd 6 (yb v1::dd 8 ([])),nn 15 ([])⟩) ?_ ?_
 ·intro _ h;exact selC h
 rintro v1 h;exact fin h
theorem H3 {a0:JAN}{a1:Int}{r:Bool×Int}(h:BM a0 a1=some r):yC wl 152 [AV.d (JAN.toD a0),.ref 0 0] [.box [.d (D.i a1)]] (.d (D.b r.1)) [.box [.d (D.i r.2)]]:=by
 refine oK Tryz.f152 ⟨rfl,?_⟩;unfold BM at h;(conv=>whnf);refine AD h (fun _=>BI) fun _ h=>?_;exact fin h
theorem B5 {a0:List JAN}{a1c0:Int}{r:Int×Int}(h:Aj a0 a1c0=some r):yC wl 91 [AV.d (D.l 2 JAN.toD a0),AV.fn 152 [.ref 0 0]] [.box [.d (D.i a1c0)]] (.d (D.i r.1)) [.box [.d (D.i r.2)]]:=by
 refine oK Tryz.f91 ⟨rfl,?_⟩;unfold Aj at h;refine⟨a0.length,X10 _,?_⟩;refine AG h (fun v1=>⟨Kp,yB [yi v1]::nn 19 ([])⟩) ?_ ?_
 ·intro _ h;revert h;refine AM 6 2 JAN.toD rfl (fun i2 v3=>⟨y6 a0::AV.fn 152 [yr 0 0]::dd 4 (y6 a0::yi (a0.length:Int)::yi (i2:Int)::dd 10 ([])),yB [yi v3]::nn 19 ([])⟩) ?_ ?_ ?_
  ·exact wk
  ·rintro v3 K4 h;refine goC ?_;refine Ax BV ?_;exact AH h
  rintro _ i2 x5 v3 K4 b2 c2 e2 h p6;refine goC ?_;refine Ar (BO b2) ?_;refine goC ?_;refine⟨Aq (f:=JAN.toD) b2,JAN.toD x5,c2,rfl,?_⟩;refine AD h (fun _=>H3) ?_;rintro⟨_,_⟩ h;refine goC ?_;refine AP h ?_ ?_<;>intro h
  ·exact fin h
  refine⟨_,e2,?_⟩;exact p6 _ _ wk h
 rintro v1 h;exact fin h
theorem Bv {a0:List JAN}{a1c0:Int}{r:Bool×Int}(h:AO a0 a1c0=some r):yC wl 52 [AV.d (D.l 2 JAN.toD a0),AV.fn 152 [.ref 0 0]] [.box [.d (D.i a1c0)]] (.d (D.b r.1)) [.box [.d (D.i r.2)]]:=by
 refine oK Tryz.f52 ⟨rfl,?_⟩;unfold AO at h;(conv=>whnf);refine AD h (fun _=>B5) ?_;rintro⟨_,_⟩ h;exact fin h
theorem I5 {a0:JAF}{r:Bool×JAF}(h:B1 a0=some r):yC wl 113 [.ref 0 0] [.box (JAF.av a0)] (.d (D.b r.1)) [.box (JAF.av r.2)]:=by
 refine XU 39 Tryz.f113 (by kernel_rfl) (by kernel_rfl) ⟨rfl,?_⟩;unfold B1 at h;(conv=>whnf);refine AG h (fun v1=>⟨X::X::yb false::dd 5 (yb v1::[]),yB (JAF.av a0)::nn 48 ([])⟩) ?_ ?_
 ·intro _ h;(conv=>whnf);refine J7 Tryz.f54 10 (by kernel_rfl) (by kernel_rfl) ⟨rfl,?_⟩;refine AG h (fun v2=>⟨dd 4 (yb false::X::X::yi v2::X::[]),yB (JAF.av a0)::N::zS5::nn 46 ([])⟩) ?_ ?_
  ·intro _ h;(conv=>whnf);refine J7 Tryz.f92 19 (by kernel_rfl) (by kernel_rfl) ⟨rfl,?_⟩;refine⟨a0.path.length,X10 _,?_⟩;refine AG h (fun _=>⟨Kp,yB (JAF.av a0)::N::zS5::nn 46 ([])⟩) ?_ ?_
   ·intro _ h;revert h;refine AM 6 1 D.i rfl (fun i3 _=>⟨AV.d (D.l 1 D.i a0.path)::AV.fn 151 [yr 2 0]::dd 4 (AV.d (D.l 1 D.i a0.path)::yi (a0.path.length:Int)::yi (i3:Int)::dd 10 ([])),yB (JAF.av a0)::N::zS5::nn 46 ([])⟩) ?_ ?_ ?_
    ·exact wk
    ·rintro _ K4 h;refine goC ?_;refine Ax BV ?_;exact AH h
    rintro _ i3 x5 _ K4 b3 c3 e3 h p6;refine goC ?_;refine Ar (BO b3) ?_;refine goC ?_;refine⟨Aq (f:=D.i) b3,D.i x5,c3,rfl,?_⟩;refine AG h (fun v7=>⟨AV.d (D.l 1 D.i a0.path)::AV.fn 151 [yr 2 0]::X::X::X::yi (i3:Int)::AV.d (D.l 1 D.i a0.path)::yi (a0.path.length:Int)::yi (i3:Int)::dd 7 (yb v7::X::X::[]),yB (JAF.av a0)::N::zS5::nn 46 ([])⟩) ?_ ?_
    ·intro _ h;(conv=>whnf);refine J7 Tryz.f151 38 (by kernel_rfl) (by kernel_rfl) ⟨rfl,?_⟩;refine AD h (fun _=>Bv) ?_;rintro⟨_,_⟩ h;exact AH h
    rintro v7 h;refine goC ?_;refine A6 h fun h=>?_;refine⟨_,e3,?_⟩;exact p6 _ _ wk h
   rintro _ h;exact AH h
  rintro v2 h;exact AH h
 rintro v1 h;exact fin h
theorem KW {a0:JAF}{r:Bool×JAF}(h:DF a0=some r):yC wl 114 [.ref 0 0] [.box (JAF.av a0)] (.d (D.b r.1)) [.box (JAF.av r.2)]:=by
 refine XU 48 Tryz.f114 (by kernel_rfl) (by kernel_rfl) ⟨rfl,?_⟩;unfold DF at h;(conv=>whnf);refine .inl (dO ?_);refine Ah h (fun _=>Bc) (fun _=>rfl) fun _ h=>?_;refine cO ?_;refine goC ?_;refine AP h ?_ ?_<;>intro h
 ·exact fin h
 refine AG h (fun v1=>⟨X::X::yb false::dd 16 (yb v1::[]),yB (JAF.av a0)::nn 68 ([])⟩) ?_ ?_
 ·intro _ h;(conv=>whnf);refine J7 Tryz.f54 21 (by kernel_rfl) (by kernel_rfl) ⟨rfl,?_⟩;refine AG h (fun v2=>⟨dd 4 (yb false::X::X::yi v2::X::[]),Y4 a0⟩) ?_ ?_
  ·intro _ h;(conv=>whnf);refine J7 Tryz.f92 30 (by kernel_rfl) (by kernel_rfl) ⟨rfl,?_⟩;refine⟨a0.path.length,X10 _,?_⟩;refine AG h (fun _=>⟨Kp,Y4 a0⟩) ?_ ?_
   ·intro _ h;revert h;refine AM 6 1 D.i rfl (fun i3 _=>⟨AV.d (D.l 1 D.i a0.path)::AV.fn 153 [yr 2 0]::dd 4 (AV.d (D.l 1 D.i a0.path)::yi (a0.path.length:Int)::yi (i3:Int)::dd 10 ([])),Y4 a0⟩) ?_ ?_ ?_
    ·exact wk
    ·rintro _ K4 h;refine goC ?_;refine Ax BV ?_;exact AH h
    rintro _ i3 x5 _ K4 b3 c3 e3 h p6;refine goC ?_;refine Ar (BO b3) ?_;refine goC ?_;refine⟨Aq (f:=D.i) b3,D.i x5,c3,rfl,?_⟩;refine AG h (fun v7=>⟨AV.d (D.l 1 D.i a0.path)::AV.fn 153 [yr 2 0]::X::X::X::yi (i3:Int)::AV.d (D.l 1 D.i a0.path)::yi (a0.path.length:Int)::yi (i3:Int)::dd 7 (yb v7::X::X::[]),Y4 a0⟩) ?_ ?_
    ·intro _ h;(conv=>whnf);refine J7 Tryz.f153 49 (by kernel_rfl) (by kernel_rfl) ⟨rfl,?_⟩;refine AG h (fun v8=>⟨X::X::X::yb v8::dd 16 ([]),Y4 a0⟩) ?_ ?_
     ·intro _ h;refine Ae h fun h=>?_;refine AD h (fun _=>Bc) fun _ h=>?_;exact AH h
     rintro v8 h;exact AH h
    rintro v7 h;refine goC ?_;refine A6 h fun h=>?_;refine⟨_,e3,?_⟩;exact p6 _ _ wk h
   rintro _ h;exact AH h
  rintro v2 h;exact AH h
 rintro v1 h;exact fin h
theorem P4 {r:JAP}(h:Jl=some r):yC wl 178 [] [] (.d (JAP.toD r)) []:=by
 refine oK Tryz.f178 ⟨rfl,?_⟩;unfold Jl at h;exact fin h
theorem SL {a0:Int}{r:Bool}(h:Jh a0=some r):yC wl 154 [AV.d (D.i a0)] [] (.d (D.b r)) []:=by
 refine oK Tryz.f154 ⟨rfl,?_⟩;unfold Jh at h;(conv=>whnf);refine AG h (fun v1=>⟨X::X::yb v1::dd 8 ([]),nn 11 ([])⟩) ?_ ?_
 ·intro _ h;refine Ae h fun h=>?_;refine AD h (fun _=>P4) fun _ h=>?_;exact AH h
 rintro v1 h;exact fin h
theorem Qf {a0:Int}{r:Bool}(h:Im a0=some r):yC wl 155 [AV.d (D.i a0)] [] (.d (D.b r)) []:=by
 refine oK Tryz.f155 ⟨rfl,?_⟩;unfold Im at h;(conv=>whnf);refine AG h (fun v1=>⟨X::X::yb v1::dd 6 ([]),nn 9 ([])⟩) ?_ ?_
 ·intro _ h;exact selC h
 rintro v1 h;exact fin h
theorem NW {a0:List Int}{r:(List Int)}(h:E9 a0=some r):yC wl 179 [AV.d (D.l 1 D.i a0)] [] (.d (D.l 1 D.i r)) []:=by
 refine oK Tryz.f179 ⟨rfl,?_⟩;unfold E9 at h;(conv=>whnf);refine apN (f:=D.i) h fun _ h=>?_;(conv=>whnf);refine .inl ?_;(conv=>whnf);refine .inl ?_;refine⟨rfl,?_⟩;exact fin h
theorem NC {a0:List UInt8}{r:(List UInt8)}(h:Ew a0=some r):yC wl 180 [AV.d (D.l 1 D.u8 a0)] [] (.d (D.l 1 D.u8 r)) []:=by
 refine oK Tryz.f180 ⟨rfl,?_⟩;unfold Ew at h;(conv=>whnf);refine apN (f:=D.u8) h fun _ h=>?_;(conv=>whnf);refine .inl ?_;(conv=>whnf);refine .inl ?_;refine⟨rfl,?_⟩;exact fin h
theorem H2 {a0:List JAC}{r:(List JAC)}(h:Cj a0=some r):yC wl 181 [AV.d (D.l 2 JAC.toD a0)] [] (.d (D.l 2 JAC.toD r)) []:=by
 refine oK Tryz.f181 ⟨rfl,?_⟩;unfold Cj at h;(conv=>whnf);refine apN (f:=JAC.toD) h fun _ h=>?_;(conv=>whnf);refine .inl ?_;(conv=>whnf);refine .inl ?_;refine⟨rfl,?_⟩;exact fin h
theorem I6 {a0:List JAH}{r:(List JAH)}(h:D8 a0=some r):yC wl 182 [AV.d (D.l 3 JAH.toD a0)] [] (.d (D.l 3 JAH.toD r)) []:=by
 refine oK Tryz.f182 ⟨rfl,?_⟩;unfold D8 at h;(conv=>whnf);refine apN (f:=JAH.toD) h fun _ h=>?_;(conv=>whnf);refine .inl ?_;(conv=>whnf);refine .inl ?_;refine⟨rfl,?_⟩;exact fin h
end Go.AX.Q24
end
section
namespace Go.AX
open Go.Proofs Go.Sort Go.Shelf Go.RowKit
theorem ai {vals:Array Value}{v u:Value}(hs:vals.size=2)(h:vals.getD 0 undef=v)(h':vals.getD 1 undef=u):vals=#[v,u]:=by
 match vals,hs with
 | ⟨[a,b]⟩,_=>
  simp at h h'
  rw[h,h']
theorem Hl {α:Type}[Inhabited α](enc:α->List Value)(k:Nat)(w:World)(blk off n:Nat)(d:Array α)(os:Array Obj)(hb:blk<w.heap.size) :
  (∀b,b<w.heap.size->b≠blk->(sortWorldK enc k w blk off n d os).heap[b]?=w.heap[b]?)/\w.heap.size<=(sortWorldK enc k w blk off n d os).heap.size/\
  (∀vs e fr,w.heap[blk]?=some (.cells vs e fr)->(sortWorldK enc k w blk off n d os).heap[blk]?=some (.cells (putCells id off (flatK enc k d) vs) e fr))/\
  (sortWorldK enc k w blk off n d os).os=w.os/\(sortWorldK enc k w blk off n d os).output=w.output/\(sortWorldK enc k w blk off n d os).tape=w.tape/\w.drawn<=(sortWorldK enc k w blk off n d os).drawn:=by
 have hh:(sortWorldK enc k w blk off n d os).heap=(w.heap.modify blk (onCells (putCells id off (flatK enc k d))))++os:=rfl
 refine⟨fun b h1 h2=>?_,?_,fun vs e fr h=>?_,rfl,rfl,rfl,Nat.le_add_right _ _⟩
 ·rw[hh,Array.getElem?_append_left (by simpa using h1),Array.getElem?_modify,if_neg (Ne.symm h2)]
 ·rw[hh];simp
 rw[hh,Array.getElem?_append_left (by simpa using hb),Array.getElem?_modify,if_pos rfl,h]
 rfl
theorem ae {W w':World}(hp :∀b,b<W.heap.size->w'.heap[b]?=W.heap[b]?)(sz:W.heap.size<=w'.heap.size)(os:w'.os=W.os)(out:w'.output=W.output)(tape:w'.tape=W.tape)(dr:W.drawn<=w'.drawn) :
  ∃q os',w'=grow (W.drewN q) os':=by
 refine⟨w'.drawn-W.drawn,w'.heap.extract W.heap.size w'.heap.size,?_⟩
 obtain⟨h1,t1,d1,o1,u1⟩:=w'
 obtain⟨h2,t2,d2,o2,u2⟩:=W
 simp only at hp sz os out tape dr
 subst os out tape
 have hheap:h1=h2++h1.extract h2.size h1.size:=by
  apply Array.ext_getElem?
  intro i
  by_cases hi:i<h2.size
  ·rw[Array.getElem?_append_left hi];exact hp i hi
  rw[Array.getElem?_append_right (by omega),Array.getElem?_extract]
  by_cases hi2:i<h1.size
  ·rw[if_pos (by omega),show h2.size+(i-h2.size)=i by omega]
  rw[if_neg (by omega),Array.getElem?_eq_none (by omega)]
 have hd:d1=d2+(d1-d2):=by omega
 unfold grow World.drewN
 simp only
 congr 1
theorem Zs {wl:WL}{P:Program}{ρ:Ren}{X:Type}{f:X->D}{cmp:X->X->Option Int}{g k e:Nat}(L:SlLaysF0.n6 P ρ)(hf:WE P (ρ.f 6))(aE :∀w,(isAgg (ρ.t 24)).run P w=.ok true w)(zE :∀w,(Go.sizeOf (ρ.t 24)).run P w=.ok k w)
  (eg :∀args w,(callFunc g args).run P w=.ok (.enter g args) w) (hagg :∀x,(f x).isAgg=true) (hcmp :∀{a b r},cmp a b=some r->A4 wl.low P g [.d (f a),.d (f b)] [] (.i r) [])
  {l r:List X} (h:I7 cmp l=some r):A4 wl P (ρ.f 6) [.own 0 (List.map f l).length,.fn g []] [.row e k (List.map f l) .no] (.tup []) [.row e k (List.map f r) .no]:=by
 refine⟨hf,fun w S φ gb hg vals hs hr hn m=>?_⟩
 have r0:=(hr 0 (by simp)).1
 have r1:=(hr 1 (by simp)).1
 simp only[List.getElem_cons_zero,List.getElem_cons_succ] at r0 r1
 have hv:=ai hs rfl rfl
 generalize vals.getD 0 undef=v0 at r0 hv
 generalize vals.getD 1 undef=v1 at r1 hv
 cases r1 with | fn _ _ vs1 _ hs1 _ _=>
 obtain rfl:vs1=#[]:=Array.eq_empty_of_size_eq_zero (by simpa using hs1)
 cases r0 with | own _ _ _ kk c a0 hv0 hk0 h1 hb=>
 have hob:ofL [OB.row e k (List.map f l) .no] 0=some (.row e k (List.map f l) .no):=rfl
 obtain⟨_,hown⟩:=h1 _ _ _ _ hob
 have hown:=hown rfl
 have hmem:=m.obj 0 _ hob
 obtain⟨g0,g1,g2,g3⟩:=hmem
 have hol :∀r',ofL [OB.row e k (List.map f r') .no]=upd (ofL [OB.row e k (List.map f l) .no]) 0 (some (.row e k (List.map f r') .no)):=by
  intro r'
  funext q
  match q with
  | 0=>simp[ofL]
  | q+1=>simp[ofL,upd]
 by_cases hl:0<l.length
 rotate_left
 ·
  have hl0:l=[]:=List.eq_nil_of_length_eq_zero (by omega)
  subst hl0
  obtain⟨hp,_⟩:=M5 h
  obtain rfl:r=[]:=hp.eq_nil
  obtain⟨p,cap,hvp⟩ :∃p cap,v0=.slice p 0 cap:=by rw[hv0,hk0];exact⟨_,_,rfl⟩
  rw[hv,hvp]
  refine (AnyF.slices_SortFunc_none L p cap _ w).mono fun e' w' ⟨he,hw⟩=>⟨_,he,S,φ,hw ▸ m,hw ▸ .refl _ _ _ _,.tup [] #[] (fun _=>undef) rfl (fun i hi=>by simp at hi) (fun i hi=>by simp at hi),fun q hq=>by simp[AV.refs,AV.refs.refsL] at hq⟩
 rcases g3 with ⟨_,hnil⟩|⟨b,cap,vs,f0,f1,f2,f3,f4,f5,f6,f7,f8⟩
 ·simp at hnil
  subst hnil
  simp at hl
 obtain⟨hlen,hget⟩:=Sr h hl
 have hsw:Tj cmp l=true:=by
  unfold I7 at h
  split at h
  ·assumption
  simp at h
 obtain⟨hpsz,hpperm,_⟩:=Oc hsw hl
 have hv0':v0=.slice (some ⟨b,cap.2,none⟩) l.length cap.1:=by
  rcases hown with ⟨hφ0,_⟩|⟨b',cap',hφ0,hvv⟩
  ·rw[f1] at hφ0;simp at hφ0
  rw[f1] at hφ0
  simp only[X24,X26] at hφ0
  obtain⟨rfl,rfl⟩:=hφ0
  rw[hvv];simp
 have hbl:=(m.ow 0 b cap (by simp[ofL]) f1).1
 let ix:Nat->Nat:=fun i=>min i (l.length-1)
 have hix :∀i,ix i<l.length:=fun i=>by simp only[ix];omega
 let enc:Nat->List Value:=fun i=>(List.range k).map fun j=>f0 (ix i) j
 have hencl :∀x,(enc x).length=k:=fun x=>by simp[enc]
 have helem :∀i (hi:i<l.length),(f l[i]).cells.length=k:=fun i hi=>by have:=g1 i (by simpa using hi);simpa using this
 have hrep :∀i (hi:i<l.length) j (hj:j<k),∃hj':j<(f l[i]).cells.length,RepD S w ((f l[i]).cells[j]'hj') (f0 i j)/\((f l[i]).cells[j]'hj').isAgg=false:=by
  intro i hi j hj
  have hj':j<(f l[i]).cells.length:=by rw[helem i hi];exact hj
  refine⟨hj',?_,?_⟩
  ·have:=f7 i (by simpa using hi) j (by simpa using hj');simpa using this
  have:=g2 i (by simpa using hi) j (by simpa using hj');simpa using this
 have hone :∀x,∀v∈enc x,v.oneCell'=true:=by
  intro x v hv
  obtain⟨j,hj,rfl⟩:=List.mem_map.1 hv
  obtain⟨hj',h2,h3⟩:=hrep (ix x) (hix x) j (by simpa using hj)
  exact h2.one h3
 have hflat :∀(d:Array Nat) t,t<d.size*k->(flatK enc k d)[t]! = f0 (ix d[t/k]!) (t%k):=by
  intro d t ht
  have hk0:0<k:=g0
  rw[get_flatK _ _ _ _ ht]
  have:=Nat.mod_lt t hk0
  simp[enc,this]
 have hH:HoldsK enc k w b cap.2 (Array.range l.length):=by
  intro t ht
  have ht':t<l.length*k:=by simpa using ht
  have hk0:0<k:=g0
  have hq:t/k<l.length:=Nat.div_lt_of_lt_mul (by rwa [Nat.mul_comm])
  rw[hflat _ t (by simpa using ht')]
  have h1:(Array.range l.length)[t/k]! = t/k:=by simp[hq]
  have h2:ix (t/k)=t/k:=by simp only[ix];omega
  have h3:=f6 (t/k) (t%k) (by simpa using hq) (Nat.mod_lt t hk0)
  have h4:t/k*k+t%k=t:=by rw[Nat.mul_comm];exact Nat.div_add_mod t k
  rw[h4] at h3
  rw[h1,h2]
  refine⟨?_,?_⟩
  ·simp only[World.cell?,f2,id]
   exact h3
  simp[World.frozen?,f2]
 have hkeep :∀(n:Nat) (d:Array Nat) (os:Array Obj),Nk S w S (sortWorldK enc k w b cap.2 n d os):=by
  intro n d os b' o hS
  obtain⟨h1,_⟩:=Hl enc k w b cap.2 n d os hbl
  have hne:b'≠b:=fun he=>f8.1 o (by simp) (he ▸ hS)
  exact⟨hS,C4 (h1 b' (m.bS b' o hS) hne) o⟩
 have hrepE :∀{W:World},Nk S w S W->∀i (hi:i<l.length),RepD S W (f l[i]) (.agg ((List.range k).map fun j=>f0 i j).toArray):=by
  intro W hK i hi
  have ha:=hagg l[i]
  cases hfl:f l[i] with
  | agg cs=>
   have hcs:cs.length=k:=by have:=helem i hi;rw[hfl] at this;exact this
   refine .agg cs _ (fun j=>f0 i j) (by simp[hcs]) (fun j hj=>by simp[hcs ▸ hj]) (fun j hj=>?_) fun j hj=>?_
   ·obtain⟨hj',_,h3⟩:=hrep i hi j (hcs ▸ hj)
    simp only[hfl,D.cells] at h3
    exact h3
   obtain⟨hj',h2,_⟩:=hrep i hi j (hcs ▸ hj)
   simp only[hfl,D.cells] at h2
   exact h2.mono hK
  | val v=>rw[hfl] at ha;simp[D.isAgg] at ha
  | nil sz=>rw[hfl] at ha;simp[D.isAgg] at ha
  | lst sz es=>rw[hfl] at ha;simp[D.isAgg] at ha
 have hfull :∀x,∃(hi:ix x<l.length),enc x=(List.range k).map fun j=>f0 (ix x) j:=fun x=>⟨hix x,rfl⟩
 have hlays:CmpLays P g #[] enc k (cfI cmp l) b cap.2 (Array.range l.length).size w:=by
  intro q os dk hdk x y
  obtain⟨w1,w2,w3,w4,w5,w6,w7⟩:=Hl enc k w b cap.2 q dk os hbl
  have hK:=hkeep q dk os
  generalize hW:sortWorldK enc k w b cap.2 q dk os=W at *
  have hx:=hix x
  have hy:=hix y
  obtain⟨c1,_⟩:=O2 hsw
  obtain⟨rr,hrr⟩:=c1 l[ix x] (List.getElem_mem hx) l[ix y] (List.getElem_mem hy)
  have hcf:cfI cmp l x y=rr:=by
   have e1:ixL l x=some l[ix x]:=X15 hx
   have e2:ixL l y=some l[ix y]:=X15 hy
   unfold cfI
   rw[e1,e2]
   simp[hrr]
  have hn0 :∀r,ofL [] r=none:=fun r=>by simp[ofL]
  have hgW:GlobOK wl.low gb (Iz (fun _:Nat=>(none:Option (Nat×Rp))) ([]:List OB).length) S W:=by
   have e :∀b',gb b'->W.heap[b']?=w.heap[b']?:=fun b' hb'=>w1 b' (hg.lt b' hb') fun he=>hg.pb b' hb' ⟨0,cap,by simp,he ▸ f1⟩
   refine⟨wl.ext _ _ _ e hg.gf,fun b' hb'=>Nat.lt_of_lt_of_le (hg.lt b' hb') w2,?_,fun b' o hb' hc=>hg.st b' o hb' ?_⟩
   ·rintro b' hb' ⟨r,c,h1,_⟩
    simp at h1
   rw[<- C4 (e b' hb') o]
   exact hc
  refine ((hcmp hrr).2 W S (fun _=>none) gb hgW (#[.agg (enc x).toArray,.agg (enc y).toArray]++#[]) (by simp) (fun i hi=>?_) (fun _ _=>rfl) ⟨fun r o ho=>by rw[hn0] at ho;simp at ho,fun r _ _ _ _ hr=>absurd (hn0 r) hr,fun r o ho=>by rw[hn0] at ho;simp at ho,fun _ _ h=>h,fun _ _ _=>rfl,fun b' o hS=>Nat.lt_of_lt_of_le (m.bS b' o hS) w2,fun _ _ h _ _=>h,fun _ _ _=>rfl,Nat.le_refl _,fun r _ _ hr=>absurd (hn0 r) hr,⟨rfl,rfl,rfl,.inr (Nat.le_refl _)⟩⟩).mono fun e' w' he=>?_
  ·refine⟨?_,?_⟩
   ·match i,hi with
    | 0,_=>exact .d _ _ (hrepE hK (ix x) hx)
    | 1,_=>exact .d _ _ (hrepE hK (ix y) hy)
   match i,hi with
   | 0,_=>exact BJ _ _
   | 1,_=>exact BJ _ _
  obtain⟨v,rfl,S',φ',mm,_,hvv,_⟩:=he
  refine⟨by rw[hvv.int,hcf],?_⟩
  have hpb :∀b',¬ Iz (fun _:Nat=>(none:Option (Nat×Rp))) ([]:List OB).length b':=by rintro b' ⟨r,c,h1,_⟩;simp at h1
  refine ae (fun b' hb'=>mm.fr b' hb' (hpb b')) mm.sz mm.os.1 mm.os.2.1 mm.os.2.2.1 ?_
  rcases mm.os.2.2.2 with h | h
  ·exact h.elim
  exact h
 have hc:=AnyQ.slices_SortFunc_eq L k aE zE enc hencl hone (cfI cmp l) (Xl hsw hl) g #[] b cap.2 cap.1 (Array.range l.length) w eg hlays hH hbl (by
  have:=(O2 hsw).2.2.2.2
  simp;omega)
 rw[hv,hv0']
 have hsz0:(Array.range l.length).size=l.length:=by simp
 rw[hsz0] at hc
 refine hc.mono fun e' w' ⟨he,n,os,hw⟩=>?_
 have hd:pdq (ltOf (cfI cmp l)) (Array.range l.length) 0 l.length (Lib.bitLen l.length) true true=Gw cmp l:=rfl
 rw[hd] at hw
 obtain⟨w1,w2,w3,w4,w5,w6,w7⟩:=Hl enc k w b cap.2 n (Gw cmp l) os hbl
 rw[<- hw] at w1 w2 w3 w4 w5 w6 w7
 have hcur:=w3 _ _ _ f2
 have hr' :∀i (hi:i<r.length),∃(hp:(Gw cmp l)[i]!<l.length),r[i]=l[(Gw cmp l)[i]!]:=by
  intro i hi
  obtain⟨p1,p2⟩:=hget i (by omega)
  rw[X15 hi,X15 p1] at p2
  exact⟨p1,X25 p2⟩
 obtain⟨m2,k2⟩:=m.rowSet (es':=List.map f r) (cur':=putCells id cap.2 (flatK enc k (Gw cmp l)) vs) (w':=w') hob f1 f2 (by simp[hlen])
  (fun i hi=>by
   have hi':i<r.length:=by simpa using hi
   obtain⟨hp,he⟩:=hr' i hi'
   simp only[List.getElem_map,he]
   exact helem _ hp)
  (fun i hi j hj=>by
   have hi':i<r.length:=by simpa using hi
   obtain⟨hp,he⟩:=hr' i hi'
   simp only[List.getElem_map,he] at hj ⊢
   obtain⟨hj',_,h3⟩:=hrep _ hp j (by rw[helem _ hp] at hj;exact hj)
   exact h3)
  hcur (by simp[putCells]) (fun b' h1 h2=>w1 b' h1 h2) w2 ⟨w4,w5,w6,w7⟩ (fun i j=>f0 (Gw cmp l)[i]! j)
  (fun i j hi hj=>by
   have hi':i<r.length:=by simpa using hi
   obtain⟨hp,he⟩:=hr' i hi'
   have hil:i<l.length:=by omega
   have hik:i*k+j<l.length*k:=by
    have:=X31 k (show i+1<=l.length from hil)
    rw[X32,Nat.one_mul] at this
    omega
   have hbig:cap.2+(i*k+j)<vs.size:=by
    have h3:l.length<=cap.1:=by simpa using f3
    have:=X31 k h3
    omega
   have e1:(i*k+j)/k=i:=by rw[Nat.mul_comm,Nat.mul_add_div g0,Nat.div_eq_of_lt hj,Nat.add_zero]
   have e2:(i*k+j)%k=j:=by rw[Nat.mul_comm,Nat.mul_add_mod,Nat.mod_eq_of_lt hj]
   have hfl:=hflat (Gw cmp l) (i*k+j) (by rw[hpsz];exact hik)
   rw[e1,e2] at hfl
   have hixx:ix (Gw cmp l)[i]! = (Gw cmp l)[i]!:=by simp only[ix];omega
   rw[hixx] at hfl
   simp only[putCells,Array.getElem?_mapIdx,Array.getElem?_eq_getElem hbig,Option.map_some]
   rw[if_pos ⟨by omega,by rw[size_flatK,hpsz];omega⟩,show cap.2+(i*k+j)-cap.2=i*k+j by omega,hfl]
   rfl)
  (fun i hi j hj=>by
   have hi':i<r.length:=by simpa using hi
   obtain⟨hp,he⟩:=hr' i hi'
   simp only[List.getElem_map,he] at hj ⊢
   obtain⟨hj',h2,_⟩:=hrep _ hp j (by rw[helem _ hp] at hj;exact hj)
   exact h2)
 rw[<- hol r] at m2 k2
 exact⟨_,he,S,φ,m2,k2,.tup [] #[] (fun _=>undef) rfl (fun i hi=>by simp at hi) (fun i hi=>by simp at hi),fun q hq=>by simp[AV.refs,AV.refs.refsL] at hq⟩
end Go.AX
end
section
namespace Go.Proofs
open Go.Shelf
def Tryz.l183_ren:Go.Shelf.Ren:=⟨fun | 6=>183 | 8=>202 | 9=>203 | 11=>219 | 13=>221 | 12=>220 | 23=>238 | 24=>239 | 14=>229 | 15=>230 | 16=>231 | 17=>232 | 18=>233 | 19=>234 | 20=>235 | 21=>236 | 22=>237 | 25=>262 | 26=>263 | 27=>264 | 28=>265 | 29=>266 | 30=>218 | 31=>277 | n=>n,fun | 26=>3 | 28=>198 | 24=>22 | 0=>0 | 3=>3 | 37=>125 | 48=>240 | 50=>39 | 4=>4 | 40=>234 | 39=>233 | 45=>54 | 5=>5 | 9=>9 | 51=>260 | 55=>264 | 57=>271 | 58=>272 | 33=>113 | n=>n,fun | n=>n⟩
theorem Tryz.l183:Go.Proofs.SlLaysZI.n6 Tryz.prog Tryz.l183_ren:={
 mixed:=by kernel_rfl
 f6:=⟨Tryz.f183.name,by decide,Tryz.func183.trans (congrArg some (by kernel_rfl))⟩
 f8:=⟨Tryz.f202.name,by decide,Tryz.func202.trans (congrArg some (by kernel_rfl))⟩
 f11:=⟨Tryz.f219.name,by decide,Tryz.func219.trans (congrArg some (by kernel_rfl))⟩
 t0:=Tryz.underlying0
 a0:=Tryz.isAgg0
 z0:=Tryz.sizeOf0
 v0:=Tryz.zeroValue0
 t24:=Tryz.underlying22
 a24:=Tryz.isAgg22
 z24:=Tryz.sizeOf22
 v24:=Tryz.zeroValue22
 t26:=Tryz.underlying3
 a26:=Tryz.isAgg3
 z26:=Tryz.sizeOf3
 v26:=Tryz.zeroValue3
 t28:=Tryz.underlying198
 a28:=Tryz.isAgg198
 z28:=Tryz.sizeOf198
 v28:=Tryz.zeroValue198
 i26:=by kernel_rfl }
def Tryz.l184_ren:Go.Shelf.Ren:=⟨fun | 7=>184 | 10=>204 | n=>n,fun | 23=>195 | 26=>3 | 3=>4 | 28=>198 | 0=>0 | 27=>197 | 33=>113 | 4=>4 | n=>n,fun | n=>n⟩
theorem Tryz.l184:Go.Proofs.SlLaysZI.n7 Tryz.prog Tryz.l184_ren:={
 mixed:=by kernel_rfl
 f7:=⟨Tryz.f184.name,by decide,Tryz.func184.trans (congrArg some (by kernel_rfl))⟩
 f10:=⟨Tryz.f204.name,by decide,Tryz.func204.trans (congrArg some (by kernel_rfl))⟩
 t0:=Tryz.underlying0
 a0:=Tryz.isAgg0
 z0:=Tryz.sizeOf0
 v0:=Tryz.zeroValue0
 t4:=Tryz.underlying4
 a4:=Tryz.isAgg4
 z4:=Tryz.sizeOf4
 v4:=Tryz.zeroValue4
 t23:=Tryz.underlying195
 a23:=Tryz.isAgg195
 z23:=Tryz.sizeOf195
 v23:=Tryz.zeroValue195
 t26:=Tryz.underlying3
 a26:=Tryz.isAgg3
 z26:=Tryz.sizeOf3
 v26:=Tryz.zeroValue3
 t27:=Tryz.underlying197
 a27:=Tryz.isAgg197
 z27:=Tryz.sizeOf197
 v27:=Tryz.zeroValue197
 t28:=Tryz.underlying198
 a28:=Tryz.isAgg198
 z28:=Tryz.sizeOf198
 v28:=Tryz.zeroValue198
 t33:=Tryz.underlying113
 a33:=Tryz.isAgg113
 z33:=Tryz.sizeOf113
 v33:=Tryz.zeroValue113 }
def Tryz.l203_ren:Go.Shelf.Ren:=⟨fun | 5=>203 | 8=>221 | 7=>220 | 19=>238 | 20=>239 | 10=>229 | 11=>230 | 12=>231 | 13=>232 | 14=>233 | 15=>234 | 16=>235 | 17=>236 | 18=>237 | 30=>262 | 31=>263 | 32=>264 | 33=>265 | 34=>266 | 35=>218 | 40=>277 | n=>n,fun | 23=>22 | 25=>3 | 3=>3 | 32=>125 | 22=>22 | 0=>0 | 44=>240 | 46=>39 | 4=>4 | 36=>234 | 35=>233 | 41=>54 | 5=>5 | 9=>9 | 53=>260 | 57=>264 | 63=>271 | 64=>272 | n=>n,fun | n=>n⟩
theorem Tryz.l203:Go.Proofs.SlLaysM.n5 Tryz.prog Tryz.l203_ren:={
 mixed:=by kernel_rfl
 f5:=⟨Tryz.f203.name,by decide,Tryz.func203.trans (congrArg some (by kernel_rfl))⟩
 f7:=⟨Tryz.f220.name,by decide,Tryz.func220.trans (congrArg some (by kernel_rfl))⟩
 f8:=Tryz.func221.trans (congrArg some (by kernel_rfl))
 f10:=⟨Tryz.f229.name,by decide,Tryz.func229.trans (congrArg some (by kernel_rfl))⟩
 f11:=⟨Tryz.f230.name,by decide,Tryz.func230.trans (congrArg some (by kernel_rfl))⟩
 f12:=⟨Tryz.f231.name,by decide,Tryz.func231.trans (congrArg some (by kernel_rfl))⟩
 f13:=⟨Tryz.f232.name,by decide,Tryz.func232.trans (congrArg some (by kernel_rfl))⟩
 f14:=⟨Tryz.f233.name,by decide,Tryz.func233.trans (congrArg some (by kernel_rfl))⟩
 f15:=⟨Tryz.f234.name,by decide,Tryz.func234.trans (congrArg some (by kernel_rfl))⟩
 f16:=⟨Tryz.f235.name,by decide,Tryz.func235.trans (congrArg some (by kernel_rfl))⟩
 f17:=⟨Tryz.f236.name,by decide,Tryz.func236.trans (congrArg some (by kernel_rfl))⟩
 f18:=⟨Tryz.f237.name,by decide,Tryz.func237.trans (congrArg some (by kernel_rfl))⟩
 f19:=Tryz.func238.trans (congrArg some (by kernel_rfl))
 f20:=Tryz.func239.trans (congrArg some (by kernel_rfl))
 f30:=⟨Tryz.f262.name,by decide,Tryz.func262.trans (congrArg some (by kernel_rfl))⟩
 f31:=Tryz.func263.trans (congrArg some (by kernel_rfl))
 f32:=Tryz.func264.trans (congrArg some (by kernel_rfl))
 f33:=⟨Tryz.f265.name,by decide,Tryz.func265.trans (congrArg some (by kernel_rfl))⟩
 f34:=⟨Tryz.f266.name,by decide,Tryz.func266.trans (congrArg some (by kernel_rfl))⟩
 f35:=⟨Tryz.f218.name,by decide,Tryz.func218.trans (congrArg some (by kernel_rfl))⟩
 f40:=⟨Tryz.f277.name,by decide,Tryz.func277.trans (congrArg some (by kernel_rfl))⟩
 t0:=Tryz.underlying0
 a0:=Tryz.isAgg0
 z0:=Tryz.sizeOf0
 v0:=Tryz.zeroValue0
 t3:=Tryz.underlying3
 a3:=Tryz.isAgg3
 z3:=Tryz.sizeOf3
 v3:=Tryz.zeroValue3
 t4:=Tryz.underlying4
 a4:=Tryz.isAgg4
 z4:=Tryz.sizeOf4
 v4:=Tryz.zeroValue4
 t5:=Tryz.underlying5
 a5:=Tryz.isAgg5
 z5:=Tryz.sizeOf5
 v5:=Tryz.zeroValue5
 t9:=Tryz.underlying9
 a9:=Tryz.isAgg9
 z9:=Tryz.sizeOf9
 v9:=Tryz.zeroValue9
 t22:=Tryz.underlying22
 a22:=Tryz.isAgg22
 z22:=Tryz.sizeOf22
 v22:=Tryz.zeroValue22
 t23:=Tryz.underlying22
 a23:=Tryz.isAgg22
 z23:=Tryz.sizeOf22
 v23:=Tryz.zeroValue22
 t25:=Tryz.underlying3
 a25:=Tryz.isAgg3
 z25:=Tryz.sizeOf3
 v25:=Tryz.zeroValue3
 t32:=Tryz.underlying125
 a32:=Tryz.isAgg125
 z32:=Tryz.sizeOf125
 v32:=Tryz.zeroValue125
 t35:=Tryz.underlying233
 a35:=Tryz.isAgg233
 z35:=Tryz.sizeOf233
 v35:=Tryz.zeroValue233
 t36:=Tryz.underlying234
 a36:=Tryz.isAgg234
 z36:=Tryz.sizeOf234
 v36:=Tryz.zeroValue234
 t41:=Tryz.underlying54
 a41:=Tryz.isAgg54
 z41:=Tryz.sizeOf54
 v41:=Tryz.zeroValue54
 t44:=Tryz.underlying240
 a44:=Tryz.isAgg240
 z44:=Tryz.sizeOf240
 v44:=Tryz.zeroValue240
 t46:=Tryz.underlying39
 a46:=Tryz.isAgg39
 z46:=Tryz.sizeOf39
 v46:=Tryz.zeroValue39
 t53:=Tryz.underlying260
 a53:=Tryz.isAgg260
 z53:=Tryz.sizeOf260
 v53:=Tryz.zeroValue260
 t57:=Tryz.underlying264
 a57:=Tryz.isAgg264
 z57:=Tryz.sizeOf264
 v57:=Tryz.zeroValue264
 t63:=Tryz.underlying271
 a63:=Tryz.isAgg271
 z63:=Tryz.sizeOf271
 v63:=Tryz.zeroValue271
 t64:=Tryz.underlying272
 a64:=Tryz.isAgg272
 z64:=Tryz.sizeOf272
 v64:=Tryz.zeroValue272 }
def Tryz.l185_ren:Go.Shelf.Ren:=⟨fun | 6=>185 | 8=>205 | 9=>206 | 11=>222 | 13=>221 | 12=>223 | 23=>238 | 24=>239 | 14=>240 | 15=>241 | 16=>242 | 17=>243 | 18=>244 | 19=>245 | 20=>246 | 21=>247 | 22=>248 | 25=>267 | 26=>263 | 27=>264 | 28=>268 | 29=>269 | 30=>270 | 31=>278 | n=>n,fun | 26=>9 | 28=>202 | 24=>82 | 0=>0 | 3=>3 | 37=>125 | 48=>240 | 50=>39 | 4=>4 | 40=>234 | 39=>233 | 45=>54 | 5=>5 | 9=>9 | 51=>260 | 55=>264 | 57=>271 | 58=>272 | 33=>151 | n=>n,fun | n=>n⟩
theorem Tryz.l185:Go.Proofs.SlLaysZ.n6 Tryz.prog Tryz.l185_ren:={
 mixed:=by kernel_rfl
 f6:=⟨Tryz.f185.name,by decide,Tryz.func185.trans (congrArg some (by kernel_rfl))⟩
 f8:=⟨Tryz.f205.name,by decide,Tryz.func205.trans (congrArg some (by kernel_rfl))⟩
 f11:=⟨Tryz.f222.name,by decide,Tryz.func222.trans (congrArg some (by kernel_rfl))⟩
 t0:=Tryz.underlying0
 a0:=Tryz.isAgg0
 z0:=Tryz.sizeOf0
 v0:=Tryz.zeroValue0
 t24:=Tryz.underlying82
 a24:=Tryz.isAgg82
 z24:=Tryz.sizeOf82
 v24:=Tryz.zeroValue82
 t26:=Tryz.underlying9
 a26:=Tryz.isAgg9
 z26:=Tryz.sizeOf9
 v26:=Tryz.zeroValue9
 t28:=Tryz.underlying202
 a28:=Tryz.isAgg202
 z28:=Tryz.sizeOf202
 v28:=Tryz.zeroValue202
 i26:=by kernel_rfl }
def Tryz.l186_ren:Go.Shelf.Ren:=⟨fun | 7=>186 | 10=>207 | n=>n,fun | 23=>148 | 26=>9 | 3=>4 | 28=>202 | 0=>0 | 27=>201 | 33=>151 | 4=>4 | n=>n,fun | n=>n⟩
theorem Tryz.l186:Go.Proofs.SlLaysZ.n7 Tryz.prog Tryz.l186_ren:={
 mixed:=by kernel_rfl
 f7:=⟨Tryz.f186.name,by decide,Tryz.func186.trans (congrArg some (by kernel_rfl))⟩
 f10:=⟨Tryz.f207.name,by decide,Tryz.func207.trans (congrArg some (by kernel_rfl))⟩
 t0:=Tryz.underlying0
 a0:=Tryz.isAgg0
 z0:=Tryz.sizeOf0
 v0:=Tryz.zeroValue0
 t4:=Tryz.underlying4
 a4:=Tryz.isAgg4
 z4:=Tryz.sizeOf4
 v4:=Tryz.zeroValue4
 t23:=Tryz.underlying148
 a23:=Tryz.isAgg148
 z23:=Tryz.sizeOf148
 v23:=Tryz.zeroValue148
 t26:=Tryz.underlying9
 a26:=Tryz.isAgg9
 z26:=Tryz.sizeOf9
 v26:=Tryz.zeroValue9
 t27:=Tryz.underlying201
 a27:=Tryz.isAgg201
 z27:=Tryz.sizeOf201
 v27:=Tryz.zeroValue201
 t28:=Tryz.underlying202
 a28:=Tryz.isAgg202
 z28:=Tryz.sizeOf202
 v28:=Tryz.zeroValue202
 t33:=Tryz.underlying151
 a33:=Tryz.isAgg151
 z33:=Tryz.sizeOf151
 v33:=Tryz.zeroValue151 }
def Tryz.l206_ren:Go.Shelf.Ren:=⟨fun | 6=>206 | 8=>221 | 9=>223 | 19=>238 | 20=>239 | 21=>240 | 22=>241 | 23=>242 | 24=>243 | 25=>244 | 26=>245 | 27=>246 | 28=>247 | 29=>248 | 36=>267 | 31=>263 | 32=>264 | 37=>268 | 38=>269 | 39=>270 | 41=>278 | n=>n,fun | 27=>82 | 29=>9 | 3=>3 | 32=>125 | 26=>82 | 0=>0 | 44=>240 | 46=>39 | 4=>4 | 36=>234 | 35=>233 | 41=>54 | 5=>5 | 9=>9 | 53=>260 | 57=>264 | 63=>271 | 64=>272 | n=>n,fun | n=>n⟩
theorem Tryz.l206:Go.Proofs.SlLaysM.n6 Tryz.prog Tryz.l206_ren:={
 mixed:=by kernel_rfl
 f6:=⟨Tryz.f206.name,by decide,Tryz.func206.trans (congrArg some (by kernel_rfl))⟩
 f8:=Tryz.func221.trans (congrArg some (by kernel_rfl))
 f9:=⟨Tryz.f223.name,by decide,Tryz.func223.trans (congrArg some (by kernel_rfl))⟩
 f19:=Tryz.func238.trans (congrArg some (by kernel_rfl))
 f20:=Tryz.func239.trans (congrArg some (by kernel_rfl))
 f21:=⟨Tryz.f240.name,by decide,Tryz.func240.trans (congrArg some (by kernel_rfl))⟩
 f22:=⟨Tryz.f241.name,by decide,Tryz.func241.trans (congrArg some (by kernel_rfl))⟩
 f23:=⟨Tryz.f242.name,by decide,Tryz.func242.trans (congrArg some (by kernel_rfl))⟩
 f24:=⟨Tryz.f243.name,by decide,Tryz.func243.trans (congrArg some (by kernel_rfl))⟩
 f25:=⟨Tryz.f244.name,by decide,Tryz.func244.trans (congrArg some (by kernel_rfl))⟩
 f26:=⟨Tryz.f245.name,by decide,Tryz.func245.trans (congrArg some (by kernel_rfl))⟩
 f27:=⟨Tryz.f246.name,by decide,Tryz.func246.trans (congrArg some (by kernel_rfl))⟩
 f28:=⟨Tryz.f247.name,by decide,Tryz.func247.trans (congrArg some (by kernel_rfl))⟩
 f29:=⟨Tryz.f248.name,by decide,Tryz.func248.trans (congrArg some (by kernel_rfl))⟩
 f31:=Tryz.func263.trans (congrArg some (by kernel_rfl))
 f32:=Tryz.func264.trans (congrArg some (by kernel_rfl))
 f36:=⟨Tryz.f267.name,by decide,Tryz.func267.trans (congrArg some (by kernel_rfl))⟩
 f37:=⟨Tryz.f268.name,by decide,Tryz.func268.trans (congrArg some (by kernel_rfl))⟩
 f38:=⟨Tryz.f269.name,by decide,Tryz.func269.trans (congrArg some (by kernel_rfl))⟩
 f39:=⟨Tryz.f270.name,by decide,Tryz.func270.trans (congrArg some (by kernel_rfl))⟩
 f41:=⟨Tryz.f278.name,by decide,Tryz.func278.trans (congrArg some (by kernel_rfl))⟩
 t0:=Tryz.underlying0
 a0:=Tryz.isAgg0
 z0:=Tryz.sizeOf0
 v0:=Tryz.zeroValue0
 t3:=Tryz.underlying3
 a3:=Tryz.isAgg3
 z3:=Tryz.sizeOf3
 v3:=Tryz.zeroValue3
 t4:=Tryz.underlying4
 a4:=Tryz.isAgg4
 z4:=Tryz.sizeOf4
 v4:=Tryz.zeroValue4
 t5:=Tryz.underlying5
 a5:=Tryz.isAgg5
 z5:=Tryz.sizeOf5
 v5:=Tryz.zeroValue5
 t9:=Tryz.underlying9
 a9:=Tryz.isAgg9
 z9:=Tryz.sizeOf9
 v9:=Tryz.zeroValue9
 t26:=Tryz.underlying82
 a26:=Tryz.isAgg82
 z26:=Tryz.sizeOf82
 v26:=Tryz.zeroValue82
 t27:=Tryz.underlying82
 a27:=Tryz.isAgg82
 z27:=Tryz.sizeOf82
 v27:=Tryz.zeroValue82
 t29:=Tryz.underlying9
 a29:=Tryz.isAgg9
 z29:=Tryz.sizeOf9
 v29:=Tryz.zeroValue9
 t32:=Tryz.underlying125
 a32:=Tryz.isAgg125
 z32:=Tryz.sizeOf125
 v32:=Tryz.zeroValue125
 t35:=Tryz.underlying233
 a35:=Tryz.isAgg233
 z35:=Tryz.sizeOf233
 v35:=Tryz.zeroValue233
 t36:=Tryz.underlying234
 a36:=Tryz.isAgg234
 z36:=Tryz.sizeOf234
 v36:=Tryz.zeroValue234
 t41:=Tryz.underlying54
 a41:=Tryz.isAgg54
 z41:=Tryz.sizeOf54
 v41:=Tryz.zeroValue54
 t44:=Tryz.underlying240
 a44:=Tryz.isAgg240
 z44:=Tryz.sizeOf240
 v44:=Tryz.zeroValue240
 t46:=Tryz.underlying39
 a46:=Tryz.isAgg39
 z46:=Tryz.sizeOf39
 v46:=Tryz.zeroValue39
 t53:=Tryz.underlying260
 a53:=Tryz.isAgg260
 z53:=Tryz.sizeOf260
 v53:=Tryz.zeroValue260
 t57:=Tryz.underlying264
 a57:=Tryz.isAgg264
 z57:=Tryz.sizeOf264
 v57:=Tryz.zeroValue264
 t63:=Tryz.underlying271
 a63:=Tryz.isAgg271
 z63:=Tryz.sizeOf271
 v63:=Tryz.zeroValue271
 t64:=Tryz.underlying272
 a64:=Tryz.isAgg272
 z64:=Tryz.sizeOf272
 v64:=Tryz.zeroValue272 }
def Tryz.l208_ren:Go.Shelf.Ren:=⟨fun | 6=>208 | 15=>221 | 14=>224 | 28=>238 | 29=>239 | 20=>249 | 21=>250 | 22=>251 | 23=>252 | 24=>253 | 25=>254 | 26=>255 | 27=>256 | 46=>271 | 47=>263 | 48=>264 | 49=>272 | 50=>273 | 57=>279 | n=>n,fun | 22=>28 | 24=>57 | 25=>181 | 3=>3 | 39=>125 | 0=>0 | 53=>240 | 55=>39 | 4=>4 | 46=>234 | 45=>233 | 50=>54 | 5=>5 | 9=>9 | 66=>260 | 70=>264 | 76=>271 | 77=>272 | n=>n,fun | n=>n⟩
theorem Tryz.l208:Go.Proofs.SlLaysF0.n6 Tryz.prog Tryz.l208_ren:={
 mixed:=by kernel_rfl
 f6:=⟨Tryz.f208.name,by decide,Tryz.func208.trans (congrArg some (by kernel_rfl))⟩
 f14:=⟨Tryz.f224.name,by decide,Tryz.func224.trans (congrArg some (by kernel_rfl))⟩
 f15:=Tryz.func221.trans (congrArg some (by kernel_rfl))
 f20:=⟨Tryz.f249.name,by decide,Tryz.func249.trans (congrArg some (by kernel_rfl))⟩
 f21:=⟨Tryz.f250.name,by decide,Tryz.func250.trans (congrArg some (by kernel_rfl))⟩
 f22:=⟨Tryz.f251.name,by decide,Tryz.func251.trans (congrArg some (by kernel_rfl))⟩
 f23:=⟨Tryz.f252.name,by decide,Tryz.func252.trans (congrArg some (by kernel_rfl))⟩
 f24:=⟨Tryz.f253.name,by decide,Tryz.func253.trans (congrArg some (by kernel_rfl))⟩
 f25:=⟨Tryz.f254.name,by decide,Tryz.func254.trans (congrArg some (by kernel_rfl))⟩
 f26:=⟨Tryz.f255.name,by decide,Tryz.func255.trans (congrArg some (by kernel_rfl))⟩
 f27:=⟨Tryz.f256.name,by decide,Tryz.func256.trans (congrArg some (by kernel_rfl))⟩
 f28:=Tryz.func238.trans (congrArg some (by kernel_rfl))
 f29:=Tryz.func239.trans (congrArg some (by kernel_rfl))
 f46:=⟨Tryz.f271.name,by decide,Tryz.func271.trans (congrArg some (by kernel_rfl))⟩
 f47:=Tryz.func263.trans (congrArg some (by kernel_rfl))
 f48:=Tryz.func264.trans (congrArg some (by kernel_rfl))
 f49:=⟨Tryz.f272.name,by decide,Tryz.func272.trans (congrArg some (by kernel_rfl))⟩
 f50:=⟨Tryz.f273.name,by decide,Tryz.func273.trans (congrArg some (by kernel_rfl))⟩
 f57:=⟨Tryz.f279.name,by decide,Tryz.func279.trans (congrArg some (by kernel_rfl))⟩
 t0:=Tryz.underlying0
 a0:=Tryz.isAgg0
 z0:=Tryz.sizeOf0
 v0:=Tryz.zeroValue0
 t3:=Tryz.underlying3
 a3:=Tryz.isAgg3
 z3:=Tryz.sizeOf3
 v3:=Tryz.zeroValue3
 t4:=Tryz.underlying4
 a4:=Tryz.isAgg4
 z4:=Tryz.sizeOf4
 v4:=Tryz.zeroValue4
 t5:=Tryz.underlying5
 a5:=Tryz.isAgg5
 z5:=Tryz.sizeOf5
 v5:=Tryz.zeroValue5
 t9:=Tryz.underlying9
 a9:=Tryz.isAgg9
 z9:=Tryz.sizeOf9
 v9:=Tryz.zeroValue9
 t22:=Tryz.underlying28
 a22:=Tryz.isAgg28
 z22:=Tryz.sizeOf28
 v22:=Tryz.zeroValue28
 t25:=Tryz.underlying181
 a25:=Tryz.isAgg181
 z25:=Tryz.sizeOf181
 v25:=Tryz.zeroValue181
 t39:=Tryz.underlying125
 a39:=Tryz.isAgg125
 z39:=Tryz.sizeOf125
 v39:=Tryz.zeroValue125
 t45:=Tryz.underlying233
 a45:=Tryz.isAgg233
 z45:=Tryz.sizeOf233
 v45:=Tryz.zeroValue233
 t46:=Tryz.underlying234
 a46:=Tryz.isAgg234
 z46:=Tryz.sizeOf234
 v46:=Tryz.zeroValue234
 t50:=Tryz.underlying54
 a50:=Tryz.isAgg54
 z50:=Tryz.sizeOf54
 v50:=Tryz.zeroValue54
 t53:=Tryz.underlying240
 a53:=Tryz.isAgg240
 z53:=Tryz.sizeOf240
 v53:=Tryz.zeroValue240
 t55:=Tryz.underlying39
 a55:=Tryz.isAgg39
 z55:=Tryz.sizeOf39
 v55:=Tryz.zeroValue39
 t66:=Tryz.underlying260
 a66:=Tryz.isAgg260
 z66:=Tryz.sizeOf260
 v66:=Tryz.zeroValue260
 t70:=Tryz.underlying264
 a70:=Tryz.isAgg264
 z70:=Tryz.sizeOf264
 v70:=Tryz.zeroValue264
 t76:=Tryz.underlying271
 a76:=Tryz.isAgg271
 z76:=Tryz.sizeOf271
 v76:=Tryz.zeroValue271
 t77:=Tryz.underlying272
 a77:=Tryz.isAgg272
 z77:=Tryz.sizeOf272
 v77:=Tryz.zeroValue272 }
def Tryz.l168_ren:Go.Shelf.Ren:=⟨fun | 160=>168 | 232=>193 | 231=>192 | 227=>194 | 234=>196 | 233=>195 | 236=>198 | 235=>197 | 228=>212 | 271=>215 | 151=>214 | 197=>213 | 120=>228 | 152=>227 | 260=>226 | 137=>258 | 119=>259 | 224=>260 | 225=>261 | 217=>276 | 266=>281 | n=>n,fun | 9=>9 | 4=>4 | 3=>3 | 5=>5 | 117=>209 | 116=>208 | 0=>0 | 124=>212 | 21=>21 | 105=>221 | 46=>125 | 119=>253 | 139=>256 | 138=>255 | n=>n,fun | 3=>1 | 4=>2 | n=>n⟩
theorem Tryz.l168:Go.Proofs.Lays.n160 Tryz.prog Tryz.l168_ren:={
 mixed:=by kernel_rfl
 f119:=Tryz.func259.trans (congrArg some (by kernel_rfl))
 f120:=Tryz.func228.trans (congrArg some (by kernel_rfl))
 f137:=Tryz.func258.trans (congrArg some (by kernel_rfl))
 f151:=Tryz.func214.trans (congrArg some (by kernel_rfl))
 f152:=Tryz.func227.trans (congrArg some (by kernel_rfl))
 f160:=Tryz.func168.trans (congrArg some (by kernel_rfl))
 f197:=Tryz.func213.trans (congrArg some (by kernel_rfl))
 f217:=Tryz.func276.trans (congrArg some (by kernel_rfl))
 f224:=Tryz.func260.trans (congrArg some (by kernel_rfl))
 f225:=Tryz.func261.trans (congrArg some (by kernel_rfl))
 f227:=Tryz.func194.trans (congrArg some (by kernel_rfl))
 f228:=Tryz.func212.trans (congrArg some (by kernel_rfl))
 f231:=Tryz.func192.trans (congrArg some (by kernel_rfl))
 f232:=Tryz.func193.trans (congrArg some (by kernel_rfl))
 f233:=Tryz.func195.trans (congrArg some (by kernel_rfl))
 f234:=Tryz.func196.trans (congrArg some (by kernel_rfl))
 f235:=Tryz.func197.trans (congrArg some (by kernel_rfl))
 f236:=Tryz.func198.trans (congrArg some (by kernel_rfl))
 f260:=Tryz.func226.trans (congrArg some (by kernel_rfl))
 f266:=Tryz.func281.trans (congrArg some (by kernel_rfl))
 f271:=Tryz.func215.trans (congrArg some (by kernel_rfl))
 t0:=Tryz.underlying0
 a0:=Tryz.isAgg0
 z0:=Tryz.sizeOf0
 v0:=Tryz.zeroValue0
 t3:=Tryz.underlying3
 a3:=Tryz.isAgg3
 z3:=Tryz.sizeOf3
 v3:=Tryz.zeroValue3
 t4:=Tryz.underlying4
 a4:=Tryz.isAgg4
 z4:=Tryz.sizeOf4
 v4:=Tryz.zeroValue4
 t5:=Tryz.underlying5
 a5:=Tryz.isAgg5
 z5:=Tryz.sizeOf5
 v5:=Tryz.zeroValue5
 t9:=Tryz.underlying9
 a9:=Tryz.isAgg9
 z9:=Tryz.sizeOf9
 v9:=Tryz.zeroValue9
 t21:=Tryz.underlying21
 a21:=Tryz.isAgg21
 z21:=Tryz.sizeOf21
 v21:=Tryz.zeroValue21
 t46:=Tryz.underlying125
 a46:=Tryz.isAgg125
 z46:=Tryz.sizeOf125
 v46:=Tryz.zeroValue125
 t105:=Tryz.underlying221
 a105:=Tryz.isAgg221
 z105:=Tryz.sizeOf221
 v105:=Tryz.zeroValue221
 t116:=Tryz.underlying208
 a116:=Tryz.isAgg208
 z116:=Tryz.sizeOf208
 t117:=Tryz.underlying209
 a117:=Tryz.isAgg209
 z117:=Tryz.sizeOf209
 v117:=Tryz.zeroValue209
 t119:=Tryz.underlying253
 a119:=Tryz.isAgg253
 z119:=Tryz.sizeOf253
 t124:=Tryz.underlying212
 a124:=Tryz.isAgg212
 z124:=Tryz.sizeOf212
 v124:=Tryz.zeroValue212
 t138:=Tryz.underlying255
 a138:=Tryz.isAgg255
 z138:=Tryz.sizeOf255
 v138:=Tryz.zeroValue255
 t139:=Tryz.underlying256
 a139:=Tryz.isAgg256
 z139:=Tryz.sizeOf256
 v139:=Tryz.zeroValue256
 g3:=by kernel_rfl
 g4:=by kernel_rfl }
end Go.Proofs
namespace Go.AX.Q24
open Go Go.AX Go.Proofs Go.Maps Go.Sort Go.Shelf Go.RowKit
theorem ZY (m:Nat):AnyZI.SortsIn Tryz.prog Tryz.l183_ren Fence.wide m:=
 ⟨fun blk off cap ss W hH hblk hsz=>callsIn_wide.2 (AnyM.slices_Sort_int Tryz.l203 blk off cap ss W hH hblk hsz),fun p cap W=>callsIn_wide.2 (AnyM.slices_Sort_int_none Tryz.l203 p cap W)⟩
theorem Ug {wG:Nat->Option (List (D×D))}{V:Type}{ev:V->D}{m:List (Int×V)}{r:List Int}(h:Of m=some r){k e:Nat}:A4 ⟨True,wG⟩ Tryz.prog 183 [.it 204 0] [.map k e (Av D.i ev m)] (.own 1 (List.map D.i r).length) [.map k e (Av D.i ev m),.row 3 1 (List.map D.i r) .no]:=
 Qh (wl:=⟨True,wG⟩) Tryz.l184 Tryz.l183 (YF Tryz.func183 (by kernel_rfl) (by kernel_rfl)) ZY (enters_of Tryz.func203 (by kernel_rfl) rfl) (enters_of Tryz.func204 (by kernel_rfl) rfl) h
theorem W7 {wl:WL}{k e:Nat}{es:List (D×D)}:A4 wl Tryz.prog 184 [.mp 0] [.map k e es] (.it 204 0) [.map k e es]:=
 TA (YF Tryz.func184 (by kernel_rfl) (by kernel_rfl)) fun b w=>callsIn_wide.1 (AnyZI.keys_in Tryz.l184 Fence.wide 5 trivial rfl (some b) w)
theorem ZB (m:Nat):AnyZ.SortsIn Tryz.prog Tryz.l185_ren Fence.wide m:=
 ⟨fun blk off cap ss W hH hblk hsz=>callsIn_wide.2 (AnyM.slices_Sort_string Tryz.l206 blk off cap ss W hH hblk hsz),fun p cap W=>callsIn_wide.2 (AnyM.slices_Sort_string_none Tryz.l206 p cap W)⟩
theorem Uh {wG:Nat->Option (List (D×D))}{V:Type}{ev:V->D}{m:List (ByteArray×V)}{r:List ByteArray}(h:O7 m=some r){k e:Nat}:A4 ⟨True,wG⟩ Tryz.prog 185 [.it 207 0] [.map k e (Av D.s ev m)] (.own 1 (List.map D.s r).length) [.map k e (Av D.s ev m),.row 9 1 (List.map D.s r) .no]:=
 Qr (wl:=⟨True,wG⟩) Tryz.l186 Tryz.l185 (YF Tryz.func185 (by kernel_rfl) (by kernel_rfl)) ZB (enters_of Tryz.func206 (by kernel_rfl) rfl) (enters_of Tryz.func207 (by kernel_rfl) rfl) h
theorem Wc {wl:WL}{k e:Nat}{es:List (D×D)}:A4 wl Tryz.prog 186 [.mp 0] [.map k e es] (.it 207 0) [.map k e es]:=
 TA (YF Tryz.func186 (by kernel_rfl) (by kernel_rfl)) fun b w=>callsIn_wide.1 (AnyZ.keys_in Tryz.l186 Fence.wide 5 trivial rfl (some b) w)
theorem VT {wl:WL}{X:Type}{f:X->D}{cmp:X->X->Option Int}{g:Nat}(eg :∀args w,(callFunc g args).run Tryz.prog w=.ok (.enter g args) w)(hcmp :∀{a b r},cmp a b=some r->A4 wl.low Tryz.prog g [.d (f a),.d (f b)] [] (.d (D.i r)) []){l r:List X}(h:I7 cmp l=some r)(hagg :∀x,(f x).isAgg=true:=by exact fun _=>rfl):A4 wl Tryz.prog 208 [.own 0 (List.map f l).length,.fn g []] [.row 57 6 (List.map f l) .no] (.tup []) [.row 57 6 (List.map f r) .no]:=
 Zs Tryz.l208 (YF Tryz.func208 (by kernel_rfl) (by kernel_rfl)) Tryz.isAgg57 Tryz.sizeOf57 eg hagg hcmp h
theorem Ww {wl:WL}{s cut r:ByteArray}(h:Sz s cut=some r):A4 wl Tryz.prog 168 [.d (D.s s),.d (D.s cut)] [] (.d (D.s r)) []:=
 Z6 Tryz.l168 (YF Tryz.func168 (by kernel_rfl) (by kernel_rfl)) (by kernel_rfl) h
end Go.AX.Q24
end
section
namespace Go.AX.Q24
open Go Go.AX Go.Proofs
variable {wl:Prop}
theorem Qu {a0:JAG}{r:JAG}(h:HU a0=some r):yC wl 156 [AV.d (JAG.toD a0)] [] (.d (JAG.toD r)) []:=by
 refine oK Tryz.f156 ⟨rfl,?_⟩;unfold HU at h;(conv=>whnf);refine .inl (dO ?_);refine cO ?_;refine⟨a0.Path.length,X10 _,?_⟩;refine AG h (fun v1=>⟨X::yr 1 0::yr 2 0::X::AV.d (D.l 3 JAJ.toD a0.Other)::dd 57 ([]),N::zS4 v1 a0.Origin a0.Next.V6 a0.Next.Hi a0.Next.Lo a0.MED a0.Pref a0.OTC a0.Communities a0.JAH::yB JAG.zv::nn 27 (yR 89 2 JAE.toD v1::nn 31 ([]))⟩) ?_ ?_
 ·intro _ h;revert h;refine AM 15 2 JAE.toD rfl (fun i2 v3=>⟨X::yr 1 0::yr 2 0::X::AV.d (D.l 3 JAJ.toD a0.Other)::dd 10 (AV.d (D.l 2 JAE.toD a0.Path)::yi (a0.Path.length:Int)::yi (i2:Int)::dd 44 ([])),N::zS4 v3 a0.Origin a0.Next.V6 a0.Next.Hi a0.Next.Lo a0.MED a0.Pref a0.OTC a0.Communities a0.JAH::yB JAG.zv::nn 27 (yR 89 2 JAE.toD v3::nn 31 ([]))⟩) ?_ ?_ ?_
  ·exact wk
  ·rintro v3 K4 h;refine goC ?_;refine Ax BV ?_;exact AH h
  rintro _ i2 x5 v3 K4 b2 c2 e2 h p6;refine goC ?_;refine Ar (BO b2) ?_;refine goC ?_;refine⟨Aq (f:=JAE.toD) b2,JAE.toD x5,c2,rfl,?_⟩;refine .inl (dO ?_);refine Ah h (fun _=>NW) (fun _=>rfl) fun _ h=>?_;refine⟨rfl,?_⟩;refine apO (f:=JAE.toD) h rfl fun _ h=>?_;refine cO ?_;refine⟨_,e2,?_⟩;exact p6 _ _ wk h
 rintro v1 h;refine⟨a0.Other.length,X10 _,?_⟩;refine AG h (fun v7=>⟨X::yr 1 0::yr 2 0::dd 59 ([]),N::zS3 v1 v7 a0.Origin a0.Next.V6 a0.Next.Hi a0.Next.Lo a0.MED a0.Pref a0.OTC a0.Communities a0.JAH::yB JAG.zv::nn 27 (yR 89 2 JAE.toD v1::nn 19 (yR 99 3 JAJ.toD v7::nn 11 ([])))⟩) ?_ ?_
 ·intro _ h;revert h;refine AM 33 3 JAJ.toD rfl (fun i8 v9=>⟨X::yr 1 0::yr 2 0::dd 30 (AV.d (D.l 3 JAJ.toD a0.Other)::yi (a0.Other.length:Int)::yi (i8:Int)::dd 26 ([])),N::zS3 v1 v9 a0.Origin a0.Next.V6 a0.Next.Hi a0.Next.Lo a0.MED a0.Pref a0.OTC a0.Communities a0.JAH::yB JAG.zv::nn 27 (yR 89 2 JAE.toD v1::nn 19 (yR 99 3 JAJ.toD v9::nn 11 ([])))⟩) ?_ ?_ ?_
  ·exact wk
  ·rintro v9 K10 h;refine goC ?_;refine Ax BV ?_;exact AH h
  rintro _ i8 x11 v9 K10 b8 c8 e8 h p12;refine goC ?_;refine Ar (BO b8) ?_;refine goC ?_;refine⟨Aq (f:=JAJ.toD) b8,JAJ.toD x11,c8,rfl,?_⟩;refine .inl (dO ?_);refine Ah h (fun _=>NC) (fun _=>rfl) fun _ h=>?_;refine⟨rfl,?_⟩;refine apO (f:=JAJ.toD) h rfl fun _ h=>?_;refine cO ?_;refine⟨_,e8,?_⟩;exact p12 _ _ wk h
 rintro v7 h;refine .inl (dO ?_);refine Ah h (fun _=>H2) (fun _=>rfl) fun _ h=>?_;refine Ah h (fun _=>I6) (fun _=>rfl) fun _ h=>?_;refine cO ?_;(conv=>whnf);refine .inl ?_;refine⟨rfl,?_⟩;refine⟨rfl,?_⟩;exact fin h
theorem QA {a0:Int}{a1:Int}{a2:JAG}{r:JAG×Int}(h:Gk a0 a1 a2=some r):yC wl 116 [AV.d (D.i a0),AV.d (D.i a1),AV.d (JAG.toD a2)] [] (.tup [.d (JAG.toD r.1),.d (D.i r.2)]) []:=by
 refine oK Tryz.f116 ⟨rfl,?_⟩;unfold Gk at h;(conv=>whnf);refine AG h (fun v1=>⟨yi a0::yi a1::X::X::X::yr 5 0::yr 6 0::dd 11 (yb v1::dd 39 ([])),nn 5 (yB (JAG.av a2)::yB JAG.zv::nn 51 ([]))⟩) ?_ ?_
 ·intro _ h;refine AD h (fun _=>SL) fun _ h=>?_;refine A6 h fun h=>?_;refine AD h (fun _=>Qf) fun _ h=>?_;exact AH h
 rintro v1 h;refine goC ?_;refine AP h ?_ ?_<;>intro h
 ·exact fin h
 refine AG h (fun v2=>⟨yi a0::yi a1::X::X::X::yr 5 0::yr 6 0::X::yb (a2.OTC != (-1))::yb v2::dd 48 ([]),nn 5 (yB (JAG.av a2)::yB JAG.zv::nn 51 ([]))⟩) ?_ ?_
 ·intro _ h;exact selC h
 rintro v2 h;refine AG h (fun v3=>⟨X::yi a1::X::X::X::yr 5 0::yr 6 0::X::yb (a2.OTC != (-1))::yb v2::dd 35 (yb v3::dd 12 ([])),nn 5 (yB (JAG.av a2)::yB JAG.zv::nn 51 ([]))⟩) ?_ ?_
 ·intro _ h;refine AP h ?_ ?_<;>intro h
  ·refine A6 h fun h=>?_;refine Ae h fun h=>?_;exact selC h
  refine Ae h fun h=>?_;exact selC h
 rintro v3 h;refine goC ?_;refine AP h ?_ ?_<;>intro h
 ·exact fin h
 refine AD h (fun _=>Qu) fun v4 h=>?_;refine AG h (fun v5=>⟨X::yi a1::dd 4 (yr 6 0::X::X::X::yr 10 0::dd 43 (yb v5::X::X::X::[])),nn 6 (yB JAG.zv::N::N::N::yB (JAG.av v4)::nn 47 ([]))⟩) ?_ ?_
 ·intro _ h;exact selC h
 rintro v5 h;refine AG h (fun v6=>⟨dd 6 (yr 6 0::X::X::X::yr 10 0::dd 47 ([])),nn 6 (yB JAG.zv::N::N::N::zS1 v6 v4.Origin v4.Next.V6 v4.Next.Hi v4.Next.Lo v4.MED v4.Pref v4.Path v4.Communities v4.JAH v4.Other::nn 47 ([]))⟩) ?_ ?_
 ·intro _ h;exact selC h
 rintro v6 h;exact fin h
theorem Ny {a0:JAF}{r:Bool×JAF}(h:EK a0=some r):yC wl 115 [.ref 0 0] [.box (JAF.av a0)] (.d (D.b r.1)) [.box (JAF.av r.2)]:=by
 refine oK Tryz.f115 ⟨rfl,?_⟩;unfold EK at h;(conv=>whnf);refine .inl (dO ?_);refine Ah h (fun _=>QA) (fun _=>rfl) ?_;rintro⟨_,_⟩ h;refine cO ?_;exact fin h
theorem M8 {a0:JAA}{a1:Addr}{r:Bool}(h:Dv a0 a1=some r):yC wl 157 [AV.d (JAA.toD a0),AV.d (Addr.toD a1)] [] (.d (D.b r)) []:=by
 refine oK Tryz.f157 ⟨rfl,?_⟩;unfold Dv at h;(conv=>whnf);refine AG h (fun v1=>⟨dd 4 (yb v1::dd 27 ([])),nn 32 ([])⟩) ?_ ?_
 ·intro _ h;refine .inl (dO ?_);refine AP h ?_ ?_<;>intro h
  ·refine AP h ?_ ?_<;>intro h
   ·refine Ah h (fun _=>Hh) (fun _=>rfl) fun _ h=>?_;refine AP h ?_ ?_<;>intro h
    ·refine Ah h (fun _=>KI) (fun _=>rfl) fun _ h=>?_;refine cO ?_;exact AH h
    refine cO ?_;exact AH h
   refine cO ?_;exact AH h
  refine cO ?_;exact AH h
 rintro v1 h;exact fin h
theorem EO {a0:JAA}{a1:JAA}{r:Bool}(h:Be a0 a1=some r):yC wl 119 [AV.d (JAA.toD a0),AV.d (JAA.toD a1)] [] (.d (D.b r)) []:=by
 refine oK Tryz.f119 ⟨rfl,?_⟩;unfold Be at h;(conv=>whnf);refine AG h (fun v1=>⟨dd 4 (yb v1::dd 11 ([])),nn 16 ([])⟩) ?_ ?_
 ·intro _ h;refine Ae h fun h=>?_;refine AD h (fun _=>M8) fun _ h=>?_;exact AH h
 rintro v1 h;exact fin h
theorem OF {a0:JAF}{r:Bool×JAF}(h:Ee a0=some r):yC wl 117 [.ref 0 0] [.box (JAF.av a0)] (.d (D.b r.1)) [.box (JAF.av r.2)]:=by
 refine XU 48 Tryz.f117 (by kernel_rfl) (by kernel_rfl) ⟨rfl,?_⟩;unfold Ee at h;(conv=>whnf);refine AG h (fun v1=>⟨X::X::yb false::dd 6 (yb v1::[]),yB (JAF.av a0)::nn 58 ([])⟩) ?_ ?_
 ·intro _ h;(conv=>whnf);refine J7 Tryz.f51 11 (by kernel_rfl) (by kernel_rfl) ⟨rfl,?_⟩;refine AG h (fun v2=>⟨dd 4 (yb false::X::X::yi v2::X::[]),ZT a0⟩) ?_ ?_
  ·intro _ h;(conv=>whnf);refine J7 Tryz.f90 20 (by kernel_rfl) (by kernel_rfl) ⟨rfl,?_⟩;refine⟨a0.f.LANs.length,X10 _,?_⟩;refine AG h (fun _=>⟨Kp,ZT a0⟩) ?_ ?_
   ·intro _ h;revert h;refine AM 6 4 JAA.toD rfl (fun i3 _=>⟨AV.d (D.l 4 JAA.toD a0.f.LANs)::AV.fn 118 [yr 2 0]::dd 4 (AV.d (D.l 4 JAA.toD a0.f.LANs)::yi (a0.f.LANs.length:Int)::yi (i3:Int)::dd 10 ([])),ZT a0⟩) ?_ ?_ ?_
    ·exact wk
    ·rintro _ K4 h;refine goC ?_;refine Ax BV ?_;exact AH h
    rintro _ i3 x5 _ K4 b3 c3 e3 h p6;refine goC ?_;refine Ar (BO b3) ?_;refine goC ?_;refine⟨Aq (f:=JAA.toD) b3,JAA.toD x5,c3,rfl,?_⟩;refine AG h (fun v7=>⟨AV.d (D.l 4 JAA.toD a0.f.LANs)::AV.fn 118 [yr 2 0]::X::X::X::yi (i3:Int)::AV.d (D.l 4 JAA.toD a0.f.LANs)::yi (a0.f.LANs.length:Int)::yi (i3:Int)::dd 7 (yb v7::X::X::[]),ZT a0⟩) ?_ ?_
    ·intro _ h;(conv=>whnf);refine J7 Tryz.f118 39 (by kernel_rfl) (by kernel_rfl) ⟨rfl,?_⟩;refine AG h (fun v8=>⟨X::X::X::yb v8::dd 16 ([]),ZT a0⟩) ?_ ?_
     ·intro _ h;refine .inl (dO ?_);refine Ah h (fun _=>EO) (fun _=>rfl) fun _ h=>?_;refine AP h ?_ ?_<;>intro h
      ·refine cO ?_;exact AH h
      refine Ah h (fun _=>EO) (fun _=>rfl) fun _ h=>?_;refine cO ?_;exact AH h
     rintro v8 h;exact AH h
    rintro v7 h;refine goC ?_;refine A6 h fun h=>?_;refine⟨_,e3,?_⟩;exact p6 _ _ wk h
   rintro _ h;exact AH h
  rintro v2 h;exact AH h
 rintro v1 h;exact fin h
theorem NI {a0:JAF}{r:Bool×JAF}(h:Ef a0=some r):yC wl 120 [.ref 0 0] [.box (JAF.av a0)] (.d (D.b r.1)) [.box (JAF.av r.2)]:=by
 refine XU 39 Tryz.f120 (by kernel_rfl) (by kernel_rfl) ⟨rfl,?_⟩;unfold Ef at h;(conv=>whnf);refine AG h (fun v1=>⟨X::X::yb false::dd 6 (yb v1::[]),yB (JAF.av a0)::nn 49 ([])⟩) ?_ ?_
 ·intro _ h;(conv=>whnf);refine J7 Tryz.f51 11 (by kernel_rfl) (by kernel_rfl) ⟨rfl,?_⟩;refine AG h (fun v2=>⟨dd 4 (yb false::X::X::yi v2::X::[]),yB (JAF.av a0)::N::zS5::nn 47 ([])⟩) ?_ ?_
  ·intro _ h;(conv=>whnf);refine J7 Tryz.f90 20 (by kernel_rfl) (by kernel_rfl) ⟨rfl,?_⟩;refine⟨a0.f.Bogons.length,X10 _,?_⟩;refine AG h (fun _=>⟨Kp,yB (JAF.av a0)::N::zS5::nn 47 ([])⟩) ?_ ?_
   ·intro _ h;revert h;refine AM 6 4 JAA.toD rfl (fun i3 _=>⟨AV.d (D.l 4 JAA.toD a0.f.Bogons)::AV.fn 121 [yr 2 0]::dd 4 (AV.d (D.l 4 JAA.toD a0.f.Bogons)::yi (a0.f.Bogons.length:Int)::yi (i3:Int)::dd 10 ([])),yB (JAF.av a0)::N::zS5::nn 47 ([])⟩) ?_ ?_ ?_
    ·exact wk
    ·rintro _ K4 h;refine goC ?_;refine Ax BV ?_;exact AH h
    rintro _ i3 x5 _ K4 b3 c3 e3 h p6;refine goC ?_;refine Ar (BO b3) ?_;refine goC ?_;refine⟨Aq (f:=JAA.toD) b3,JAA.toD x5,c3,rfl,?_⟩;refine AG h (fun v7=>⟨AV.d (D.l 4 JAA.toD a0.f.Bogons)::AV.fn 121 [yr 2 0]::X::X::X::yi (i3:Int)::AV.d (D.l 4 JAA.toD a0.f.Bogons)::yi (a0.f.Bogons.length:Int)::yi (i3:Int)::dd 7 (yb v7::X::X::[]),yB (JAF.av a0)::N::zS5::nn 47 ([])⟩) ?_ ?_
    ·intro _ h;(conv=>whnf);refine J7 Tryz.f121 39 (by kernel_rfl) (by kernel_rfl) ⟨rfl,?_⟩;refine .inl (dO ?_);refine Ah h (fun _=>EO) (fun _=>rfl) fun _ h=>?_;refine cO ?_;exact AH h
    rintro v7 h;refine goC ?_;refine A6 h fun h=>?_;refine⟨_,e3,?_⟩;exact p6 _ _ wk h
   rintro _ h;exact AH h
  rintro v2 h;exact AH h
 rintro v1 h;exact fin h
theorem Jt {a0:JAF}{r:Bool×JAF}(h:CG a0=some r):yC wl 122 [.ref 0 0] [.box (JAF.av a0)] (.d (D.b r.1)) [.box (JAF.av r.2)]:=by
 refine oK Tryz.f122 ⟨rfl,?_⟩;unfold CG at h;(conv=>whnf);refine .inl (dO ?_);refine cO ?_;refine AG h (fun (v1,v2,v3)=>⟨yr 0 0::X::X::yi v1::yi v2::yi v3::dd 59 ([]),yB (JAF.av a0)::nn 65 ([])⟩) ?_ ?_
 ·intro _ h;refine Ae h fun h=>?_;refine .inl (dO ?_);refine cO ?_;exact AH h
 rintro⟨v1,v2,v3⟩ h;refine goC ?_;refine AP h ?_ ?_<;>intro h
 ·exact fin h
 refine AD h (fun _=>BI) fun _ h=>?_;exact fin h
theorem KD {a0:Addr}{r:Int}(h:Fh a0=some r):yC wl 57 [AV.d (Addr.toD a0)] [] (.d (D.i r)) []:=by
 refine oK Tryz.f57 ⟨rfl,?_⟩;unfold Fh at h;(conv=>whnf);refine .go ?_;refine AP h ?_ ?_<;>intro h
 ·exact fin h
 exact fin h
theorem It {a0:List JAB}{r:(List JAB)}(h:Ds a0=some r):yC wl 72 [AV.d (D.l 6 JAB.toD a0)] [] (AV.own 0 (List.map JAB.toD r).length) [.row 57 6 (List.map JAB.toD r) .no]:=by
 refine oK Tryz.f72 ⟨rfl,?_⟩;unfold Ds at h;(conv=>whnf);refine apN (f:=JAB.toD) h fun _ h=>?_;(conv=>whnf);refine .inl ?_;(conv=>whnf);refine .inr ?_;exact fin h
theorem Hn {a0:List JAB}{r:(List JAB)}(h:EC a0=some r):yC wl 32 [AV.d (D.l 6 JAB.toD a0)] [] (.d (D.l 6 JAB.toD r)) []:=by
 refine oK Tryz.f32 ⟨rfl,?_⟩;unfold EC at h;(conv=>whnf);refine JE [6] h (fun _=>It) fun v1 h=>?_;refine⟨v1.length,HK,?_⟩;refine AG h (fun v2=>⟨X::X::X::yO 6 JAB.toD v2::dd 21 ([]),nn 6 (yR 57 6 JAB.toD v2::nn 18 ([]))⟩) ?_ ?_
 ·intro _ h;revert h;refine BZ (fun (v3,v4)=>⟨X::X::X::yO 6 JAB.toD v4::dd 4 (yi (v1.length:Int)::yi v3::dd 15 ([])),nn 6 (yR 57 6 JAB.toD v4::nn 18 ([]))⟩) ?_ ?_
  ·exact wk
  rintro _ ⟨v3,v4⟩ _ h p5;refine goC ?_;refine Ae h fun h=>?_;refine goC ?_;obtain⟨v6,g7,h⟩:=AW h;refine⟨rfl,Ed (f:=JAB.toD) g7,?_⟩;refine⟨rfl,?_⟩;refine⟨rfl,?_⟩;refine⟨rfl,JAB.toD v6,(EZ (f:=JAB.toD) g7),?_⟩;refine AD h (fun _=>KD) fun _ h=>?_;obtain⟨v8,g9,h⟩:=AW h;refine⟨rfl,Ed (f:=JAB.toD) g9,?_⟩;refine⟨rfl,?_⟩;obtain⟨v10,g11,h⟩:=AW h;have g11l:=Kr g11;refine⟨rfl,rfl,JAB.toD v8,(EZ (f:=JAB.toD) g9),?_⟩;refine⟨_,Q3 (f:=JAB.toD) g11,?_⟩;refine⟨_,rfl,?_⟩;exact p5 _ _ wk h
 rintro v2 h;(conv=>whnf);refine .inl ?_;(conv=>whnf);refine .inl ?_;refine⟨rfl,?_⟩;exact fin h
theorem UM {a0:Int}{r:Bool}(h:Ln a0=some r):yC wl 140 [AV.d (D.i a0)] [] (.d (D.b r)) []:=by
 refine oK Tryz.f140 ⟨rfl,?_⟩;unfold Ln at h;(conv=>whnf);refine AD h (fun _=>FX) fun _ h=>?_;exact fin h
theorem Oo {a0:Int}{a1:Int}{a2:Int}{r:Bool}(h:Fz a0 a1 a2=some r):yC wl 169 [AV.d (D.i a0),AV.d (D.i a1),AV.d (D.i a2)] [] (.d (D.b r)) []:=by
 refine oK Tryz.f169 ⟨rfl,?_⟩;unfold Fz at h;(conv=>whnf);refine AG h (fun v1=>⟨dd 6 (yb v1::dd 8 ([])),nn 15 ([])⟩) ?_ ?_
 ·intro _ h;exact selC h
 rintro v1 h;exact fin h
theorem KF {a0:ByteArray}{r:Bool}(h:FY a0=some r):yC wl 142 [AV.d (D.s a0)] [] (.d (D.b r)) []:=by
 refine oK Tryz.f142 ⟨rfl,?_⟩;unfold FY at h;(conv=>whnf);refine AD h (fun _ g=>Ww g) fun _ h=>?_;refine AG h (fun v1=>⟨X::X::yb v1::dd 10 ([]),nn 13 ([])⟩) ?_ ?_
 ·intro _ h;refine AD h (fun _=>Oo) fun _ h=>?_;exact selC h
 rintro v1 h;exact fin h
theorem Tf {a0:ByteArray}{r:Bool}(h:Lc a0=some r):yC wl 141 [AV.d (D.s a0)] [] (.d (D.b r)) []:=by
 refine oK Tryz.f141 ⟨rfl,?_⟩;unfold Lc at h;(conv=>whnf);refine AD h (fun _=>KF) fun _ h=>?_;exact fin h
theorem FH {a0:List Int}{r:Int}(h:BQ a0=some r):yC wl 92 [AV.d (D.l 1 D.i a0),AV.fn 140 []] [] (.d (D.i r)) []:=by
 refine oK Tryz.f92 ⟨rfl,?_⟩;unfold BQ at h;refine⟨a0.length,X10 _,?_⟩;refine AG h (fun _=>⟨Kp,JK⟩) ?_ ?_
 ·intro _ h;revert h;refine AM 6 1 D.i rfl (fun i1 _=>⟨y0 a0::AV.fn 140 []::dd 4 (y0 a0::yi (a0.length:Int)::yi (i1:Int)::dd 10 ([])),JK⟩) ?_ ?_ ?_
  ·exact wk
  ·rintro _ K2 h;refine goC ?_;refine Ax BV ?_;exact AH h
  rintro _ i1 x3 _ K2 b1 c1 e1 h p4;refine goC ?_;refine Ar (BO b1) ?_;refine goC ?_;refine⟨Aq (f:=D.i) b1,D.i x3,c1,rfl,?_⟩;refine AD h (fun _=>UM) fun _ h=>?_;refine goC ?_;refine AP h ?_ ?_<;>intro h
  ·exact fin h
  refine⟨_,e1,?_⟩;exact p4 _ _ wk h
 rintro _ h;exact fin h
theorem E3 {a0:List Int}{r:Bool}(h:A5 a0=some r):yC wl 54 [AV.d (D.l 1 D.i a0),AV.fn 140 []] [] (.d (D.b r)) []:=by
 refine oK Tryz.f54 ⟨rfl,?_⟩;unfold A5 at h;(conv=>whnf);refine AD h (fun _=>FH) fun _ h=>?_;exact fin h
theorem ER {a0:List ByteArray}{r:Int}(h:BA a0=some r):yC wl 170 [AV.d (D.l 1 D.s a0),AV.fn 141 []] [] (.d (D.i r)) []:=by
 refine oK Tryz.f170 ⟨rfl,?_⟩;unfold BA at h;refine⟨a0.length,X10 _,?_⟩;refine AG h (fun _=>⟨Kp,JK⟩) ?_ ?_
 ·intro _ h;revert h;refine AM 6 1 D.s rfl (fun i1 _=>⟨y7 a0::AV.fn 141 []::dd 4 (y7 a0::yi (a0.length:Int)::yi (i1:Int)::dd 10 ([])),JK⟩) ?_ ?_ ?_
  ·exact wk
  ·rintro _ K2 h;refine goC ?_;refine Ax BV ?_;exact AH h
  rintro _ i1 x3 _ K2 b1 c1 e1 h p4;refine goC ?_;refine Ar (BO b1) ?_;refine goC ?_;refine⟨Aq (f:=D.s) b1,D.s x3,c1,rfl,?_⟩;refine AD h (fun _=>Tf) fun _ h=>?_;refine goC ?_;refine AP h ?_ ?_<;>intro h
  ·exact fin h
  refine⟨_,e1,?_⟩;exact p4 _ _ wk h
 rintro _ h;exact fin h
theorem ED {a0:List ByteArray}{r:Bool}(h:As a0=some r):yC wl 143 [AV.d (D.l 1 D.s a0),AV.fn 141 []] [] (.d (D.b r)) []:=by
 refine oK Tryz.f143 ⟨rfl,?_⟩;unfold As at h;(conv=>whnf);refine AD h (fun _=>ER) fun _ h=>?_;exact fin h
theorem WC {a0:Set}{r:Bool}(h:NL a0=some r):yC wl 94 [AV.d (Set.toD a0)] [] (.d (D.b r)) []:=by
 refine oK Tryz.f94 ⟨rfl,?_⟩;unfold NL at h;(conv=>whnf);refine AG h (fun v1=>⟨X::X::yb v1::dd 31 ([]),nn 34 ([])⟩) ?_ ?_
 ·intro _ h;refine AD h (fun _=>KF) fun _ h=>?_;refine Ae h fun h=>?_;refine⟨a0.ASNs.length,X10 _,?_⟩;refine Ae h fun h=>?_;refine⟨a0.Sets.length,X10 _,?_⟩;refine Ae h fun h=>?_;refine AD h (fun _=>E3) fun _ h=>?_;refine Ae h fun h=>?_;refine AD h (fun _=>ED) fun _ h=>?_;exact AH h
 rintro v1 h;exact fin h
theorem Tc {a0:JAA}{r:Int}(h:JA a0=some r):yC wl 95 [AV.d (JAA.toD a0)] [] (.d (D.i r)) []:=by
 refine oK Tryz.f95 ⟨rfl,?_⟩;unfold JA at h;(conv=>whnf);refine .go ?_;refine AP h ?_ ?_<;>intro h
 ·exact fin h
 exact fin h
theorem J1 {a0:JAD}{r:Bool}(h:E5 a0=some r):yC wl 59 [AV.d (JAD.toD a0)] [] (.d (D.b r)) []:=by
 refine oK Tryz.f59 ⟨rfl,?_⟩;unfold E5 at h;refine⟨a0.Sets.length,X10 _,?_⟩;refine AG h (fun _=>⟨X::yr 1 0::dd 71 ([]),N::yB (JAD.av a0)::nn 71 ([])⟩) ?_ ?_
 ·intro _ h;revert h;refine AM 10 3 Set.toD rfl (fun i1 v2=>⟨X::yr 1 0::X::AV.mp 8::dd 6 (AV.d (D.l 3 Set.toD a0.Sets)::yi (a0.Sets.length:Int)::yi (i1:Int)::dd 60 ([])),N::yB (JAD.av a0)::nn 6 (some (OB.map 9 4 (Av D.s D.b v2))::nn 64 ([]))⟩) ?_ ?_ ?_
  ·exact wk
  ·rintro v2 K3 h;refine goC ?_;refine Ax BV ?_;exact AH h
  rintro _ i1 x4 v2 K3 b1 c1 e1 h p5;refine goC ?_;refine Ar (BO b1) ?_;refine goC ?_;refine⟨Aq (f:=Set.toD) b1,Set.toD x4,c1,rfl,?_⟩;refine AG h (fun v6=>⟨X::yr 1 0::X::AV.mp 8::X::yr 5 0::dd 4 (AV.d (D.l 3 Set.toD a0.Sets)::yi (a0.Sets.length:Int)::yi (i1:Int)::dd 11 (yb v6::dd 48 ([]))),N::yB (JAD.av a0)::N::N::N::yB (Set.av x4)::N::N::some (OB.map 9 4 (Av D.s D.b v2))::nn 64 ([])⟩) ?_ ?_
  ·intro _ h;obtain⟨v7,g8,h⟩:=AW h;refine⟨_,Gz (ek:=D.s) (ev:=D.b) (l:=v2) (k:=x4.Name) Ff,D.b v7,JX (z:=false) rfl g8,_,rfl,?_⟩;refine A6 h fun h=>?_;refine AD h (fun _=>WC) fun _ h=>?_;exact AH h
  rintro v6 h;refine goC ?_;refine AP h ?_ ?_<;>intro h
  ·exact fin h
  refine⟨_,GN (ek:=D.s) (ev:=D.b) (l:=v2) (k:=x4.Name) (v:=true) Ff,?_⟩;refine⟨_,e1,?_⟩;exact p5 _ _ wk h
 rintro _ h;refine⟨a0.Objects.length,X10 _,?_⟩;refine AG h (fun _=>⟨X::yr 1 0::dd 71 ([]),N::yB (JAD.av a0)::nn 71 ([])⟩) ?_ ?_
 ·intro _ h;revert h;refine AM 30 6 JAB.toD rfl (fun i9 _=>⟨X::yr 1 0::dd 28 (AV.d (D.l 6 JAB.toD a0.Objects)::yi (a0.Objects.length:Int)::yi (i9:Int)::dd 40 ([])),N::yB (JAD.av a0)::nn 71 ([])⟩) ?_ ?_ ?_
  ·exact wk
  ·rintro _ K10 h;refine goC ?_;refine Ax BV ?_;exact AH h
  rintro _ i9 x11 _ K10 b9 c9 e9 h p12;refine goC ?_;refine Ar (BO b9) ?_;refine goC ?_;refine⟨Aq (f:=JAB.toD) b9,JAB.toD x11,c9,rfl,?_⟩;refine AG h (fun v13=>⟨X::yr 1 0::dd 28 (AV.d (D.l 6 JAB.toD a0.Objects)::yi (a0.Objects.length:Int)::yi (i9:Int)::dd 28 (yb v13::dd 11 ([]))),N::yB (JAD.av a0)::nn 71 ([])⟩) ?_ ?_
  ·intro _ h;refine .inl (dO ?_);refine Ah h (fun _=>Et) (fun _=>rfl) fun _ h=>?_;refine AP h ?_ ?_<;>intro h
   ·refine cO ?_;exact AH h
   refine AP h ?_ ?_<;>intro h
   ·refine cO ?_;exact AH h
   refine Ah h (fun _=>Tc) (fun _=>rfl) fun _ h=>?_;refine AP h ?_ ?_<;>intro h
   ·refine cO ?_;exact AH h
   refine Ah h (fun _=>FX) (fun _=>rfl) fun _ h=>?_;refine cO ?_;exact AH h
  rintro v13 h;refine goC ?_;refine AP h ?_ ?_<;>intro h
  ·exact fin h
  refine⟨_,e9,?_⟩;exact p12 _ _ wk h
 rintro _ h;refine AG h (fun v14=>⟨X::X::yb v14::dd 70 ([]),nn 73 ([])⟩) ?_ ?_
 ·intro _ h;refine⟨a0.Sets.length,X10 _,?_⟩;refine Ae h fun h=>?_;refine⟨a0.Objects.length,X10 _,?_⟩;exact AH h
 rintro v14 h;exact fin h
theorem SD {a0:JAD}{a1:ByteArray}{r:(List Int)×(List ByteArray)×Int}(h:DL a0 a1=some r):A4 (Wl True) Tryz.prog 158 [AV.d (JAD.toD a0),AV.d (D.s a1)] [] (.tup [.d (D.l 1 D.i r.1),.d (D.l 1 D.s r.2.1),.d (D.i r.2.2)]) []:=by
 refine oK Tryz.f158 ⟨rfl,?_⟩;unfold DL at h;(conv=>whnf);refine AD h (fun _=>J1) fun _ h=>?_;refine goC ?_;refine AP h ?_ ?_<;>intro h
 ·exact fin h
 refine⟨a0.Sets.length,X10 _,?_⟩;refine AG h (fun v1=>⟨X::ys a1::dd 5 (AV.mp 23::dd 90 ([])),nn 23 (some (OB.map 9 84 (Av D.s Set.toD v1))::nn 74 ([]))⟩) ?_ ?_
 ·intro _ h;revert h;refine AM 25 3 Set.toD rfl (fun i2 v3=>⟨X::ys a1::dd 5 (AV.mp 23::dd 17 (AV.d (D.l 3 Set.toD a0.Sets)::yi (a0.Sets.length:Int)::yi (i2:Int)::dd 70 ([]))),nn 23 (some (OB.map 9 84 (Av D.s Set.toD v3))::nn 74 ([]))⟩) ?_ ?_ ?_
  ·exact wk
  ·rintro v3 K4 h;refine goC ?_;refine Ax BV ?_;exact AH h
  rintro _ i2 x5 v3 K4 b2 c2 e2 h p6;refine goC ?_;refine Ar (BO b2) ?_;refine goC ?_;refine⟨Aq (f:=Set.toD) b2,Set.toD x5,c2,rfl,?_⟩;refine⟨_,GN (ek:=D.s) (ev:=Set.toD) (l:=v3) (k:=x5.Name) (v:=x5) Ff,?_⟩;refine⟨_,e2,?_⟩;exact p6 _ _ wk h
 rintro v1 h;obtain⟨v7,g8,h⟩:=AW h;obtain⟨v9,g10,h⟩:=AW h;refine⟨_,Gz (ek:=D.s) (ev:=Set.toD) (l:=v1) (k:=a1) Ff,Set.toD v7,JX (z:=(⟨ByteArray.empty,[],[]⟩:Set)) rfl g8,v9,Xa g10,?_⟩;refine goC ?_;refine AP h ?_ ?_<;>intro h
 ·(conv=>whnf);refine .inl ?_;refine⟨rfl,?_⟩;(conv=>whnf);refine .inl ?_;refine⟨rfl,?_⟩;exact fin h
 refine AG h (fun (v11,v12)=>⟨dd 13 (AV.mp 45::AV.mp 46::dd 83 ([])),nn 45 (some (OB.map 3 4 (Av D.i D.b v11))::some (OB.map 9 4 (Av D.s D.b v12))::nn 51 ([]))⟩) ?_ ?_
 ·intro _ h;revert h;refine BZ (fun (v13,v14,v15,v16)=>⟨Yx v16,nn 23 (some (OB.map 9 84 (Av D.s Set.toD v1))::nn 20 (some (OB.map 9 4 (Av D.s D.b v13))::some (OB.map 3 4 (Av D.i D.b v14))::some (OB.map 9 4 (Av D.s D.b v15))::N::yR 9 1 D.s v16::nn 49 ([])))⟩) ?_ ?_
  ·exact wk
  rintro _ ⟨v13,v14,v15,v16⟩ _ h p17;refine⟨v16.length,HK,?_⟩;refine goC ?_;refine Ae h fun h=>?_;refine AG h (fun (v18,v19,v20,v21)=>⟨Yx v21,nn 23 (some (OB.map 9 84 (Av D.s Set.toD v1))::nn 20 (some (OB.map 9 4 (Av D.s D.b v18))::some (OB.map 3 4 (Av D.i D.b v19))::some (OB.map 9 4 (Av D.s D.b v20))::N::yR 9 1 D.s v21::nn 49 ([])))⟩) ?_ ?_
  ·intro _ h;obtain⟨v22,g23,h⟩:=AW h;refine⟨rfl,Ed (f:=D.s) g23,?_⟩;refine⟨rfl,D.s v22,(EZ (f:=D.s) g23),?_⟩;obtain⟨v24,g25,h⟩:=AW h;obtain⟨v26,g27,h⟩:=AW h;refine⟨_,Gz (ek:=D.s) (ev:=Set.toD) (l:=v1) (k:=v22) Ff,Set.toD v24,JX (z:=(⟨ByteArray.empty,[],[]⟩:Set)) rfl g25,v26,Xa g27,?_⟩;refine AG h (fun (v28,v29,v30,v31)=>⟨Yx v31,nn 23 (some (OB.map 9 84 (Av D.s Set.toD v1))::nn 20 (some (OB.map 9 4 (Av D.s D.b v28))::some (OB.map 3 4 (Av D.i D.b v29))::some (OB.map 9 4 (Av D.s D.b v30))::N::yR 9 1 D.s v31::nn 49 ([])))⟩) ?_ ?_
   ·intro _ h;refine AG h (fun (v32,v33,v34,v35)=>⟨Yx v35,nn 23 (some (OB.map 9 84 (Av D.s Set.toD v1))::nn 20 (some (OB.map 9 4 (Av D.s D.b v32))::some (OB.map 3 4 (Av D.i D.b v33))::some (OB.map 9 4 (Av D.s D.b v34))::N::yR 9 1 D.s v35::nn 49 ([])))⟩) ?_ ?_
    ·intro _ h;refine AP h ?_ ?_<;>intro h
     ·obtain⟨v36,g37,h⟩:=AW h;refine⟨rfl,Ed (f:=D.s) g37,?_⟩;refine⟨rfl,D.s v36,(EZ (f:=D.s) g37),?_⟩;refine⟨_,GN (ek:=D.s) (ev:=D.b) (l:=v15) (k:=v36) (v:=true) Ff,?_⟩;exact AH h
     obtain⟨v38,g39,h⟩:=AW h;refine⟨_,Gz (ek:=D.s) (ev:=D.b) (l:=v13) (k:=v24.Name) Ff,D.b v38,JX (z:=false) rfl g39,_,rfl,?_⟩;refine AG h (fun (v40,v41,v42)=>⟨Yx v42,nn 23 (some (OB.map 9 84 (Av D.s Set.toD v1))::nn 20 (some (OB.map 9 4 (Av D.s D.b v40))::some (OB.map 3 4 (Av D.i D.b v41))::some (OB.map 9 4 (Av D.s D.b v15))::N::yR 9 1 D.s v42::nn 49 ([])))⟩) ?_ ?_
     ·intro _ h;refine Ae h fun h=>?_;refine⟨_,GN (ek:=D.s) (ev:=D.b) (l:=v13) (k:=v24.Name) (v:=true) Ff,?_⟩;refine⟨v24.ASNs.length,X10 _,?_⟩;refine AG h (fun v43=>⟨dd 7 (AV.mp 23::dd 4 (AV.mp 44::AV.mp 45::AV.mp 46::yO 48 D.s v16::yr 16 0::dd 81 ([]))),nn 16 (yB (Set.av v24)::nn 6 (some (OB.map 9 84 (Av D.s Set.toD v1))::nn 20 (some (OB.map 9 4 (Av D.s D.b (CW v13 v24.Name true)))::some (OB.map 3 4 (Av D.i D.b v43))::some (OB.map 9 4 (Av D.s D.b v15))::N::yR 9 1 D.s v16::nn 49 ([]))))⟩) ?_ ?_
      ·intro _ h;revert h;refine AM 79 1 D.i rfl (fun i44 v45=>⟨dd 7 (AV.mp 23::dd 4 (AV.mp 44::AV.mp 45::AV.mp 46::yO 48 D.s v16::yr 16 0::dd 62 (AV.d (D.l 1 D.i v24.ASNs)::yi (v24.ASNs.length:Int)::yi (i44:Int)::dd 16 ([])))),nn 16 (yB (Set.av v24)::nn 6 (some (OB.map 9 84 (Av D.s Set.toD v1))::nn 20 (some (OB.map 9 4 (Av D.s D.b (CW v13 v24.Name true)))::some (OB.map 3 4 (Av D.i D.b v45))::some (OB.map 9 4 (Av D.s D.b v15))::N::yR 9 1 D.s v16::nn 49 ([]))))⟩) ?_ ?_ ?_
       ·exact wk
       ·rintro v45 K46 h;refine goC ?_;refine Ax BV ?_;exact AH h
       rintro _ i44 x47 v45 K46 b44 c44 e44 h p48;refine goC ?_;refine Ar (BO b44) ?_;refine goC ?_;refine⟨Aq (f:=D.i) b44,D.i x47,c44,rfl,?_⟩;refine⟨_,GN (ek:=D.i) (ev:=D.b) (l:=v45) (k:=x47) (v:=true) XQ,?_⟩;refine⟨_,e44,?_⟩;exact p48 _ _ wk h
      rintro v43 h;refine apO (f:=D.s) h rfl fun _ h=>?_;exact AH h
     rintro⟨v40,v41,v42⟩ h;exact AH h
    rintro⟨v32,v33,v34,v35⟩ h;exact AH h
   rintro⟨v28,v29,v30,v31⟩ h;exact AH h
  rintro⟨v18,v19,v20,v21⟩ h;(conv=>whnf);refine .inr (.inr ?_);obtain⟨v49,g50,h⟩:=AW h;refine⟨XR (f:=D.s) g50,rfl,_,UQ (f:=D.s) g50,?_⟩;exact p17 _ _ (.swap 53 48 rfl rfl rfl wk) h
 rintro⟨v11,v12⟩ h;refine⟨_,_,some [],W7,?_⟩;refine JE [94] h (fun _ g=>Ug g) fun _ h=>?_;refine⟨_,_,some [],Wc,?_⟩;refine JE [97] h (fun _ g=>Uh g) fun _ h=>?_;(conv=>whnf);refine .inl ?_;refine⟨rfl,?_⟩;(conv=>whnf);refine .inl ?_;refine⟨rfl,?_⟩;exact fin h
theorem Qs {a0:List JAB}{a1:JAA}{a2:Int}{r:Int}(h:CN a0 a1 a2=some r):yC wl 159 [AV.d (D.l 6 JAB.toD a0),AV.d (JAA.toD a1),AV.d (D.i a2)] [] (.d (D.i r)) []:=by
 refine oK Tryz.f159 ⟨rfl,?_⟩;unfold CN at h;(conv=>whnf);refine AD h (fun _=>Et) fun _ h=>?_;refine goC ?_;refine AP h ?_ ?_<;>intro h
 ·exact fin h
 refine⟨a0.length,X10 _,?_⟩;refine AG h (fun v1=>⟨dd 7 (yi v1::dd 32 ([])),nn 40 ([])⟩) ?_ ?_
 ·intro _ h;revert h;refine AM 13 6 JAB.toD rfl (fun i2 v3=>⟨Vj a2 v3 (a0.length:Int) (i2:Int) a0,Vi a1⟩) ?_ ?_ ?_
  ·exact wk
  ·rintro v3 K4 h;refine goC ?_;refine Ax BV ?_;exact AH h
  rintro _ i2 x5 v3 K4 b2 c2 e2 h p6;refine goC ?_;refine Ar (BO b2) ?_;refine goC ?_;refine⟨Aq (f:=JAB.toD) b2,JAB.toD x5,c2,rfl,?_⟩;refine goC ?_;refine AG h (fun v7=>⟨Vj a2 v7 (a0.length:Int) (i2:Int) a0,Vi a1⟩) ?_ ?_
  ·intro _ h;refine A6 h fun h=>?_;refine AD h (fun _=>EO) fun _ h=>?_;refine AG h (fun v8=>⟨Vj a2 v8 (a0.length:Int) (i2:Int) a0,Vi a1⟩) ?_ ?_
   ·intro _ h;refine AP h ?_ ?_<;>intro h
    ·refine AG h (fun v9=>⟨Vj a2 v9 (a0.length:Int) (i2:Int) a0,Vi a1⟩) ?_ ?_
     ·intro _ h;exact selC h
     rintro v9 h;exact AH h
    refine goC ?_;refine A6 h fun h=>?_;exact fin h
   rintro v8 h;exact AH h
  rintro v7 h;refine⟨_,e2,?_⟩;exact p6 _ _ wk h
 rintro v1 h;exact fin h
theorem DD {a0:List JAB}{r:(List JAB)}(h:A2 a0=some r):yC wl 189 [AV.d (D.l 6 JAB.toD a0)] [] (AV.own 0 (List.map JAB.toD r).length) [.row 57 6 (List.map JAB.toD r) .no]:=by
 refine oK Tryz.f189 ⟨rfl,?_⟩;unfold A2 at h;refine⟨?_,fun hz=>?_⟩
 ·refine goC ?_;refine apO (f:=JAB.toD) h rfl fun _ h=>?_;(conv=>whnf);refine .inl ?_;(conv=>whnf);refine .inr ?_;exact fin h
 obtain rfl:a0=[]:=(by simpa using hz);replace h:=Yw h;refine goC ?_;(conv=>whnf);refine .inr ⟨X29 rfl,57,?_⟩;exact fin h
theorem LJ {a0:Addr}{r:Int}(h:GL a0=some r):yC wl 274 [AV.d (Addr.toD a0)] [] (.d (D.i r)) []:=by
 refine oK Tryz.f274 ⟨rfl,?_⟩;unfold GL at h;(conv=>whnf);refine .go ?_;refine AP h ?_ ?_<;>intro h
 ·exact fin h
 exact fin h
theorem Hr {a0:UInt64}{r:Bool}(h:EN a0=some r):yC wl 280 [AV.d (D.u64 a0)] [] (.d (D.b r)) []:=by
 refine oK Tryz.f280 ⟨rfl,?_⟩;unfold EN at h;exact fin h
theorem Gu {a0:UInt64}{a1:UInt64}{r:Int}(h:Cb a0 a1=some r):yC wl 275 [AV.d (D.u64 a0),AV.d (D.u64 a1)] [] (.d (D.i r)) []:=by
 refine oK Tryz.f275 ⟨rfl,?_⟩;unfold Cb at h;(conv=>whnf);refine AD h (fun _=>Hr) fun _ h=>?_;refine AD h (fun _=>Hr) fun _ h=>?_;refine goC ?_;refine AP h ?_ ?_<;>intro h
 ·refine goC ?_;refine AP h ?_ ?_<;>intro h
  ·exact fin h
  exact fin h
 refine goC ?_;refine AP h ?_ ?_<;>intro h
 ·exact fin h
 refine goC ?_;refine AP h ?_ ?_<;>intro h
 ·exact fin h
 refine goC ?_;refine AP h ?_ ?_<;>intro h
 ·exact fin h
 exact fin h
theorem U8 {a0:Addr}{a1:Addr}{r:Int}(h:Nl a0 a1=some r):yC wl 257 [AV.d (Addr.toD a0),AV.d (Addr.toD a1)] [] (.d (D.i r)) []:=by
 refine oK Tryz.f257 ⟨rfl,?_⟩;unfold Nl at h;(conv=>whnf);refine .inl (dO ?_);refine Ah h (fun _=>LJ) (fun _=>rfl) fun _ h=>?_;refine Ah h (fun _=>LJ) (fun _=>rfl) fun _ h=>?_;refine Ah h (fun _=>BU) (fun _=>rfl) fun _ h=>?_;refine Ah h (fun _=>Gu) (fun _=>rfl) fun _ h=>?_;refine Ah h (fun _=>Gu) (fun _=>rfl) fun _ h=>?_;refine⟨rfl,?_⟩;refine Ah h (fun _=>F2) (fun _=>rfl) fun _ h=>?_;refine cO ?_;exact fin h
theorem SU {a0:JAA}{a1:JAA}{r:Int}(h:Jj a0 a1=some r):yC wl 225 [AV.d (JAA.toD a0),AV.d (JAA.toD a1)] [] (.d (D.i r)) []:=by
 refine oK Tryz.f225 ⟨rfl,?_⟩;unfold Jj at h;(conv=>whnf);refine .inl (dO ?_);refine Ah h (fun _=>U8) (fun _=>rfl) fun _ h=>?_;refine Ah h (fun _=>BU) (fun _=>rfl) fun _ h=>?_;refine⟨rfl,?_⟩;refine Ah h (fun _=>F2) (fun _=>rfl) fun _ h=>?_;refine cO ?_;exact fin h
theorem Q6 {a0:JAB}{a1:JAB}{r:Int}(h:Ej a0 a1=some r):yC wl 209 [AV.d (JAB.toD a0),AV.d (JAB.toD a1)] [] (.d (D.i r)) []:=by
 refine oK Tryz.f209 ⟨rfl,?_⟩;unfold Ej at h;(conv=>whnf);refine .inl (dO ?_);refine Ah h (fun _=>SU) (fun _=>rfl) fun _ h=>?_;refine Ah h (fun _=>BU) (fun _=>rfl) fun _ h=>?_;refine Ah h (fun _=>BU) (fun _=>rfl) fun _ h=>?_;refine⟨rfl,?_⟩;refine Ah h (fun _=>F2) (fun _=>rfl) fun _ h=>?_;refine cO ?_;exact fin h
theorem E7 {a0:List JAB}{r:(List JAB)}(h:A9 a0=some r):yC wl 210 [AV.own 0 (List.map JAB.toD a0).length] [.row 57 6 (List.map JAB.toD a0) .no] (AV.own 1 (List.map JAB.toD r).length) [.gone,.row 57 6 (List.map JAB.toD r) .no]:=by
 refine oK Tryz.f210 ⟨rfl,?_⟩;unfold A9 at h;refine⟨a0.length,HK,?_⟩;refine goC ?_;refine AP h ?_ ?_<;>intro h
 ·(conv=>whnf);refine .inr ?_;exact fin h
 refine AG h (fun _=>⟨yO 0 JAB.toD a0::dd 60 ([]),Yj a0⟩) ?_ ?_
 ·intro _ h;revert h;refine BZ (fun v1=>⟨yO 0 JAB.toD a0::X::X::yi v1::dd 57 ([]),Yj a0⟩) ?_ ?_
  ·exact wk
  rintro _ v1 _ h p2;refine⟨a0.length,HK,?_⟩;refine goC ?_;refine Ae h fun h=>?_;refine AG h (fun _=>⟨yO 0 JAB.toD a0::X::X::yi v1::dd 57 ([]),Yj a0⟩) ?_ ?_
  ·intro _ h;refine .inl (dO ?_);obtain⟨v3,g4,h⟩:=AW h;refine⟨rfl,Ed (f:=JAB.toD) g4,?_⟩;refine⟨rfl,JAB.toD v3,(EZ (f:=JAB.toD) g4),?_⟩;refine⟨_,rfl,?_⟩;obtain⟨v5,g6,h⟩:=AW h;refine⟨rfl,Ed (f:=JAB.toD) g6,?_⟩;refine⟨rfl,JAB.toD v5,(EZ (f:=JAB.toD) g6),?_⟩;refine cO ?_;refine goC ?_;refine Ae h fun h=>?_;(conv=>whnf);refine .inr (.inl ?_);obtain⟨_,g7,h⟩:=AW h;have g56c:=Ie g7;refine⟨QS (f:=JAB.toD) g7,rfl,(Int.toNat v1),(Int.toNat (a0.length:Int)-Int.toNat v1),rfl,(by rw[X10]),?_⟩;refine AG h (fun (v8,v9)=>⟨yO 0 JAB.toD v9::X::X::yi v8::dd 57 ([]),Yj v9⟩) ?_ ?_
   ·intro _ h;revert h;refine BZ (fun (v10,v11,v12)=>⟨yO 0 JAB.toD v12::X::X::yi v10::AV.osl 0 (Int.toNat v1) (Int.toNat (a0.length:Int)-Int.toNat v1) (List.map JAB.toD v12).length::yi v11::dd 55 ([]),Yj v12⟩) ?_ ?_
    ·exact wk
    rintro _ ⟨v10,v11,v12⟩ _ h p13;refine⟨(Int.toNat (a0.length:Int)-Int.toNat v1),rfl,?_⟩;refine goC ?_;refine Ae h fun h=>?_;refine goC ?_;refine .inl (dO ?_);obtain⟨v14,g15,h⟩:=AW h;refine⟨HK,WH g15,_,rfl,?_⟩;refine⟨rfl,JAB.toD v14,(WX (f:=JAB.toD) g15),?_⟩;refine⟨_,rfl,?_⟩;obtain⟨v16,g17,h⟩:=AW h;refine⟨HK,WH g17,_,rfl,?_⟩;refine⟨rfl,JAB.toD v16,(WX (f:=JAB.toD) g17),?_⟩;refine cO ?_;refine AG h (fun (v18,v19)=>⟨yO 0 JAB.toD v19::X::X::yi v18::AV.osl 0 (Int.toNat v1) (Int.toNat (a0.length:Int)-Int.toNat v1) (List.map JAB.toD v19).length::yi v11::dd 55 ([]),Yj v19⟩) ?_ ?_
    ·intro _ h;refine Ae h fun h=>?_;obtain⟨v20,g21,h⟩:=AW h;refine⟨HK,WH g21,_,rfl,?_⟩;refine⟨rfl,JAB.toD v20,(WX (f:=JAB.toD) g21),?_⟩;obtain⟨v22,g23,h⟩:=AW h;refine⟨rfl,Ed (f:=JAB.toD) g23,?_⟩;obtain⟨v24,g25,h⟩:=AW h;have g25l:=Kr g25;refine⟨rfl,rfl,JAB.toD v22,(EZ (f:=JAB.toD) g23),?_⟩;refine⟨_,Q3 (f:=JAB.toD) g25,?_⟩;refine⟨_,rfl,?_⟩;exact AH h
    rintro⟨v18,v19⟩ h;refine⟨_,rfl,?_⟩;exact p13 _ _ wk h
   rintro⟨v8,v9⟩ h;(conv=>whnf);refine .inr (.inl ?_);obtain⟨_,g26,h⟩:=AW h;have g96c:=Ie g26;refine⟨QS (f:=JAB.toD) g26,rfl,(Int.toNat v8),(Int.toNat (v9.length:Int)-Int.toNat v8),rfl,(by rw[X10]),?_⟩;refine⟨HK,JAB.toD (⟨(⟨(⟨false,(0:UInt64),(0:UInt64)⟩:Addr),0⟩:JAA),0,0⟩:JAB),rfl,List.map JAB.toD (List.take (Int.toNat v8) v9++List.replicate (Int.toNat (v9.length:Int)-Int.toNat v8) (⟨(⟨(⟨false,(0:UInt64),(0:UInt64)⟩:Addr),0⟩:JAA),0,0⟩:JAB)++List.drop ((Int.toNat v8)+(Int.toNat (v9.length:Int)-Int.toNat v8)) v9),XY,?_⟩;(conv=>whnf);refine .inr (.inr ?_);obtain⟨v27,g28,h⟩:=AW h;refine⟨ZD (f:=JAB.toD) g28,HK,_,Un (f:=JAB.toD) g28,?_⟩;(conv=>whnf);refine .inl ?_;(conv=>whnf);refine .inr ?_;exact fin h
  rintro _ h;refine⟨_,rfl,?_⟩;exact p2 _ _ wk h
 rintro _ h;(conv=>whnf);refine .inr ?_;exact fin h
theorem Q9 {a0:List JAB}{r:(List JAB)}(h:HQ a0=some r):yC wl 187 [AV.d (D.l 6 JAB.toD a0)] [] (.d (D.l 6 JAB.toD r)) []:=by
 refine oK Tryz.f187 ⟨rfl,?_⟩;unfold HQ at h;(conv=>whnf);refine JE [5] h (fun _=>DD) fun v1 h=>?_;obtain⟨v2,g3,h⟩:=AW h;have g3l:=Yh g3;refine⟨_,_,some [],VT (f:=JAB.toD) (enters_of Tryz.func209 (by kernel_rfl) rfl) (fun h=>Q6 h) g3,?_⟩;obtain⟨v4,g5,h⟩:=AW h;have g6:(List.map JAB.toD v2).length=(List.map JAB.toD v1).length:=(by first | rfl | (simp only[X10,X21];omega)|(simp only[cpy,X10,X21,X11,X18,X17,X20];omega)|(simp only[X10] at *;omega));refine⟨_,_,some [9],(g6 ▸ E7 g5),?_⟩;(conv=>whnf);refine .inl ?_;(conv=>whnf);refine .inl ?_;refine⟨rfl,?_⟩;exact fin h
theorem OT {a0:JAB}{a1:List Int}{r:Bool×(List Int)}(h:H8 a0 a1=some r):yC wl 190 [AV.d (JAB.toD a0),.ref 0 0] [.box [.d ((D.l 1 D.i) a1)]] (.d (D.b r.1)) [.box [.d ((D.l 1 D.i) r.2)]]:=by
 refine oK Tryz.f190 ⟨rfl,?_⟩;unfold H8 at h;(conv=>whnf);refine AD h (fun _=>Bc) fun _ h=>?_;exact fin h
theorem DK {a0:List JAB}{a1c0:List Int}{r:Int×(List Int)}(h:Ai a0 a1c0=some r):yC wl 93 [AV.own 0 (List.map JAB.toD a0).length,AV.fn 190 [.ref 1 0]] [.row 57 6 (List.map JAB.toD a0) .no,.box [.d ((D.l 1 D.i) a1c0)]] (.d (D.i r.1)) [.row 57 6 (List.map JAB.toD a0) .no,.box [.d ((D.l 1 D.i) r.2)]]:=by
 refine oK Tryz.f93 ⟨rfl,?_⟩;unfold Ai at h;refine⟨a0.length,HK,?_⟩;refine AG h (fun v1=>⟨Kp,yR 57 6 JAB.toD a0::yA0 v1::nn 19 ([])⟩) ?_ ?_
 ·intro _ h;revert h;refine IF 0 57 6 .no JAB.toD rfl (fun i2 v3=>⟨yO 0 JAB.toD a0::AV.fn 190 [yr 1 0]::dd 4 (yO 0 JAB.toD a0::yi (a0.length:Int)::yi (i2:Int)::dd 10 ([])),yR 57 6 JAB.toD a0::yA0 v3::nn 19 ([])⟩) ?_ ?_ ?_
  ·exact wk
  ·rintro v3 K4 h;refine goC ?_;refine Ax BV ?_;exact AH h
  rintro _ i2 x5 v3 K4 b2 c2 e2 h p6;refine goC ?_;refine Ar (BO b2) ?_;refine goC ?_;refine⟨rfl,Aq (f:=JAB.toD) b2,?_⟩;refine⟨rfl,JAB.toD x5,c2,?_⟩;refine AD h (fun _=>OT) ?_;rintro⟨_,_⟩ h;refine goC ?_;refine AP h ?_ ?_<;>intro h
  ·exact fin h
  refine⟨_,e2,?_⟩;exact p6 _ _ wk h
 rintro v1 h;exact fin h
theorem DV {a0:List JAB}{a1c0:List Int}{r:(List JAB)×(List Int)}(h:Ak a0 a1c0=some r):yC wl 188 [AV.own 0 (List.map JAB.toD a0).length,AV.fn 190 [.ref 1 0]] [.row 57 6 (List.map JAB.toD a0) .no,.box [.d ((D.l 1 D.i) a1c0)]] (AV.own 2 (List.map JAB.toD r.1).length) [.gone,.box [.d ((D.l 1 D.i) r.2)],.row 57 6 (List.map JAB.toD r.1) .no]:=by
 refine oK Tryz.f188 ⟨rfl,?_⟩;unfold Ak at h;(conv=>whnf);refine AD h (fun _=>DK) ?_;rintro⟨_,_⟩ h;refine goC ?_;refine AP h ?_ ?_<;>intro h
 ·(conv=>whnf);refine .inr ?_;exact fin h
 refine⟨_,rfl,?_⟩;refine AG h (fun (v1,v2,v3)=>⟨yO 0 JAB.toD v2::dd 4 (yi v1::dd 36 ([])),yR 57 6 JAB.toD v2::yA0 v3::nn 42 ([])⟩) ?_ ?_
 ·intro _ h;revert h;refine BZ (fun (v4,v5,v6,v7)=>⟨yO 0 JAB.toD v6::AV.fn 190 [yr 1 0]::X::X::X::yi v4::yi v5::dd 35 ([]),yR 57 6 JAB.toD v6::yA0 v7::nn 42 ([])⟩) ?_ ?_
  ·exact wk
  rintro _ ⟨v4,v5,v6,v7⟩ _ h p8;refine⟨v6.length,HK,?_⟩;refine goC ?_;refine Ae h fun h=>?_;refine goC ?_;obtain⟨v9,g10,h⟩:=AW h;refine⟨rfl,Ed (f:=JAB.toD) g10,?_⟩;refine⟨rfl,JAB.toD v9,(EZ (f:=JAB.toD) g10),?_⟩;refine AD h (fun _=>OT) ?_;rintro⟨_,v11⟩ h;refine AG h (fun (v12,v13)=>⟨yO 0 JAB.toD v13::AV.fn 190 [yr 1 0]::X::X::X::yi v12::yi v5::dd 35 ([]),yR 57 6 JAB.toD v13::yA0 v11::nn 42 ([])⟩) ?_ ?_
  ·intro _ h;refine Ae h fun h=>?_;obtain⟨v14,g15,h⟩:=AW h;refine⟨rfl,Ed (f:=JAB.toD) g15,?_⟩;obtain⟨v16,g17,h⟩:=AW h;have g17l:=Kr g17;refine⟨rfl,rfl,JAB.toD v14,(EZ (f:=JAB.toD) g15),?_⟩;refine⟨_,Q3 (f:=JAB.toD) g17,?_⟩;refine⟨_,rfl,?_⟩;exact AH h
  rintro⟨v12,v13⟩ h;refine⟨_,rfl,?_⟩;exact p8 _ _ wk h
 rintro⟨v1,v2,v3⟩ h;(conv=>whnf);refine .inr (.inl ?_);obtain⟨_,g18,h⟩:=AW h;have g44c:=Ie g18;refine⟨QS (f:=JAB.toD) g18,rfl,(Int.toNat v1),(Int.toNat (v2.length:Int)-Int.toNat v1),rfl,(by rw[X10]),?_⟩;refine⟨HK,JAB.toD (⟨(⟨(⟨false,(0:UInt64),(0:UInt64)⟩:Addr),0⟩:JAA),0,0⟩:JAB),rfl,List.map JAB.toD (List.take (Int.toNat v1) v2++List.replicate (Int.toNat (v2.length:Int)-Int.toNat v1) (⟨(⟨(⟨false,(0:UInt64),(0:UInt64)⟩:Addr),0⟩:JAA),0,0⟩:JAB)++List.drop ((Int.toNat v1)+(Int.toNat (v2.length:Int)-Int.toNat v1)) v2),XY,?_⟩;(conv=>whnf);refine .inr (.inr ?_);obtain⟨v19,g20,h⟩:=AW h;refine⟨ZD (f:=JAB.toD) g20,HK,_,Un (f:=JAB.toD) g20,?_⟩;(conv=>whnf);refine .inl ?_;(conv=>whnf);refine .inr ?_;exact fin h
theorem WV {a0:JAD}{a1:List Int}{r:(List JAB)}(h:Fa a0 a1=some r):yC wl 160 [AV.d (JAD.toD a0),AV.d (D.l 1 D.i a1)] [] (.d (D.l 6 JAB.toD r)) []:=by
 refine oK Tryz.f160 ⟨rfl,?_⟩;unfold Fa at h;(conv=>whnf);refine JE [7] h (fun _=>DD) fun _ h=>?_;refine JE [9] h (fun _=>DV) ?_;rintro⟨_,_⟩ h;refine⟨rfl,?_⟩;refine AD h (fun _=>Q9) fun _ h=>?_;exact fin h
theorem Ol {a0:JAD}{a1:Int}{a2:ByteArray}{a3:JAA}{a4:Int}{r:Int}(h:Bq a0 a1 a2 a3 a4=some r):A4 (Wl True) Tryz.prog 124 [AV.d (JAD.toD a0),AV.d (D.i a1),AV.d (D.s a2),AV.d (JAA.toD a3),AV.d (D.i a4)] [] (.d (D.i r)) []:=by
 refine oK Tryz.f124 ⟨rfl,?_⟩;unfold Bq at h;(conv=>whnf);refine AD h (fun _=>J1) fun _ h=>?_;refine goC ?_;refine AP h ?_ ?_<;>intro h
 ·exact fin h
 refine AG h (fun v1=>⟨dd 4 (yi a4::yr 5 0::X::X::yr 8 0::X::X::yO 19 D.i v1::dd 33 ([])),nn 5 (yB (JAD.av a0)::N::N::yB (JAA.av a3)::nn 10 (yR 3 1 D.i v1::nn 25 ([])))⟩) ?_ ?_
 ·intro _ h;refine Ae h fun h=>?_;refine AD h (fun _=>SD) ?_;rintro⟨_,_,_⟩ h;refine goC ?_;refine AP h ?_ ?_<;>intro h
  ·exact fin h
  refine apO (f:=D.i) h rfl fun _ h=>?_;exact AH h
 rintro v1 h;refine⟨rfl,?_⟩;refine Ry h (fun _=>Bc) fun _ h=>?_;refine goC ?_;refine AP h ?_ ?_<;>intro h
 ·exact fin h
 refine .inl (dO ?_);refine⟨rfl,?_⟩;refine Ah h (fun _=>WV) (fun _=>rfl) fun _ h=>?_;refine Ah h (fun _=>Qs) (fun _=>rfl) fun _ h=>?_;refine cO ?_;exact fin h
theorem OM {a0:JAF}{r:Bool×JAF}(h:EP a0=some r):A4 (Wl True) Tryz.prog 123 [.ref 0 0] [.box (JAF.av a0)] (.d (D.b r.1)) [.box (JAF.av r.2)]:=by
 refine oK Tryz.f123 ⟨rfl,?_⟩;unfold EP at h;(conv=>whnf);refine AG h (fun v1=>⟨yr 0 0::X::X::yr 4 0::dd 35 ([]),yB (JAF.av a0)::N::N::N::yB [AV.d (D.l 3 Set.toD a0.f.JAD.Sets),y8 v1]::nn 35 ([])⟩) ?_ ?_
 ·intro _ h;refine Ae h fun h=>?_;refine AD h (fun _=>Hn) fun _ h=>?_;exact AH h
 rintro v1 h;refine .inl (dO ?_);refine Ah h (fun _=>Ol) (fun _=>rfl) fun _ h=>?_;refine cO ?_;exact fin h
theorem P8 {a0:List JAB}{a1:JAA}{a2:Int}{r:Int×(List JAB)}(h:Gn a0 a1 a2=some r):yC wl 126 [AV.d (D.l 6 JAB.toD a0),AV.d (JAA.toD a1),AV.d (D.i a2)] [] (.tup [.d (D.i r.1),.d (D.l 6 JAB.toD r.2)]) []:=by
 refine oK Tryz.f126 ⟨rfl,?_⟩;unfold Gn at h;refine⟨a0.length,X10 _,?_⟩;refine AG h (fun (v1,v2)=>⟨dd 8 (yO 8 JAB.toD v2::yi v1::dd 37 ([])),nn 8 (yR 57 6 JAB.toD v2::nn 38 ([]))⟩) ?_ ?_
 ·intro _ h;revert h;refine AM 12 6 JAB.toD rfl (fun i3 (v4,v5)=>⟨aG a2 v4 (a0.length:Int) (i3:Int) a0 v5,Zc v5 a1⟩) ?_ ?_ ?_
  ·exact wk
  ·rintro⟨v4,v5⟩ K6 h;refine goC ?_;refine Ax BV ?_;exact AH h
  rintro _ i3 x7 ⟨v4,v5⟩ K6 b3 c3 e3 h p8;refine goC ?_;refine Ar (BO b3) ?_;refine AG h (fun (v9,v10)=>⟨aG a2 v9 (a0.length:Int) (i3:Int) a0 v10,Zc v10 a1⟩) ?_ ?_
  ·intro _ h;refine⟨Aq (f:=JAB.toD) b3,JAB.toD x7,c3,rfl,?_⟩;refine AD h (fun _=>EO) fun _ h=>?_;refine goC ?_;refine A6 h fun h=>?_;refine⟨rfl,?_⟩;refine apO (f:=JAB.toD) h rfl fun v11 h=>?_;refine AG h (fun v12=>⟨X::X::yi a2::X::yr 4 0::X::X::X::yO 8 JAB.toD v11::yi v4::X::X::y8 a0::yi (a0.length:Int)::yi (i3:Int)::dd 26 (yb v12::dd 5 ([])),Zc v11 a1⟩) ?_ ?_
   ·intro _ h;refine Ae h fun h=>?_;exact selC h
   rintro v12 h;refine AG h (fun v13=>⟨aG a2 v13 (a0.length:Int) (i3:Int) a0 v11,Zc v11 a1⟩) ?_ ?_
   ·intro _ h;refine A6 h fun h=>?_;refine AG h (fun v14=>⟨aG a2 v14 (a0.length:Int) (i3:Int) a0 v11,Zc v11 a1⟩) ?_ ?_
    ·intro _ h;exact selC h
    rintro v14 h;exact AH h
   rintro v13 h;exact AH h
  rintro⟨v9,v10⟩ h;refine⟨_,e3,?_⟩;exact p8 _ _ wk h
 rintro⟨v1,v2⟩ h;(conv=>whnf);refine .inl ?_;refine⟨rfl,?_⟩;exact fin h
theorem MY {a0:JAF}{r:Bool×JAF}(h:Dx a0=some r):yC wl 125 [.ref 0 0] [.box (JAF.av a0)] (.d (D.b r.1)) [.box (JAF.av r.2)]:=by
 refine oK Tryz.f125 ⟨rfl,?_⟩;unfold Dx at h;(conv=>whnf);refine AG h (fun v1=>⟨yr 0 0::X::X::y8 v1::dd 29 ([]),yB (JAF.av a0)::nn 33 ([])⟩) ?_ ?_
 ·intro _ h;refine Ae h fun h=>?_;refine AD h (fun _=>Hn) fun _ h=>?_;exact AH h
 rintro v1 h;refine .inl (dO ?_);refine Ah h (fun _=>P8) (fun _=>rfl) ?_;rintro⟨_,_⟩ h;refine cO ?_;exact fin h
theorem P6 {r:(List JAM)}(h:H4=some r):yC wl 77 [] [] (.d (D.l 2 JAM.toD r)) []:=by
 refine oK Tryz.f77 ⟨rfl,?_⟩;unfold H4 at h;(conv=>whnf);refine .inl ?_;(conv=>whnf);refine .inl ?_;refine⟨rfl,?_⟩;exact fin h
theorem Ih {a0:JAI}{a1:JAO}{a2:JAK}{a3:Int}{r:(List Int)}(h:ES a0 a1 a2 a3=some r):A4 (Wl True) Tryz.prog 37 [AV.d (JAI.toD a0),AV.d (JAO.toD a1),AV.d (JAK.toD a2),AV.d (D.i a3)] [] (.d (D.l 1 D.i r)) []:=by
 refine oK Tryz.f37 ⟨rfl,?_⟩;unfold ES at h;(conv=>whnf);refine AD h (fun _=>PE) fun _ h=>?_;refine goC ?_;refine AP h ?_ ?_<;>intro h
 ·(conv=>whnf);refine .inl ?_;(conv=>whnf);refine .inl ?_;refine⟨rfl,?_⟩;exact fin h
 refine .inl (dO ?_);refine Ah h (fun _=>SB) (fun _=>rfl) fun v1 h=>?_;refine Ah h (fun _=>Gp) (fun _=>rfl) fun v2 h=>?_;refine cO ?_;refine AD h (fun _=>O1) ?_;rintro⟨_,_⟩ h;refine AG h (fun v3=>⟨X::X::X::yi a3::dd 5 (yr 30 0::dd 56 ([])),nn 30 (yB [AV.d (D.i a0.Own),AV.d (D.l 4 JAA.toD a0.LANs),AV.d (D.i a0.Min4),AV.d (D.i a0.Max4),AV.d (D.i a0.Min6),AV.d (D.i a0.Max6),AV.d (D.i a0.Hole4),AV.d (D.i a0.Hole6),AV.d (D.l 4 JAA.toD a0.Bogons),AV.d (D.l 2 JAN.toD a0.Private),AV.d (D.l 1 D.i a0.Free),AV.d (D.i a0.Hops),AV.d (D.l 3 Set.toD a0.JAD.Sets),AV.d (D.l 6 JAB.toD a0.JAD.Objects),AV.d (D.l 6 JAB.toD a0.Origins),AV.d (D.i a1.ASN),AV.d (D.s a1.Set),AV.d (D.i a1.Max4),AV.d (D.i a1.Max6),AV.d (D.l 3 Addr.toD a1.Nexts),AV.d (D.b a2.JAA.Addr.V6),AV.d (D.u64 a2.JAA.Addr.Hi),AV.d (D.u64 a2.JAA.Addr.Lo),AV.d (D.i a2.JAA.Len),AV.d (D.i a2.From),AV.d (D.i a2.JAG.Origin),AV.d (D.l 2 JAE.toD a2.JAG.Path),AV.d (D.b a2.JAG.Next.V6),AV.d (D.u64 a2.JAG.Next.Hi),AV.d (D.u64 a2.JAG.Next.Lo),AV.d (D.i a2.JAG.MED),AV.d (D.i a2.JAG.Pref),AV.d (D.i a2.JAG.OTC),AV.d (D.l 2 JAC.toD a2.JAG.Communities),AV.d (D.l 3 JAH.toD a2.JAG.JAH),AV.d (D.l 3 JAJ.toD a2.JAG.Other),y0 v1,yi v3,yb v2]::nn 35 ([]))⟩) ?_ ?_
 ·intro _ h;exact selC h
 rintro v3 h;refine AD h (fun _=>P6) fun v4 h=>?_;refine⟨v4.length,X10 _,?_⟩;refine AG h (fun v5=>⟨dd 12 (yO 12 D.i v5::dd 53 ([])),nn 12 (yR 3 1 D.i v5::nn 53 ([]))⟩) ?_ ?_
 ·intro _ h;revert h;refine AM 43 2 JAM.toD rfl (fun i6 (v7,v8)=>⟨X::X::X::yi a3::dd 5 (yr 30 0::X::X::yO 12 D.i v8::dd 30 (y9 v4::yi (v4.length:Int)::yi (i6:Int)::dd 20 ([]))),nn 12 (yR 3 1 D.i v8::nn 17 (yB (JAF.av v7)::nn 35 ([])))⟩) ?_ ?_ ?_
  ·exact wk
  ·rintro⟨v7,v8⟩ K9 h;refine goC ?_;refine Ax BV ?_;exact AH h
  rintro _ i6 x10 ⟨v7,v8⟩ K9 b6 c6 e6 h p11;refine goC ?_;refine Ar (BO b6) ?_;refine goC ?_;refine⟨Aq (f:=JAM.toD) b6,JAM.toD x10,c6,rfl,?_⟩;refine AG h (fun (v12,v13)=>⟨X::X::X::yi a3::dd 5 (yr 30 0::X::X::yO 12 D.i v8::X::yr 14 0::dd 28 (y9 v4::yi (v4.length:Int)::yi (i6:Int)::dd 12 (yb v12::dd 7 ([])))),nn 12 (yR 3 1 D.i v8::N::yB (JAM.av x10)::nn 15 (yB (JAF.av v13)::nn 35 ([])))⟩) ?_ ?_
  ·intro _ h;refine⟨v8.length,HK,?_⟩;refine Ae h fun h=>?_;(conv=>whnf);by_cases g14:(x10.refuses==102)=true
   ·replace h:=JV g14 h;revert h;obtain⟨q15,q16⟩:=x10;have g14:q16=102:=eq_of_beq g14;subst g14;intro h;refine AD h (fun _=>NG) ?_;rintro⟨_,_⟩ h;exact AH h
   replace h:=JP g14 h;by_cases g17:(x10.refuses==104)=true
   ·replace h:=JV g17 h;revert h;obtain⟨q18,q19⟩:=x10;have g17:q19=104:=eq_of_beq g17;subst g17;intro h;refine AD h (fun _=>Nn) ?_;rintro⟨_,_⟩ h;exact AH h
   replace h:=JP g17 h;by_cases g20:(x10.refuses==106)=true
   ·replace h:=JV g20 h;revert h;obtain⟨q21,q22⟩:=x10;have g20:q22=106:=eq_of_beq g20;subst g20;intro h;refine AD h (fun _=>OK) ?_;rintro⟨_,_⟩ h;exact AH h
   replace h:=JP g20 h;by_cases g23:(x10.refuses==108)=true
   ·replace h:=JV g23 h;revert h;obtain⟨q24,q25⟩:=x10;have g23:q25=108:=eq_of_beq g23;subst g23;intro h;refine AD h (fun _=>OV) ?_;rintro⟨_,_⟩ h;exact AH h
   replace h:=JP g23 h;by_cases g26:(x10.refuses==110)=true
   ·replace h:=JV g26 h;revert h;obtain⟨q27,q28⟩:=x10;have g26:q28=110:=eq_of_beq g26;subst g26;intro h;refine AD h (fun _=>OJ) ?_;rintro⟨_,_⟩ h;exact AH h
   replace h:=JP g26 h;by_cases g29:(x10.refuses==113)=true
   ·replace h:=JV g29 h;revert h;obtain⟨q30,q31⟩:=x10;have g29:q31=113:=eq_of_beq g29;subst g29;intro h;refine AD h (fun _=>I5) ?_;rintro⟨_,_⟩ h;exact AH h
   replace h:=JP g29 h;by_cases g32:(x10.refuses==114)=true
   ·replace h:=JV g32 h;revert h;obtain⟨q33,q34⟩:=x10;have g32:q34=114:=eq_of_beq g32;subst g32;intro h;refine AD h (fun _=>KW) ?_;rintro⟨_,_⟩ h;exact AH h
   replace h:=JP g32 h;by_cases g35:(x10.refuses==115)=true
   ·replace h:=JV g35 h;revert h;obtain⟨q36,q37⟩:=x10;have g35:q37=115:=eq_of_beq g35;subst g35;intro h;refine AD h (fun _=>Ny) ?_;rintro⟨_,_⟩ h;exact AH h
   replace h:=JP g35 h;by_cases g38:(x10.refuses==117)=true
   ·replace h:=JV g38 h;revert h;obtain⟨q39,q40⟩:=x10;have g38:q40=117:=eq_of_beq g38;subst g38;intro h;refine AD h (fun _=>OF) ?_;rintro⟨_,_⟩ h;exact AH h
   replace h:=JP g38 h;by_cases g41:(x10.refuses==120)=true
   ·replace h:=JV g41 h;revert h;obtain⟨q42,q43⟩:=x10;have g41:q43=120:=eq_of_beq g41;subst g41;intro h;refine AD h (fun _=>NI) ?_;rintro⟨_,_⟩ h;exact AH h
   replace h:=JP g41 h;by_cases g44:(x10.refuses==122)=true
   ·replace h:=JV g44 h;revert h;obtain⟨q45,q46⟩:=x10;have g44:q46=122:=eq_of_beq g44;subst g44;intro h;refine AD h (fun _=>Jt) ?_;rintro⟨_,_⟩ h;exact AH h
   replace h:=JP g44 h;by_cases g47:(x10.refuses==123)=true
   ·replace h:=JV g47 h;revert h;obtain⟨q48,q49⟩:=x10;have g47:q49=123:=eq_of_beq g47;subst g47;intro h;refine AD h (fun _=>OM) ?_;rintro⟨_,_⟩ h;exact AH h
   replace h:=JP g47 h;by_cases g50:(x10.refuses==125)=true
   ·replace h:=JV g50 h;revert h;obtain⟨q51,q52⟩:=x10;have g50:q52=125:=eq_of_beq g50;subst g50;intro h;refine AD h (fun _=>MY) ?_;rintro⟨_,_⟩ h;exact AH h
   replace h:=JP g50 h;exact nomatch h
  rintro⟨v12,v13⟩ h;refine AG h (fun v53=>⟨X::X::X::yi a3::dd 5 (yr 30 0::X::X::yO 12 D.i v53::dd 30 (y9 v4::yi (v4.length:Int)::yi (i6:Int)::dd 20 ([]))),nn 12 (yR 3 1 D.i v53::nn 17 (yB (JAF.av v13)::nn 35 ([])))⟩) ?_ ?_
  ·intro _ h;refine Ae h fun h=>?_;refine⟨rfl,?_⟩;refine apO (f:=D.i) h rfl fun _ h=>?_;exact AH h
  rintro v53 h;refine⟨_,e6,?_⟩;exact p11 _ _ wk h
 rintro v5 h;(conv=>whnf);refine .inl ?_;(conv=>whnf);refine .inl ?_;refine⟨rfl,?_⟩;exact fin h
theorem Dz {a0:JAI}{a1:JAO}{a2:JAK}{r:Int}(h:Ci a0 a1 a2=some r):A4 (Wl True) Tryz.prog 13 [AV.d (JAI.toD a0),AV.d (JAO.toD a1),AV.d (JAK.toD a2)] [] (.d (D.i r)) []:=by
 refine oK Tryz.f13 ⟨rfl,?_⟩;unfold Ci at h;(conv=>whnf);refine AD h (fun _=>Ih) fun v1 h=>?_;refine⟨v1.length,X10 _,?_⟩;refine goC ?_;refine AP h ?_ ?_<;>intro h
 ·(conv=>whnf);refine Cd h (fun _=>rfl) fun _ h=>?_;exact fin h
 exact fin h
theorem IM {a0:List JAE}{r:Bool}(h:E8 a0=some r):yC wl 38 [AV.d (D.l 2 JAE.toD a0)] [] (.d (D.b r)) []:=by
 refine oK Tryz.f38 ⟨rfl,?_⟩;unfold E8 at h;refine⟨a0.length,X10 _,?_⟩;refine AG h (fun v1=>⟨X::X::X::yi v1::dd 74 ([]),nn 78 ([])⟩) ?_ ?_
 ·intro _ h;revert h;refine AM 8 2 JAE.toD rfl (fun i2 v3=>⟨y1 a0::X::X::yi v3::dd 4 (y1 a0::yi (a0.length:Int)::yi (i2:Int)::dd 67 ([])),nn 78 ([])⟩) ?_ ?_ ?_
  ·exact wk
  ·rintro v3 K4 h;refine goC ?_;refine Ax BV ?_;exact AH h
  rintro _ i2 x5 v3 K4 b2 c2 e2 h p6;refine goC ?_;refine Ar (BO b2) ?_;refine AG h (fun _=>⟨y1 a0::X::X::yi (A0 (v3+(x5.ASNs.length:Int)))::dd 4 (y1 a0::yi (a0.length:Int)::yi (i2:Int)::dd 67 ([])),nn 78 ([])⟩) ?_ ?_
  ·intro _ h;refine⟨Aq (f:=JAE.toD) b2,JAE.toD x5,c2,rfl,?_⟩;refine AG h (fun v7=>⟨y1 a0::X::X::yi v3::X::yr 5 0::X::X::y1 a0::yi (a0.length:Int)::yi (i2:Int)::dd 25 (yb v7::dd 41 ([])),nn 5 (yB (JAE.av x5)::nn 72 ([]))⟩) ?_ ?_
   ·intro _ h;refine⟨x5.ASNs.length,X10 _,?_⟩;refine A6 h fun h=>?_;refine Ae h fun h=>?_;refine Ae h fun h=>?_;refine⟨_,rfl,?_⟩;(conv=>whnf);refine Cd h (fun _=>rfl) fun _ h=>?_;exact AH h
   rintro v7 h;refine goC ?_;refine AP h ?_ ?_<;>intro h
   ·exact fin h
   refine⟨x5.ASNs.length,X10 _,?_⟩;refine AG h (fun _=>⟨y1 a0::X::X::yi v3::X::yr 5 0::X::X::y1 a0::yi (a0.length:Int)::yi (i2:Int)::dd 67 ([]),nn 5 (yB (JAE.av x5)::nn 72 ([]))⟩) ?_ ?_
   ·intro _ h;revert h;refine AM 38 1 D.i rfl (fun i8 _=>⟨y1 a0::X::X::yi v3::X::yr 5 0::X::X::y1 a0::yi (a0.length:Int)::yi (i2:Int)::dd 27 (AV.d (D.l 1 D.i x5.ASNs)::yi (x5.ASNs.length:Int)::yi (i8:Int)::dd 37 ([])),nn 5 (yB (JAE.av x5)::nn 72 ([]))⟩) ?_ ?_ ?_
    ·exact wk
    ·rintro _ K9 h;refine goC ?_;refine Ax BV ?_;exact AH h
    rintro _ i8 x10 _ K9 b8 c8 e8 h p11;refine goC ?_;refine Ar (BO b8) ?_;refine goC ?_;refine⟨Aq (f:=D.i) b8,D.i x10,c8,rfl,?_⟩;refine AG h (fun v12=>⟨y1 a0::X::X::yi v3::X::yr 5 0::X::X::y1 a0::yi (a0.length:Int)::yi (i2:Int)::dd 27 (AV.d (D.l 1 D.i x5.ASNs)::yi (x5.ASNs.length:Int)::yi (i8:Int)::dd 27 (yb v12::dd 9 ([]))),nn 5 (yB (JAE.av x5)::nn 72 ([]))⟩) ?_ ?_
    ·intro _ h;refine A6 h fun h=>?_;refine A6 h fun h=>?_;refine Ae h fun h=>?_;refine Ae h fun h=>?_;refine⟨_,rfl,?_⟩;(conv=>whnf);refine Cd h (fun _=>rfl) fun _ h=>?_;exact AH h
    rintro v12 h;refine goC ?_;refine AP h ?_ ?_<;>intro h
    ·exact fin h
    refine⟨_,e8,?_⟩;exact p11 _ _ wk h
   rintro _ h;refine⟨x5.ASNs.length,X10 _,?_⟩;refine⟨_,rfl,?_⟩;exact AH h
  rintro _ h;refine⟨_,e2,?_⟩;exact p6 _ _ wk h
 rintro v1 h;exact fin h
theorem Ku {a0:List JAE}{r:Int×Bool}(h:GR a0=some r):yC wl 14 [AV.d (D.l 2 JAE.toD a0)] [] (.tup [.d (D.i r.1),.d (D.b r.2)]) []:=by
 refine oK Tryz.f14 ⟨rfl,?_⟩;unfold GR at h;(conv=>whnf);refine AG h (fun v1=>⟨y1 a0::dd 16 (yb v1::dd 6 ([])),nn 24 ([])⟩) ?_ ?_
 ·intro _ h;refine AD h (fun _=>IM) fun _ h=>?_;refine A6 h fun h=>?_;refine⟨a0.length,X10 _,?_⟩;refine A6 h fun h=>?_;(conv=>whnf);refine Cd h (fun _=>rfl) fun _ h=>?_;exact AH h
 rintro v1 h;refine goC ?_;refine AP h ?_ ?_<;>intro h
 ·exact fin h
 (conv=>whnf);refine Cd h (fun _=>rfl) fun _ h=>?_;(conv=>whnf);refine Cd h (fun _=>rfl) fun _ h=>?_;exact fin h
theorem Ir {a0:List JAE}{r:(List Int)}(h:GB a0=some r):yC wl 39 [AV.d (D.l 2 JAE.toD a0)] [] (.d (D.l 1 D.i r)) []:=by
 refine oK Tryz.f39 ⟨rfl,?_⟩;unfold GB at h;refine⟨a0.length,X10 _,?_⟩;refine AG h (fun v1=>⟨X::X::X::yO 3 D.i v1::dd 14 ([]),N::N::N::yR 3 1 D.i v1::nn 14 ([])⟩) ?_ ?_
 ·intro _ h;revert h;refine AM 6 2 JAE.toD rfl (fun i2 v3=>⟨X::X::X::yO 3 D.i v3::X::X::y1 a0::yi (a0.length:Int)::yi (i2:Int)::dd 9 ([]),N::N::N::yR 3 1 D.i v3::nn 14 ([])⟩) ?_ ?_ ?_
  ·exact wk
  ·rintro v3 K4 h;refine goC ?_;refine Ax BV ?_;exact AH h
  rintro _ i2 x5 v3 K4 b2 c2 e2 h p6;refine goC ?_;refine Ar (BO b2) ?_;refine goC ?_;refine⟨Aq (f:=JAE.toD) b2,JAE.toD x5,c2,rfl,?_⟩;refine apO (f:=D.i) h rfl fun _ h=>?_;refine⟨_,e2,?_⟩;exact p6 _ _ wk h
 rintro v1 h;(conv=>whnf);refine .inl ?_;(conv=>whnf);refine .inl ?_;refine⟨rfl,?_⟩;exact fin h
theorem J6 {a0:List JAE}{r:Int×Bool}(h:Fo a0=some r):yC wl 15 [AV.d (D.l 2 JAE.toD a0)] [] (.tup [.d (D.i r.1),.d (D.b r.2)]) []:=by
 refine oK Tryz.f15 ⟨rfl,?_⟩;unfold Fo at h;(conv=>whnf);refine AG h (fun v1=>⟨y1 a0::dd 20 (yb v1::dd 8 ([])),nn 30 ([])⟩) ?_ ?_
 ·intro _ h;refine AD h (fun _=>IM) fun _ h=>?_;refine A6 h fun h=>?_;refine⟨a0.length,X10 _,?_⟩;refine A6 h fun h=>?_;refine⟨a0.length,X10 _,?_⟩;refine⟨_,rfl,?_⟩;(conv=>whnf);refine Cd h (fun _=>rfl) fun _ h=>?_;exact AH h
 rintro v1 h;refine goC ?_;refine AP h ?_ ?_<;>intro h
 ·exact fin h
 refine AD h (fun _=>Ir) fun v2 h=>?_;refine⟨v2.length,X10 _,?_⟩;refine⟨_,rfl,?_⟩;(conv=>whnf);refine Cd h (fun _=>rfl) fun _ h=>?_;exact fin h
theorem Gh {a0:Addr}{r:Bool}(h:CJ a0=some r):yC wl 68 [AV.d (Addr.toD a0)] [] (.d (D.b r)) []:=by
 refine oK Tryz.f68 ⟨rfl,?_⟩;unfold CJ at h;(conv=>whnf);refine AG h (fun v1=>⟨X::X::yb v1::dd 12 ([]),nn 15 ([])⟩) ?_ ?_
 ·intro _ h;refine A6 h fun h=>?_;exact selC h
 rintro v1 h;exact fin h
theorem RX {a0:Addr}{r:Int}(h:C5 a0=some r):yC wl 127 [AV.d (Addr.toD a0)] [] (.d (D.i r)) []:=by
 refine oK Tryz.f127 ⟨rfl,?_⟩;unfold C5 at h;(conv=>whnf);refine .go ?_;refine AP h ?_ ?_<;>intro h
 ·exact fin h
 exact fin h
theorem RE {a0:Addr}{r:(List UInt8)}(h:Ha a0=some r):yC wl 128 [AV.d (Addr.toD a0)] [] (AV.own 0 (List.map D.u8 r).length) [.row 5 1 (List.map D.u8 r) .no]:=by
 refine oK Tryz.f128 ⟨rfl,?_⟩;unfold Ha at h;(conv=>whnf);refine AD h (fun _=>Gh) fun _ h=>?_;refine goC ?_;refine AP h ?_ ?_<;>intro h
 ·(conv=>whnf);refine .inr ⟨X29 rfl,5,?_⟩;exact fin h
 refine AG h (fun v1=>⟨X::yr 1 0::X::yi v1::dd 31 ([]),N::yB (Addr.av a0)::nn 33 ([])⟩) ?_ ?_
 ·intro _ h;exact selC h
 rintro v1 h;refine⟨_,rfl,?_⟩;refine AG h (fun v2=>⟨dd 4 (yO 4 D.u8 v2::dd 30 ([])),nn 4 (yR 5 1 D.u8 v2::nn 30 ([]))⟩) ?_ ?_
 ·intro _ h;revert h;refine BZ (fun (v3,v4)=>⟨X::yr 1 0::X::X::yO 4 D.u8 v4::yi v3::dd 29 ([]),N::yB (Addr.av a0)::N::N::yR 5 1 D.u8 v4::nn 30 ([])⟩) ?_ ?_
  ·exact wk
  rintro _ ⟨v3,v4⟩ _ h p5;refine goC ?_;refine Ae h fun h=>?_;refine goC ?_;refine AG h (fun v6=>⟨X::yr 1 0::X::X::yO 4 D.u8 v4::yi v3::yu v6::dd 28 ([]),N::yB (Addr.av a0)::N::N::yR 5 1 D.u8 v4::nn 30 ([])⟩) ?_ ?_
  ·intro _ h;exact selC h
  rintro v6 h;refine⟨by decide,_,rfl,?_⟩;refine⟨_,BK _,?_⟩;refine⟨_,BK _,?_⟩;refine⟨Int.natCast_nonneg _,_,XN v6 _,?_⟩;refine⟨_,Uk _,?_⟩;refine⟨rfl,?_⟩;refine apO (f:=D.u8) h rfl fun _ h=>?_;refine⟨_,rfl,?_⟩;exact p5 _ _ wk h
 rintro v2 h;(conv=>whnf);refine .inl ?_;(conv=>whnf);refine .inr ?_;exact fin h
theorem MM {a0:List UInt8}{r:Addr×Int}(h:Br a0=some r):yC wl 129 [AV.d (D.l 1 D.u8 a0)] [] (.tup [.d (Addr.toD r.1),.d (D.i r.2)]) []:=by
 refine oK Tryz.f129 ⟨rfl,?_⟩;unfold Br at h;(conv=>whnf);refine AG h (fun v1=>⟨y10 a0::X::yr 2 0::dd 11 (yb v1::dd 28 ([])),N::N::yB Addr.zv::nn 40 ([])⟩) ?_ ?_
 ·intro _ h;refine⟨a0.length,X10 _,?_⟩;refine Ae h fun h=>?_;refine⟨a0.length,X10 _,?_⟩;exact AH h
 rintro v1 h;refine goC ?_;refine AP h ?_ ?_<;>intro h
 ·exact fin h
 refine⟨a0.length,X10 _,?_⟩;refine⟨a0.length,X10 _,?_⟩;refine AG h (fun v2=>⟨X::X::yr 2 0::X::yr 4 0::dd 38 ([]),N::N::yB Addr.zv::N::yB (Addr.av v2)::nn 38 ([])⟩) ?_ ?_
 ·intro _ h;revert h;refine AM 20 1 D.u8 rfl (fun i3 v4=>⟨X::X::yr 2 0::X::yr 4 0::dd 15 (y10 a0::yi (a0.length:Int)::yi (i3:Int)::dd 20 ([])),N::N::yB Addr.zv::N::yB (Addr.av v4)::nn 38 ([])⟩) ?_ ?_ ?_
  ·exact wk
  ·rintro v4 K5 h;refine goC ?_;refine Ax BV ?_;exact AH h
  rintro _ i3 x6 v4 K5 b3 c3 e3 h p7;refine goC ?_;refine Ar (BO b3) ?_;refine goC ?_;refine⟨Aq (f:=D.u8) b3,D.u8 x6,c3,rfl,?_⟩;refine⟨by decide,_,BK _,?_⟩;refine⟨by decide,_,XN v4.Lo _,?_⟩;refine⟨_,BK _,?_⟩;refine⟨by decide,_,BK _,?_⟩;refine⟨_,BK _,?_⟩;refine⟨_,BK _,?_⟩;refine⟨_,e3,?_⟩;exact p7 _ _ wk h
 rintro v2 h;exact fin h
theorem L8 {a0:Addr}{a1:Int}{r:JAA×Int}(h:Do a0 a1=some r):yC wl 78 [AV.d (Addr.toD a0),AV.d (D.i a1)] [] (.tup [.d (JAA.toD r.1),.d (D.i r.2)]) []:=by
 refine oK Tryz.f78 ⟨rfl,?_⟩;unfold Do at h;(conv=>whnf);refine .go ?_;refine AD h (fun _=>Gh) fun _ h=>?_;refine goC ?_;refine AP h ?_ ?_<;>intro h
 ·exact fin h
 refine AG h (fun v1=>⟨X::yi a1::yr 2 0::X::yr 4 0::dd 10 (yb v1::dd 38 ([])),N::N::yB (Addr.av a0)::N::yB JAA.zv::nn 49 ([])⟩) ?_ ?_
 ·intro _ h;refine A6 h fun h=>?_;refine AD h (fun _=>RX) fun _ h=>?_;exact AH h
 rintro v1 h;refine goC ?_;refine AP h ?_ ?_<;>intro h
 ·exact fin h
 refine JE [26] h (fun _=>RE) fun _ h=>?_;refine AG h (fun v2=>⟨X::yi a1::X::X::yr 4 0::X::yO 26 D.u8 v2::dd 47 ([]),nn 4 (yB JAA.zv::nn 21 (yR 5 1 D.u8 v2::nn 27 ([])))⟩) ?_ ?_
 ·intro _ h;revert h;refine BZ (fun (v3,v4)=>⟨X::yi a1::X::X::yr 4 0::X::yO 26 D.u8 v4::yi v3::dd 46 ([]),nn 4 (yB JAA.zv::nn 21 (yR 5 1 D.u8 v4::nn 27 ([])))⟩) ?_ ?_
  ·exact wk
  rintro _ ⟨v3,v4⟩ _ h p5;refine⟨v4.length,HK,?_⟩;refine⟨_,rfl,?_⟩;refine goC ?_;refine Ae h fun h=>?_;refine goC ?_;refine⟨by decide,_,rfl,?_⟩;obtain⟨v6,g7,h⟩:=AW h;refine⟨rfl,Ed (f:=D.u8) g7,?_⟩;refine⟨rfl,D.u8 v6,(EZ (f:=D.u8) g7),?_⟩;refine⟨by decide,_,rfl,?_⟩;refine⟨_,BK _,?_⟩;refine⟨Int.natCast_nonneg _,_,cK (128:UInt8) _,?_⟩;refine⟨_,Uk _,?_⟩;obtain⟨v8,g9,h⟩:=AW h;refine⟨rfl,Ed (f:=D.u8) g9,?_⟩;obtain⟨v10,g11,h⟩:=AW h;have g11l:=Kr g11;refine⟨rfl,rfl,D.u8 v8,(EZ (f:=D.u8) g9),?_⟩;refine⟨_,Q3 (f:=D.u8) g11,?_⟩;refine⟨_,rfl,?_⟩;exact p5 _ _ wk h
 rintro v2 h;refine⟨rfl,?_⟩;refine Ry h (fun _=>MM) ?_;rintro⟨_,_⟩ h;exact fin h
theorem NV {a0:JAA}{a1:Addr}{r:Bool}(h:Dm a0 a1=some r):yC wl 40 [AV.d (JAA.toD a0),AV.d (Addr.toD a1)] [] (.d (D.b r)) []:=by
 refine oK Tryz.f40 ⟨rfl,?_⟩;unfold Dm at h;(conv=>whnf);refine AD h (fun _=>L8) ?_;rintro⟨_,_⟩ h;refine AG h (fun v1=>⟨dd 4 (yb v1::dd 16 ([])),nn 21 ([])⟩) ?_ ?_
 ·intro _ h;exact selC h
 rintro v1 h;exact fin h
theorem CO {a0:JAA}{a1:JAA}{r:Bool}(h:BE a0 a1=some r):yC wl 16 [AV.d (JAA.toD a0),AV.d (JAA.toD a1)] [] (.d (D.b r)) []:=by
 refine oK Tryz.f16 ⟨rfl,?_⟩;unfold BE at h;(conv=>whnf);refine AG h (fun v1=>⟨dd 4 (yb v1::dd 11 ([])),nn 16 ([])⟩) ?_ ?_
 ·intro _ h;refine Ae h fun h=>?_;refine AD h (fun _=>NV) fun _ h=>?_;exact AH h
 rintro v1 h;exact fin h
theorem NU {a0:List JAE}{a1:Int}{r:Bool}(h:H9 a0 a1=some r):yC wl 18 [AV.d (D.l 2 JAE.toD a0),AV.d (D.i a1)] [] (.d (D.b r)) []:=by
 refine oK Tryz.f18 ⟨rfl,?_⟩;unfold H9 at h;(conv=>whnf);refine AD h (fun _=>Ir) fun v1 h=>?_;refine⟨v1.length,X10 _,?_⟩;refine AG h (fun _=>⟨dd 18 ([]),nn 18 ([])⟩) ?_ ?_
 ·intro _ h;revert h;refine AM 8 1 D.i rfl (fun i2 _=>⟨X::yi a1::dd 6 (y0 v1::yi (v1.length:Int)::yi (i2:Int)::dd 7 ([])),nn 18 ([])⟩) ?_ ?_ ?_
  ·exact wk
  ·rintro _ K3 h;refine goC ?_;refine Ax BV ?_;exact AH h
  rintro _ i2 x4 _ K3 b2 c2 e2 h p5;refine goC ?_;refine Ar (BO b2) ?_;refine goC ?_;refine⟨Aq (f:=D.i) b2,D.i x4,c2,rfl,?_⟩;refine goC ?_;refine AP h ?_ ?_<;>intro h
  ·exact fin h
  refine⟨_,e2,?_⟩;exact p5 _ _ wk h
 rintro _ h;exact fin h
theorem OL {a0:JAA}{r:Bool}(h:FN a0=some r):yC wl 49 [AV.d (JAA.toD a0)] [] (.d (D.b r)) []:=by
 refine oK Tryz.f49 ⟨rfl,?_⟩;unfold FN at h;(conv=>whnf);refine AD h (fun _=>Et) fun _ h=>?_;exact fin h
theorem Nq {a0:JAN}{r:Bool}(h:FP a0=some r):yC wl 53 [AV.d (JAN.toD a0)] [] (.d (D.b r)) []:=by
 refine oK Tryz.f53 ⟨rfl,?_⟩;unfold FP at h;(conv=>whnf);refine AG h (fun v1=>⟨X::X::yb v1::dd 15 ([]),nn 18 ([])⟩) ?_ ?_
 ·intro _ h;refine A6 h fun h=>?_;exact selC h
 rintro v1 h;exact fin h
theorem Ns {a0:Int}{r:Bool}(h:FD a0=some r):yC wl 55 [AV.d (D.i a0)] [] (.d (D.b r)) []:=by
 refine oK Tryz.f55 ⟨rfl,?_⟩;unfold FD at h;(conv=>whnf);refine AD h (fun _=>BI) fun _ h=>?_;exact fin h
theorem NK {a0:JAB}{r:Bool}(h:FI a0=some r):yC wl 56 [AV.d (JAB.toD a0)] [] (.d (D.b r)) []:=by
 refine oK Tryz.f56 ⟨rfl,?_⟩;unfold FI at h;(conv=>whnf);refine AG h (fun v1=>⟨X::X::yb v1::dd 23 ([]),nn 26 ([])⟩) ?_ ?_
 ·intro _ h;refine .inl (dO ?_);refine Ah h (fun _=>Et) (fun _=>rfl) fun _ h=>?_;refine AP h ?_ ?_<;>intro h
  ·refine cO ?_;exact AH h
  refine Ah h (fun _=>KD) (fun _=>rfl) fun _ h=>?_;refine Ah h (fun _=>BI) (fun _=>rfl) fun _ h=>?_;refine AP h ?_ ?_<;>intro h
  ·refine cO ?_;exact AH h
  refine Ah h (fun _=>BI) (fun _=>rfl) fun _ h=>?_;refine cO ?_;exact AH h
 rintro v1 h;exact fin h
theorem Cm {a0:List JAA}{r:Int}(h:Ap a0=some r):yC wl 90 [AV.d (D.l 4 JAA.toD a0),AV.fn 49 []] [] (.d (D.i r)) []:=by
 refine oK Tryz.f90 ⟨rfl,?_⟩;unfold Ap at h;refine⟨a0.length,X10 _,?_⟩;refine AG h (fun _=>⟨Kp,JK⟩) ?_ ?_
 ·intro _ h;revert h;refine AM 6 4 JAA.toD rfl (fun i1 _=>⟨y11 a0::AV.fn 49 []::dd 4 (y11 a0::yi (a0.length:Int)::yi (i1:Int)::dd 10 ([])),JK⟩) ?_ ?_ ?_
  ·exact wk
  ·rintro _ K2 h;refine goC ?_;refine Ax BV ?_;exact AH h
  rintro _ i1 x3 _ K2 b1 c1 e1 h p4;refine goC ?_;refine Ar (BO b1) ?_;refine goC ?_;refine⟨Aq (f:=JAA.toD) b1,JAA.toD x3,c1,rfl,?_⟩;refine AD h (fun _=>OL) fun _ h=>?_;refine goC ?_;refine AP h ?_ ?_<;>intro h
  ·exact fin h
  refine⟨_,e1,?_⟩;exact p4 _ _ wk h
 rintro _ h;exact fin h
theorem BN {a0:List JAA}{r:Bool}(h:AQ a0=some r):yC wl 51 [AV.d (D.l 4 JAA.toD a0),AV.fn 49 []] [] (.d (D.b r)) []:=by
 refine oK Tryz.f51 ⟨rfl,?_⟩;unfold AQ at h;(conv=>whnf);refine AD h (fun _=>Cm) fun _ h=>?_;exact fin h
theorem DU {a0:List JAN}{r:Int}(h:Az a0=some r):yC wl 91 [AV.d (D.l 2 JAN.toD a0),AV.fn 53 []] [] (.d (D.i r)) []:=by
 refine oK Tryz.f91 ⟨rfl,?_⟩;unfold Az at h;refine⟨a0.length,X10 _,?_⟩;refine AG h (fun _=>⟨Kp,JK⟩) ?_ ?_
 ·intro _ h;revert h;refine AM 6 2 JAN.toD rfl (fun i1 _=>⟨y6 a0::AV.fn 53 []::dd 4 (y6 a0::yi (a0.length:Int)::yi (i1:Int)::dd 10 ([])),JK⟩) ?_ ?_ ?_
  ·exact wk
  ·rintro _ K2 h;refine goC ?_;refine Ax BV ?_;exact AH h
  rintro _ i1 x3 _ K2 b1 c1 e1 h p4;refine goC ?_;refine Ar (BO b1) ?_;refine goC ?_;refine⟨Aq (f:=JAN.toD) b1,JAN.toD x3,c1,rfl,?_⟩;refine AD h (fun _=>Nq) fun _ h=>?_;refine goC ?_;refine AP h ?_ ?_<;>intro h
  ·exact fin h
  refine⟨_,e1,?_⟩;exact p4 _ _ wk h
 rintro _ h;exact fin h
theorem C2 {a0:List JAN}{r:Bool}(h:Ag a0=some r):yC wl 52 [AV.d (D.l 2 JAN.toD a0),AV.fn 53 []] [] (.d (D.b r)) []:=by
 refine oK Tryz.f52 ⟨rfl,?_⟩;unfold Ag at h;(conv=>whnf);refine AD h (fun _=>DU) fun _ h=>?_;exact fin h
theorem Eh {a0:List Int}{r:Int}(h:BD a0=some r):yC wl 92 [AV.d (D.l 1 D.i a0),AV.fn 55 []] [] (.d (D.i r)) []:=by
 refine oK Tryz.f92 ⟨rfl,?_⟩;unfold BD at h;refine⟨a0.length,X10 _,?_⟩;refine AG h (fun _=>⟨Kp,JK⟩) ?_ ?_
 ·intro _ h;revert h;refine AM 6 1 D.i rfl (fun i1 _=>⟨y0 a0::AV.fn 55 []::dd 4 (y0 a0::yi (a0.length:Int)::yi (i1:Int)::dd 10 ([])),JK⟩) ?_ ?_ ?_
  ·exact wk
  ·rintro _ K2 h;refine goC ?_;refine Ax BV ?_;exact AH h
  rintro _ i1 x3 _ K2 b1 c1 e1 h p4;refine goC ?_;refine Ar (BO b1) ?_;refine goC ?_;refine⟨Aq (f:=D.i) b1,D.i x3,c1,rfl,?_⟩;refine AD h (fun _=>Ns) fun _ h=>?_;refine goC ?_;refine AP h ?_ ?_<;>intro h
  ·exact fin h
  refine⟨_,e1,?_⟩;exact p4 _ _ wk h
 rintro _ h;exact fin h
theorem EF {a0:List Int}{r:Bool}(h:Aw a0=some r):yC wl 54 [AV.d (D.l 1 D.i a0),AV.fn 55 []] [] (.d (D.b r)) []:=by
 refine oK Tryz.f54 ⟨rfl,?_⟩;unfold Aw at h;(conv=>whnf);refine AD h (fun _=>Eh) fun _ h=>?_;exact fin h
theorem Ce {a0:List JAB}{r:Int}(h:Ao a0=some r):yC wl 93 [AV.d (D.l 6 JAB.toD a0),AV.fn 56 []] [] (.d (D.i r)) []:=by
 refine oK Tryz.f93 ⟨rfl,?_⟩;unfold Ao at h;refine⟨a0.length,X10 _,?_⟩;refine AG h (fun _=>⟨Kp,JK⟩) ?_ ?_
 ·intro _ h;revert h;refine AM 6 6 JAB.toD rfl (fun i1 _=>⟨y8 a0::AV.fn 56 []::dd 4 (y8 a0::yi (a0.length:Int)::yi (i1:Int)::dd 10 ([])),JK⟩) ?_ ?_ ?_
  ·exact wk
  ·rintro _ K2 h;refine goC ?_;refine Ax BV ?_;exact AH h
  rintro _ i1 x3 _ K2 b1 c1 e1 h p4;refine goC ?_;refine Ar (BO b1) ?_;refine goC ?_;refine⟨Aq (f:=JAB.toD) b1,JAB.toD x3,c1,rfl,?_⟩;refine AD h (fun _=>NK) fun _ h=>?_;refine goC ?_;refine AP h ?_ ?_<;>intro h
  ·exact fin h
  refine⟨_,e1,?_⟩;exact p4 _ _ wk h
 rintro _ h;exact fin h
theorem CS {a0:List JAB}{r:Bool}(h:Ab a0=some r):yC wl 58 [AV.d (D.l 6 JAB.toD a0),AV.fn 56 []] [] (.d (D.b r)) []:=by
 refine oK Tryz.f58 ⟨rfl,?_⟩;unfold Ab at h;(conv=>whnf);refine AD h (fun _=>Ce) fun _ h=>?_;exact fin h
theorem KA {a0:JAI}{r:Bool}(h:Fe a0=some r):yC wl 27 [AV.d (JAI.toD a0)] [] (.d (D.b r)) []:=by
 refine oK Tryz.f27 ⟨rfl,?_⟩;unfold Fe at h;(conv=>whnf);refine AG h (fun v1=>⟨X::yr 1 0::dd 36 (yb v1::dd 78 ([])),N::yB (JAI.av a0)::nn 115 ([])⟩) ?_ ?_
 ·intro _ h;refine AD h (fun _=>BI) fun _ h=>?_;refine A6 h fun h=>?_;refine⟨a0.LANs.length,X10 _,?_⟩;refine A6 h fun h=>?_;refine⟨a0.Bogons.length,X10 _,?_⟩;refine A6 h fun h=>?_;refine⟨a0.Private.length,X10 _,?_⟩;refine A6 h fun h=>?_;refine⟨a0.Free.length,X10 _,?_⟩;refine A6 h fun h=>?_;refine⟨a0.Origins.length,X10 _,?_⟩;exact AH h
 rintro v1 h;refine goC ?_;refine AP h ?_ ?_<;>intro h
 ·exact fin h
 refine AG h (fun v2=>⟨X::yr 1 0::dd 86 (yb v2::dd 28 ([])),N::yB (JAI.av a0)::nn 115 ([])⟩) ?_ ?_
 ·intro _ h;refine A6 h fun h=>?_;refine A6 h fun h=>?_;refine A6 h fun h=>?_;refine A6 h fun h=>?_;refine A6 h fun h=>?_;refine A6 h fun h=>?_;refine AD h (fun _=>BI) fun _ h=>?_;refine A6 h fun h=>?_;refine AD h (fun _=>BI) fun _ h=>?_;refine A6 h fun h=>?_;refine AD h (fun _=>BI) fun _ h=>?_;exact AH h
 rintro v2 h;refine goC ?_;refine AP h ?_ ?_<;>intro h
 ·exact fin h
 refine AG h (fun v3=>⟨X::yr 1 0::dd 96 (yb v3::dd 18 ([])),N::yB (JAI.av a0)::nn 115 ([])⟩) ?_ ?_
 ·intro _ h;refine AD h (fun _=>BN) fun _ h=>?_;refine A6 h fun h=>?_;refine AD h (fun _=>BN) fun _ h=>?_;exact AH h
 rintro v3 h;refine goC ?_;refine AP h ?_ ?_<;>intro h
 ·exact fin h
 refine AG h (fun v4=>⟨X::yr 1 0::dd 104 (yb v4::dd 10 ([])),N::yB (JAI.av a0)::nn 115 ([])⟩) ?_ ?_
 ·intro _ h;refine AD h (fun _=>C2) fun _ h=>?_;refine A6 h fun h=>?_;refine AD h (fun _=>EF) fun _ h=>?_;exact AH h
 rintro v4 h;refine goC ?_;refine AP h ?_ ?_<;>intro h
 ·exact fin h
 refine AG h (fun v5=>⟨X::X::yb v5::dd 114 ([]),nn 117 ([])⟩) ?_ ?_
 ·intro _ h;refine AD h (fun _=>CS) fun _ h=>?_;refine Ae h fun h=>?_;refine AD h (fun _=>J1) fun _ h=>?_;exact AH h
 rintro v5 h;exact fin h
theorem R2 {r:JAI×JAO×JAK}(h:Ko=some r):yC wl 42 [] [] (.tup [.d (JAI.toD r.1),.d (JAO.toD r.2.1),.d (JAK.toD r.2.2)]) []:=by
 refine oK Tryz.f42 ⟨rfl,?_⟩;unfold Ko at h;(conv=>whnf);refine .inl ?_;refine⟨rfl,?_⟩;refine .inl (dO ?_);refine cO ?_;refine⟨rfl,?_⟩;refine⟨rfl,?_⟩;refine⟨rfl,?_⟩;exact fin h
theorem B9 {r:Bool}(h:CL=some r):A4 (Wl True) Tryz.prog 19 [] [] (.d (D.b r)) []:=by
 refine oK Tryz.f19 ⟨rfl,?_⟩;unfold CL at h;(conv=>whnf);refine AD h (fun _=>R2) ?_;rintro⟨_,_,_⟩ h;refine .inl (dO ?_);refine cO ?_;(conv=>whnf);refine .inl ?_;refine⟨rfl,?_⟩;refine AG h (fun v1=>⟨yb v1::dd 42 ([]),nn 43 ([])⟩) ?_ ?_
 ·intro _ h;refine AD h (fun _=>KA) fun _ h=>?_;refine Ae h fun h=>?_;refine AD h (fun _=>Dz) fun _ h=>?_;refine Ae h fun h=>?_;refine AD h (fun _=>Dz) fun _ h=>?_;refine Ae h fun h=>?_;refine⟨rfl,?_⟩;refine Ry h (fun _=>Dz) fun _ h=>?_;exact AH h
 rintro v1 h;exact fin h
theorem law24_FilterCovered_ok {a0:List Int}{r:Bool}(h:CE a0=some r):A4 (Wl True) Tryz.prog 3 [AV.d (D.l 1 D.i a0)] [] (.d (D.b r)) []:=by
 refine oK Tryz.f3 ⟨rfl,?_⟩;unfold CE at h;(conv=>whnf);refine JE [21] h (fun _=>HW) fun _ h=>?_;refine AD h (fun _=>DO) ?_;rintro⟨v1,_⟩ h;refine AD h (fun _=>AL) ?_;rintro⟨_,_⟩ h;refine⟨_,rfl,?_⟩;refine AD h (fun _=>D1) ?_;rintro⟨v2,_⟩ h;refine AG h (fun _=>⟨dd 161 ([]),nn 161 ([])⟩) ?_ ?_
 ·intro _ h;revert h;refine BZ (fun (v3,v4)=>⟨X::X::X::yr 21 0::yr 4 0::yr 5 0::yi v3::dd 154 ([]),nn 4 (yB (JAI.av v1)::yB (JAO.av v2)::nn 15 (yB (JAL.av v4)::nn 139 ([])))⟩) ?_ ?_
  ·exact wk
  rintro _ ⟨v3,v4⟩ _ h p5;refine goC ?_;refine Ae h fun h=>?_;refine AG h (fun v6=>⟨X::X::X::yr 21 0::yr 4 0::yr 5 0::yi v3::dd 154 ([]),nn 4 (yB (JAI.av v1)::yB (JAO.av v2)::nn 15 (yB (JAL.av v6)::nn 139 ([])))⟩) ?_ ?_
  ·intro _ h;refine AD h (fun _=>Dq) ?_;rintro⟨v7,v8⟩ h;refine AD h (fun _=>Dz) fun _ h=>?_;refine goC ?_;refine A6 h fun h=>?_;refine AD h (fun _=>Ku) ?_;rintro⟨v9,v10⟩ h;refine AD h (fun _=>J6) ?_;rintro⟨v11,v12⟩ h;refine⟨v2.Nexts.length,X10 _,?_⟩;refine AG h (fun v13=>⟨X::X::X::yr 21 0::yr 4 0::yr 5 0::yi v3::yr 7 0::yi v9::yb v10::yi v11::yb v12::yb v13::yb false::dd 147 ([]),Ur v1 v2 v7 v8⟩) ?_ ?_
   ·intro _ h;revert h;refine AM 57 3 Addr.toD rfl (fun i14 v15=>⟨X::X::X::yr 21 0::yr 4 0::yr 5 0::yi v3::yr 7 0::yi v9::yb v10::yi v11::yb v12::yb v15::yb false::dd 43 (AV.d (D.l 3 Addr.toD v2.Nexts)::yi (v2.Nexts.length:Int)::yi (i14:Int)::dd 101 ([])),Ur v1 v2 v7 v8⟩) ?_ ?_ ?_
    ·exact wk
    ·rintro v15 K16 h;refine goC ?_;refine Ax BV ?_;exact AH h
    rintro _ i14 x17 v15 K16 b14 c14 e14 h p18;refine goC ?_;refine Ar (BO b14) ?_;refine goC ?_;refine⟨Aq (f:=Addr.toD) b14,Addr.toD x17,c14,rfl,?_⟩;refine AG h (fun v19=>⟨X::X::X::yr 21 0::yr 4 0::yr 5 0::yi v3::yr 7 0::yi v9::yb v10::yi v11::yb v12::yb v19::yb false::dd 43 (AV.d (D.l 3 Addr.toD v2.Nexts)::yi (v2.Nexts.length:Int)::yi (i14:Int)::dd 101 ([])),Ur v1 v2 v7 v8⟩) ?_ ?_
    ·intro _ h;exact selC h
    rintro v19 h;refine⟨_,e14,?_⟩;exact p18 _ _ wk h
   rintro v13 h;refine⟨v1.JAD.Objects.length,X10 _,?_⟩;refine AG h (fun v20=>⟨X::X::X::yr 21 0::yr 4 0::yr 5 0::yi v3::yr 7 0::yi v9::yb v10::X::yb v12::yb v13::yb v20::dd 147 ([]),Ur v1 v2 v7 v8⟩) ?_ ?_
   ·intro _ h;revert h;refine AM 74 6 JAB.toD rfl (fun i21 v22=>⟨dp v3 v9 v10 v11 v12 v13 v22 (v1.JAD.Objects.length:Int) (i21:Int) v1.JAD.Objects,Ur v1 v2 v7 v8⟩) ?_ ?_ ?_
    ·exact wk
    ·rintro v22 K23 h;refine goC ?_;refine Ax BV ?_;exact AH h
    rintro _ i21 x24 v22 K23 b21 c21 e21 h p25;refine goC ?_;refine Ar (BO b21) ?_;refine goC ?_;refine⟨Aq (f:=JAB.toD) b21,JAB.toD x24,c21,rfl,?_⟩;refine AG h (fun v26=>⟨dp v3 v9 v10 v11 v12 v13 v26 (v1.JAD.Objects.length:Int) (i21:Int) v1.JAD.Objects,Ur v1 v2 v7 v8⟩) ?_ ?_
    ·intro _ h;refine A6 h fun h=>?_;refine Ae h fun h=>?_;refine AD h (fun _=>CO) fun _ h=>?_;refine Ae h fun h=>?_;refine A6 h fun h=>?_;refine AD h (fun _=>Gp) fun _ h=>?_;exact AH h
    rintro v26 h;refine⟨_,e21,?_⟩;exact p25 _ _ wk h
   rintro v20 h;refine AG h (fun v27=>⟨X::X::X::yr 21 0::yr 4 0::yr 5 0::yi v3::yr 7 0::dd 133 (yb v27::dd 19 ([])),Ur v1 v2 v7 v8⟩) ?_ ?_
   ·intro _ h;refine A6 h fun h=>?_;refine A6 h fun h=>?_;refine A6 h fun h=>?_;refine A6 h fun h=>?_;refine A6 h fun h=>?_;refine A6 h fun h=>?_;refine AD h (fun _=>NU) fun _ h=>?_;exact AH h
   rintro v27 h;refine goC ?_;refine AP h ?_ ?_<;>intro h
   ·exact fin h
   refine⟨v1.LANs.length,X10 _,?_⟩;refine AG h (fun _=>⟨X::X::X::yr 21 0::yr 4 0::yr 5 0::yi v3::dd 154 ([]),nn 4 (yB (JAI.av v1)::yB (JAO.av v2)::nn 15 (yB (JAL.av v8)::nn 139 ([])))⟩) ?_ ?_
   ·intro _ h;revert h;refine AM 143 4 JAA.toD rfl (fun i28 _=>⟨X::X::X::yr 21 0::yr 4 0::yr 5 0::yi v3::yr 7 0::dd 135 (AV.d (D.l 4 JAA.toD v1.LANs)::yi (v1.LANs.length:Int)::yi (i28:Int)::dd 15 ([])),Ur v1 v2 v7 v8⟩) ?_ ?_ ?_
    ·exact wk
    ·rintro _ K29 h;refine goC ?_;refine Ax BV ?_;exact AH h
    rintro _ i28 x30 _ K29 b28 c28 e28 h p31;refine goC ?_;refine Ar (BO b28) ?_;refine goC ?_;refine⟨Aq (f:=JAA.toD) b28,JAA.toD x30,c28,rfl,?_⟩;refine AG h (fun v32=>⟨X::X::X::yr 21 0::yr 4 0::yr 5 0::yi v3::yr 7 0::dd 135 (AV.d (D.l 4 JAA.toD v1.LANs)::yi (v1.LANs.length:Int)::yi (i28:Int)::dd 12 (yb v32::X::X::[])),Ur v1 v2 v7 v8⟩) ?_ ?_
    ·intro _ h;refine AD h (fun _=>CO) fun _ h=>?_;refine A6 h fun h=>?_;refine AD h (fun _=>CO) fun _ h=>?_;exact AH h
    rintro v32 h;refine goC ?_;refine AP h ?_ ?_<;>intro h
    ·exact fin h
    refine⟨_,e28,?_⟩;exact p31 _ _ wk h
   rintro _ h;exact AH h
  rintro v6 h;refine⟨_,rfl,?_⟩;exact p5 _ _ wk h
 rintro _ h;refine AD h (fun _=>B9) fun _ h=>?_;exact fin h
theorem I2 {a0:JAG}{r:Bool}(h:FC a0=some r):yC wl 20 [AV.d (JAG.toD a0)] [] (.d (D.b r)) []:=by
 refine oK Tryz.f20 ⟨rfl,?_⟩;unfold FC at h;refine⟨a0.Communities.length,X10 _,?_⟩;refine⟨a0.JAH.length,X10 _,?_⟩;refine⟨_,rfl,?_⟩;refine⟨a0.Other.length,X10 _,?_⟩;refine⟨_,rfl,?_⟩;refine⟨a0.Path.length,X10 _,?_⟩;refine AG h (fun v1=>⟨X::yr 1 0::X::yi v1::dd 44 ([]),N::yB (JAG.av a0)::nn 46 ([])⟩) ?_ ?_
 ·intro _ h;revert h;refine AM 20 2 JAE.toD rfl (fun i2 v3=>⟨X::yr 1 0::X::yi v3::dd 16 (AV.d (D.l 2 JAE.toD a0.Path)::yi (a0.Path.length:Int)::yi (i2:Int)::dd 25 ([])),N::yB (JAG.av a0)::nn 46 ([])⟩) ?_ ?_ ?_
  ·exact wk
  ·rintro v3 K4 h;refine goC ?_;refine Ax BV ?_;exact AH h
  rintro _ i2 x5 v3 K4 b2 c2 e2 h p6;refine goC ?_;refine Ar (BO b2) ?_;refine goC ?_;refine⟨Aq (f:=JAE.toD) b2,JAE.toD x5,c2,rfl,?_⟩;refine⟨x5.ASNs.length,X10 _,?_⟩;refine⟨_,rfl,?_⟩;refine⟨_,rfl,?_⟩;refine⟨_,e2,?_⟩;exact p6 _ _ wk h
 rintro v1 h;refine⟨a0.Other.length,X10 _,?_⟩;refine AG h (fun v7=>⟨X::X::X::yi v7::dd 44 ([]),nn 48 ([])⟩) ?_ ?_
 ·intro _ h;revert h;refine AM 34 3 JAJ.toD rfl (fun i8 v9=>⟨X::X::X::yi v9::dd 30 (AV.d (D.l 3 JAJ.toD a0.Other)::yi (a0.Other.length:Int)::yi (i8:Int)::dd 11 ([])),nn 48 ([])⟩) ?_ ?_ ?_
  ·exact wk
  ·rintro v9 K10 h;refine goC ?_;refine Ax BV ?_;exact AH h
  rintro _ i8 x11 v9 K10 b8 c8 e8 h p12;refine goC ?_;refine Ar (BO b8) ?_;refine goC ?_;refine⟨Aq (f:=JAJ.toD) b8,JAJ.toD x11,c8,rfl,?_⟩;refine⟨x11.Data.length,X10 _,?_⟩;refine⟨_,rfl,?_⟩;refine⟨_,e8,?_⟩;exact p12 _ _ wk h
 rintro v7 h;exact fin h
theorem KY {a0:Bool}{r:Int}(h:EB a0=some r):yC wl 63 [AV.d (D.b a0)] [] (.d (D.i r)) []:=by
 refine oK Tryz.f63 ⟨rfl,?_⟩;unfold EB at h;(conv=>whnf);refine .go ?_;refine AP h ?_ ?_<;>intro h
 ·exact fin h
 exact fin h
theorem IW {a0:List JAB}{r:(List JAB)}(h:EA a0=some r):yC wl 33 [AV.d (D.l 6 JAB.toD a0)] [] (.d (D.l 6 JAB.toD r)) []:=by
 refine oK Tryz.f33 ⟨rfl,?_⟩;unfold EA at h;refine⟨a0.length,X10 _,?_⟩;refine AG h (fun v1=>⟨X::X::X::yO 3 JAB.toD v1::dd 20 ([]),N::N::N::yR 57 6 JAB.toD v1::nn 20 ([])⟩) ?_ ?_
 ·intro _ h;revert h;refine AM 6 6 JAB.toD rfl (fun i2 v3=>⟨X::X::X::yO 3 JAB.toD v3::X::X::y8 a0::yi (a0.length:Int)::yi (i2:Int)::dd 15 ([]),N::N::N::yR 57 6 JAB.toD v3::nn 20 ([])⟩) ?_ ?_ ?_
  ·exact wk
  ·rintro v3 K4 h;refine goC ?_;refine Ax BV ?_;exact AH h
  rintro _ i2 x5 v3 K4 b2 c2 e2 h p6;refine goC ?_;refine Ar (BO b2) ?_;refine goC ?_;refine⟨Aq (f:=JAB.toD) b2,JAB.toD x5,c2,rfl,?_⟩;refine AD h (fun _=>KY) fun _ h=>?_;refine⟨rfl,?_⟩;refine apO (f:=JAB.toD) h rfl fun _ h=>?_;refine⟨_,e2,?_⟩;exact p6 _ _ wk h
 rintro v1 h;(conv=>whnf);refine .inl ?_;(conv=>whnf);refine .inl ?_;refine⟨rfl,?_⟩;exact fin h
theorem UZ {a0:List JAC}{a1:JAC}{r:Bool}(h:HA a0 a1=some r):yC wl 73 [AV.d (D.l 2 JAC.toD a0),AV.d (JAC.toD a1)] [] (.d (D.b r)) []:=by
 refine oK Tryz.f73 ⟨rfl,?_⟩;unfold HA at h;refine⟨a0.length,X10 _,?_⟩;refine AG h (fun _=>⟨dd 17 ([]),nn 17 ([])⟩) ?_ ?_
 ·intro _ h;revert h;refine AM 7 2 JAC.toD rfl (fun i1 _=>⟨X::X::X::yr 3 0::X::X::X::y2 a0::yi (a0.length:Int)::yi (i1:Int)::dd 7 ([]),N::N::N::yB (JAC.av a1)::nn 13 ([])⟩) ?_ ?_ ?_
  ·exact wk
  ·rintro _ K2 h;refine goC ?_;refine Ax BV ?_;exact AH h
  rintro _ i1 x3 _ K2 b1 c1 e1 h p4;refine goC ?_;refine Ar (BO b1) ?_;refine goC ?_;refine⟨Aq (f:=JAC.toD) b1,JAC.toD x3,c1,rfl,?_⟩;refine goC ?_;refine AP h ?_ ?_<;>intro h
  ·exact fin h
  refine⟨_,e1,?_⟩;exact p4 _ _ wk h
 rintro _ h;exact fin h
theorem HI {a0:JAG}{r:Bool}(h:FT a0=some r):yC wl 34 [AV.d (JAG.toD a0)] [] (.d (D.b r)) []:=by
 refine oK Tryz.f34 ⟨rfl,?_⟩;unfold FT at h;(conv=>whnf);refine AD h (fun _=>UZ) fun _ h=>?_;exact fin h
theorem FO {a0:JAA}{r:Bool}(h:BL a0=some r):yC wl 62 [AV.d (JAA.toD a0)] [] (.d (D.b r)) []:=by
 refine oK Tryz.f62 ⟨rfl,?_⟩;unfold BL at h;(conv=>whnf);refine AD h (fun _=>L8) ?_;rintro⟨_,_⟩ h;refine AG h (fun v1=>⟨X::X::yb v1::dd 17 ([]),nn 20 ([])⟩) ?_ ?_
 ·intro _ h;exact selC h
 rintro v1 h;exact fin h
end Go.AX.Q24
end
section
namespace Go.AX.Q24
open Go Go.AX
def Addr.wfU (x:Addr):Prop:=True/\True/\True/\True
def JAA.wfU (x:JAA):Prop:=Addr.wfU x.Addr/\I64 x.Len/\True
def JAE.wfU (x:JAE):Prop:=True/\(x.ASNs.length<=maxLen/\x.ASNs.length<=1048576/\∀y0∈x.ASNs,I64 y0)/\True
def JAC.wfU (x:JAC):Prop:=I64 x.A/\I64 x.B/\True
def JAH.wfU (x:JAH):Prop:=I64 x.A/\I64 x.B/\I64 x.C/\True
def JAJ.wfU (x:JAJ):Prop:=I64 x.Flags/\I64 x.Type_/\(x.Data.length<=maxLen/\x.Data.length<=1048576/\∀y0∈x.Data,True)/\True
def JAG.wfU (x:JAG):Prop:=I64 x.Origin/\(x.Path.length<=maxLen/\x.Path.length<=1048576/\∀y0∈x.Path,JAE.wfU y0)/\Addr.wfU x.Next/\I64 x.MED/\I64 x.Pref/\I64 x.OTC/\(x.Communities.length<=maxLen/\x.Communities.length<=1048576/\∀y0∈x.Communities,JAC.wfU y0)/\(x.JAH.length<=maxLen/\x.JAH.length<=1048576/\∀y0∈x.JAH,JAH.wfU y0)/\(x.Other.length<=maxLen/\x.Other.length<=1048576/\∀y0∈x.Other,JAJ.wfU y0)/\True
def JAK.wfU (x:JAK):Prop:=JAA.wfU x.JAA/\I64 x.From/\JAG.wfU x.JAG/\True
theorem bF {p:List JAE}(h :∀s∈p,s.ASNs.length<=1048576):tot p<=1048576*p.length:=by
 induction p with
 | nil=>exact Nat.zero_le _
 | cons s t ih=>
  have:=h s (by simp)
  have:=ih fun x hx=>h x (X19 _ hx)
  rw[HV,X12,Nat.mul_succ];omega
theorem JAG.wfU.smt {a:JAG}(h:JAG.wfU a):SmT a:=by
 obtain⟨_,hp,_,_,_,_,hc,hl,ho,_⟩:=h
 have h1:=bF (p:=a.Path) fun s hs=>(hp.2.2 s hs).2.1.2.1
 have h2:=hp.2.1
 have h3:=hc.2.1
 have h4:=hl.2.1
 have h5:=ho.2.1
 exact⟨by omega,by omega,by omega,by omega,by omega,fun u hu=>by have:=(ho.2.2 u hu).2.2.1.2.1;omega⟩
theorem aZ (r:JAK)(l:List Int)(hr:JAK.wfU r)(h:l.length<=maxLen/\l.length<=1048576/\∀a∈l,I64 a):Cc r l=some true:=cP hr.2.2.1.smt h.1
theorem cT (r:JAK)(l:List Int)(hr:JAK.wfU r)(h:l.length<=maxLen/\l.length<=1048576/\∀a∈l,I64 a):DC r l=some true:=first hr.2.2.1.smt h.1
end Go.AX.Q24
end
section
namespace Go.AX.Q24
open Go Go.AX Go.Proofs
variable {wl:Prop}
theorem RD {a0:Int}{r:Int}(h:FG a0=some r):yC wl 161 [AV.d (D.i a0)] [] (.d (D.i r)) []:=by
 refine oK Tryz.f161 ⟨rfl,?_⟩;unfold FG at h;(conv=>whnf);refine .go ?_;refine AG h (fun v1=>⟨X::X::X::yi a0::yb v1::dd 10 ([]),nn 15 ([])⟩) ?_ ?_
 ·intro _ h;refine A6 h fun h=>?_;refine AG h (fun v2=>⟨X::X::X::yi a0::yb v2::dd 10 ([]),nn 15 ([])⟩) ?_ ?_
  ·intro _ h;refine A6 h fun h=>?_;refine AG h (fun v3=>⟨X::X::X::yi a0::yb v3::dd 10 ([]),nn 15 ([])⟩) ?_ ?_
   ·intro _ h;exact selC h
   rintro v3 h;exact AH h
  rintro v2 h;exact AH h
 rintro v1 h;refine goC ?_;refine AP h ?_ ?_<;>intro h
 ·exact fin h
 refine goC ?_;refine AP h ?_ ?_<;>intro h
 ·exact fin h
 refine AG h (fun v4=>⟨dd 11 (yb v4::X::X::X::[]),nn 15 ([])⟩) ?_ ?_
 ·intro _ h;refine A6 h fun h=>?_;refine AG h (fun v5=>⟨dd 11 (yb v5::X::X::X::[]),nn 15 ([])⟩) ?_ ?_
  ·intro _ h;exact selC h
  rintro v5 h;exact AH h
 rintro v4 h;refine goC ?_;refine AP h ?_ ?_<;>intro h
 ·exact fin h
 exact fin h
theorem OX {a0:Int}{r:Bool}(h:Da a0=some r):yC wl 131 [AV.d (D.i a0)] [] (.d (D.b r)) []:=by
 refine oK Tryz.f131 ⟨rfl,?_⟩;unfold Da at h;(conv=>whnf);refine AG h (fun v1=>⟨X::X::yb v1::dd 11 ([]),nn 14 ([])⟩) ?_ ?_
 ·intro _ h;refine AD h (fun _=>RD) fun _ h=>?_;refine Ae h fun h=>?_;exact selC h
 rintro v1 h;exact fin h
theorem R9 {a0:JAC}{r:Bool}(h:FA a0=some r):yC wl 162 [AV.d (JAC.toD a0)] [] (.d (D.b r)) []:=by
 refine oK Tryz.f162 ⟨rfl,?_⟩;unfold FA at h;(conv=>whnf);refine AG h (fun v1=>⟨X::X::yb v1::dd 18 ([]),nn 21 ([])⟩) ?_ ?_
 ·intro _ h;refine Ae h fun h=>?_;refine Ae h fun h=>?_;exact selC h
 rintro v1 h;exact fin h
theorem SG {a0:JAC}{a1:JAC}{r:Bool}(h:F7 a0 a1=some r):yC wl 163 [AV.d (JAC.toD a0),AV.d (JAC.toD a1)] [] (.d (D.b r)) []:=by
 refine oK Tryz.f163 ⟨rfl,?_⟩;unfold F7 at h;(conv=>whnf);refine AG h (fun v1=>⟨dd 4 (yb v1::dd 19 ([])),nn 24 ([])⟩) ?_ ?_
 ·intro _ h;refine A6 h fun h=>?_;exact selC h
 rintro v1 h;exact fin h
theorem K1 {a0:List JAC}{r:Bool}(h:GH a0=some r):yC wl 132 [AV.d (D.l 2 JAC.toD a0)] [] (.d (D.b r)) []:=by
 refine oK Tryz.f132 ⟨rfl,?_⟩;unfold GH at h;refine⟨a0.length,X10 _,?_⟩;refine AG h (fun _=>⟨y2 a0::dd 32 ([]),nn 33 ([])⟩) ?_ ?_
 ·intro _ h;revert h;refine AM 5 2 JAC.toD rfl (fun i1 _=>⟨y2 a0::dd 4 (y2 a0::yi (a0.length:Int)::yi (i1:Int)::dd 25 ([])),nn 33 ([])⟩) ?_ ?_ ?_
  ·exact wk
  ·rintro _ K2 h;refine goC ?_;refine Ax BV ?_;exact AH h
  rintro _ i1 x3 _ K2 b1 c1 e1 h p4;refine goC ?_;refine Ar (BO b1) ?_;refine goC ?_;refine⟨Aq (f:=JAC.toD) b1,JAC.toD x3,c1,rfl,?_⟩;refine AG h (fun v5=>⟨y2 a0::dd 4 (y2 a0::yi (a0.length:Int)::yi (i1:Int)::dd 20 (yb v5::dd 4 ([]))),nn 33 ([])⟩) ?_ ?_
  ·intro _ h;refine .inl (dO ?_);refine Ah h (fun _=>R9) (fun _=>rfl) fun _ h=>?_;refine AP h ?_ ?_<;>intro h
   ·refine cO ?_;exact AH h
   refine AP h ?_ ?_<;>intro h
   ·refine⟨_,rfl,?_⟩;(conv=>whnf);refine Cd h (fun _=>rfl) fun _ h=>?_;refine Ah h (fun _=>SG) (fun _=>rfl) fun _ h=>?_;refine cO ?_;exact AH h
   refine cO ?_;exact AH h
  rintro v5 h;refine goC ?_;refine AP h ?_ ?_<;>intro h
  ·exact fin h
  refine⟨_,e1,?_⟩;exact p4 _ _ wk h
 rintro _ h;refine⟨a0.length,X10 _,?_⟩;exact fin h
theorem Lt {a0:JAH}{r:Bool}(h:CZ a0=some r):yC wl 164 [AV.d (JAH.toD a0)] [] (.d (D.b r)) []:=by
 refine oK Tryz.f164 ⟨rfl,?_⟩;unfold CZ at h;(conv=>whnf);refine AG h (fun v1=>⟨X::X::yb v1::dd 28 ([]),nn 31 ([])⟩) ?_ ?_
 ·intro _ h;refine Ae h fun h=>?_;refine Ae h fun h=>?_;refine Ae h fun h=>?_;refine Ae h fun h=>?_;exact selC h
 rintro v1 h;exact fin h
theorem M4 {a0:JAH}{a1:JAH}{r:Bool}(h:DG a0 a1=some r):yC wl 165 [AV.d (JAH.toD a0),AV.d (JAH.toD a1)] [] (.d (D.b r)) []:=by
 refine oK Tryz.f165 ⟨rfl,?_⟩;unfold DG at h;(conv=>whnf);refine AG h (fun v1=>⟨dd 4 (yb v1::dd 33 ([])),nn 38 ([])⟩) ?_ ?_
 ·intro _ h;refine A6 h fun h=>?_;refine Ae h fun h=>?_;refine A6 h fun h=>?_;exact selC h
 rintro v1 h;exact fin h
theorem Ht {a0:List JAH}{r:Bool}(h:Dj a0=some r):yC wl 133 [AV.d (D.l 3 JAH.toD a0)] [] (.d (D.b r)) []:=by
 refine oK Tryz.f133 ⟨rfl,?_⟩;unfold Dj at h;refine⟨a0.length,X10 _,?_⟩;refine AG h (fun _=>⟨y3 a0::dd 32 ([]),nn 33 ([])⟩) ?_ ?_
 ·intro _ h;revert h;refine AM 5 3 JAH.toD rfl (fun i1 _=>⟨y3 a0::dd 4 (y3 a0::yi (a0.length:Int)::yi (i1:Int)::dd 25 ([])),nn 33 ([])⟩) ?_ ?_ ?_
  ·exact wk
  ·rintro _ K2 h;refine goC ?_;refine Ax BV ?_;exact AH h
  rintro _ i1 x3 _ K2 b1 c1 e1 h p4;refine goC ?_;refine Ar (BO b1) ?_;refine goC ?_;refine⟨Aq (f:=JAH.toD) b1,JAH.toD x3,c1,rfl,?_⟩;refine AG h (fun v5=>⟨y3 a0::dd 4 (y3 a0::yi (a0.length:Int)::yi (i1:Int)::dd 20 (yb v5::dd 4 ([]))),nn 33 ([])⟩) ?_ ?_
  ·intro _ h;refine .inl (dO ?_);refine Ah h (fun _=>Lt) (fun _=>rfl) fun _ h=>?_;refine AP h ?_ ?_<;>intro h
   ·refine cO ?_;exact AH h
   refine AP h ?_ ?_<;>intro h
   ·refine⟨_,rfl,?_⟩;(conv=>whnf);refine Cd h (fun _=>rfl) fun _ h=>?_;refine Ah h (fun _=>M4) (fun _=>rfl) fun _ h=>?_;refine cO ?_;exact AH h
   refine cO ?_;exact AH h
  rintro v5 h;refine goC ?_;refine AP h ?_ ?_<;>intro h
  ·exact fin h
  refine⟨_,e1,?_⟩;exact p4 _ _ wk h
 rintro _ h;refine⟨a0.length,X10 _,?_⟩;exact fin h
theorem SA {a0:JAG}{r:Bool}(h:HM a0=some r):yC wl 80 [AV.d (JAG.toD a0)] [] (.d (D.b r)) []:=by
 refine oK Tryz.f80 ⟨rfl,?_⟩;unfold HM at h;refine⟨a0.Other.length,X10 _,?_⟩;refine AG h (fun _=>⟨X::yr 1 0::dd 122 ([]),N::yB (JAG.av a0)::nn 122 ([])⟩) ?_ ?_
 ·intro _ h;revert h;refine AM 6 3 JAJ.toD rfl (fun i1 _=>⟨X::yr 1 0::dd 4 (AV.d (D.l 3 JAJ.toD a0.Other)::yi (a0.Other.length:Int)::yi (i1:Int)::dd 115 ([])),N::yB (JAG.av a0)::nn 122 ([])⟩) ?_ ?_ ?_
  ·exact wk
  ·rintro _ K2 h;refine goC ?_;refine Ax BV ?_;exact AH h
  rintro _ i1 x3 _ K2 b1 c1 e1 h p4;refine goC ?_;refine Ar (BO b1) ?_;refine goC ?_;refine⟨Aq (f:=JAJ.toD) b1,JAJ.toD x3,c1,rfl,?_⟩;refine AG h (fun v5=>⟨X::yr 1 0::dd 4 (AV.d (D.l 3 JAJ.toD a0.Other)::yi (a0.Other.length:Int)::yi (i1:Int)::dd 44 (yb v5::dd 70 ([]))),N::yB (JAG.av a0)::nn 122 ([])⟩) ?_ ?_
  ·intro _ h;refine .inl (dO ?_);refine AP h ?_ ?_<;>intro h
   ·refine cO ?_;exact AH h
   refine AP h ?_ ?_<;>intro h
   ·refine cO ?_;exact AH h
   refine Ah h (fun _=>OX) (fun _=>rfl) fun _ h=>?_;refine AP h ?_ ?_<;>intro h
   ·refine cO ?_;exact AH h
   refine AP h ?_ ?_<;>intro h
   ·refine cO ?_;exact AH h
   refine⟨x3.Data.length,X10 _,?_⟩;refine AP h ?_ ?_<;>intro h
   ·refine cO ?_;exact AH h
   refine AP h ?_ ?_<;>intro h
   ·refine⟨_,rfl,?_⟩;(conv=>whnf);refine Cd h (fun _=>rfl) fun _ h=>?_;refine cO ?_;exact AH h
   refine cO ?_;exact AH h
  rintro v5 h;refine goC ?_;refine AP h ?_ ?_<;>intro h
  ·exact fin h
  refine⟨_,e1,?_⟩;exact p4 _ _ wk h
 rintro _ h;refine AG h (fun v6=>⟨X::X::yb v6::dd 121 ([]),nn 124 ([])⟩) ?_ ?_
 ·intro _ h;refine Ae h fun h=>?_;refine Ae h fun h=>?_;refine AD h (fun _=>IM) fun _ h=>?_;refine Ae h fun h=>?_;refine AD h (fun _=>Gh) fun _ h=>?_;refine Ae h fun h=>?_;refine Ae h fun h=>?_;refine Ae h fun h=>?_;refine Ae h fun h=>?_;refine Ae h fun h=>?_;refine AP h ?_ ?_<;>intro h
  ·refine AD h (fun _=>K1) fun _ h=>?_;refine Ae h fun h=>?_;refine AD h (fun _=>Ht) fun _ h=>?_;refine Ae h fun h=>?_;refine⟨a0.Other.length,X10 _,?_⟩;exact AH h
  refine Ae h fun h=>?_;refine Ae h fun h=>?_;refine AD h (fun _=>K1) fun _ h=>?_;refine Ae h fun h=>?_;refine AD h (fun _=>Ht) fun _ h=>?_;refine Ae h fun h=>?_;refine⟨a0.Other.length,X10 _,?_⟩;exact AH h
 rintro v6 h;exact fin h
theorem UO {a0:JAK}{r:Bool}(h:JH a0=some r):yC wl 43 [AV.d (JAK.toD a0)] [] (.d (D.b r)) []:=by
 refine oK Tryz.f43 ⟨rfl,?_⟩;unfold JH at h;(conv=>whnf);refine AG h (fun v1=>⟨X::X::yb v1::dd 39 ([]),nn 42 ([])⟩) ?_ ?_
 ·intro _ h;refine AD h (fun _=>FO) fun _ h=>?_;refine A6 h fun h=>?_;refine AD h (fun _=>SA) fun _ h=>?_;refine A6 h fun h=>?_;refine A6 h fun h=>?_;refine⟨a0.JAG.Path.length,X10 _,?_⟩;refine A6 h fun h=>?_;exact selC h
 rintro v1 h;exact fin h
theorem QF {a0:List JAE}{r:Int}(h:Hz a0=some r):yC wl 81 [AV.d (D.l 2 JAE.toD a0)] [] (.d (D.i r)) []:=by
 refine oK Tryz.f81 ⟨rfl,?_⟩;unfold Hz at h;refine⟨a0.length,X10 _,?_⟩;refine AG h (fun v1=>⟨X::X::X::yi v1::dd 19 ([]),nn 23 ([])⟩) ?_ ?_
 ·intro _ h;revert h;refine AM 6 2 JAE.toD rfl (fun i2 v3=>⟨bD v3 (a0.length:Int) (i2:Int) a0,nn 23 ([])⟩) ?_ ?_ ?_
  ·exact wk
  ·rintro v3 K4 h;refine goC ?_;refine Ax BV ?_;exact AH h
  rintro _ i2 x5 v3 K4 b2 c2 e2 h p6;refine goC ?_;refine Ar (BO b2) ?_;refine goC ?_;refine⟨Aq (f:=JAE.toD) b2,JAE.toD x5,c2,rfl,?_⟩;refine AG h (fun v7=>⟨bD v7 (a0.length:Int) (i2:Int) a0,nn 23 ([])⟩) ?_ ?_
  ·intro _ h;refine AP h ?_ ?_<;>intro h
   ·refine⟨_,rfl,?_⟩;exact AH h
   refine⟨x5.ASNs.length,X10 _,?_⟩;refine⟨_,rfl,?_⟩;exact AH h
  rintro v7 h;refine⟨_,e2,?_⟩;exact p6 _ _ wk h
 rintro v1 h;exact fin h
theorem N9 {a0:List Int}{a1:Int}{r:Bool}(h:GV a0 a1=some r):yC wl 82 [AV.d (D.l 1 D.i a0),AV.d (D.i a1)] [] (.d (D.b r)) []:=by
 refine oK Tryz.f82 ⟨rfl,?_⟩;unfold GV at h;refine⟨a0.length,X10 _,?_⟩;refine AG h (fun _=>⟨dd 17 ([]),nn 17 ([])⟩) ?_ ?_
 ·intro _ h;revert h;refine AM 7 1 D.i rfl (fun i1 _=>⟨X::yi a1::dd 5 (y0 a0::yi (a0.length:Int)::yi (i1:Int)::dd 7 ([])),nn 17 ([])⟩) ?_ ?_ ?_
  ·exact wk
  ·rintro _ K2 h;refine goC ?_;refine Ax BV ?_;exact AH h
  rintro _ i1 x3 _ K2 b1 c1 e1 h p4;refine goC ?_;refine Ar (BO b1) ?_;refine goC ?_;refine⟨Aq (f:=D.i) b1,D.i x3,c1,rfl,?_⟩;refine goC ?_;refine AP h ?_ ?_<;>intro h
  ·exact fin h
  refine⟨_,e1,?_⟩;exact p4 _ _ wk h
 rintro _ h;exact fin h
theorem Oe {a0:Int}{r:Int}(h:HG a0=some r):yC wl 166 [AV.d (D.i a0)] [] (.d (D.i r)) []:=by
 refine oK Tryz.f166 ⟨rfl,?_⟩;unfold HG at h;(conv=>whnf);refine .go ?_;refine goC ?_;refine AP h ?_ ?_<;>intro h
 ·exact fin h
 refine goC ?_;refine AP h ?_ ?_<;>intro h
 ·exact fin h
 refine goC ?_;refine AP h ?_ ?_<;>intro h
 ·exact fin h
 refine goC ?_;refine AP h ?_ ?_<;>intro h
 ·exact fin h
 refine goC ?_;refine AP h ?_ ?_<;>intro h
 ·exact fin h
 exact fin h
theorem Tz {a0:Int}{a1:Int}{r:Bool}(h:JO a0 a1=some r):yC wl 134 [AV.d (D.i a0),AV.d (D.i a1)] [] (.d (D.b r)) []:=by
 refine oK Tryz.f134 ⟨rfl,?_⟩;unfold JO at h;(conv=>whnf);refine AG h (fun v1=>⟨dd 4 (yb v1::dd 11 ([])),nn 16 ([])⟩) ?_ ?_
 ·intro _ h;refine AD h (fun _=>Oe) fun _ h=>?_;refine A6 h fun h=>?_;exact selC h
 rintro v1 h;exact fin h
theorem PH {a0:Int}{a1:Int}{a2:JAG}{r:JAG×Int}(h:F3 a0 a1 a2=some r):yC wl 83 [AV.d (D.i a0),AV.d (D.i a1),AV.d (JAG.toD a2)] [] (.tup [.d (JAG.toD r.1),.d (D.i r.2)]) []:=by
 refine oK Tryz.f83 ⟨rfl,?_⟩;unfold F3 at h;(conv=>whnf);refine AD h (fun _=>Tz) fun _ h=>?_;refine goC ?_;refine AP h ?_ ?_<;>intro h
 ·exact fin h
 refine AG h (fun v1=>⟨yi a0::yi a1::X::X::X::yr 5 0::yr 6 0::X::yb v1::dd 41 ([]),nn 5 (yB (JAG.av a2)::yB JAG.zv::nn 43 ([]))⟩) ?_ ?_
 ·intro _ h;exact selC h
 rintro v1 h;refine AG h (fun v2=>⟨yi a0::yi a1::X::X::X::yr 5 0::yr 6 0::X::yb v1::dd 26 (yb v2::dd 14 ([])),nn 5 (yB (JAG.av a2)::yB JAG.zv::nn 43 ([]))⟩) ?_ ?_
 ·intro _ h;refine Ae h fun h=>?_;refine Ae h fun h=>?_;exact selC h
 rintro v2 h;refine goC ?_;refine AP h ?_ ?_<;>intro h
 ·exact fin h
 refine AG h (fun v3=>⟨X::yi a1::X::X::X::yr 5 0::yr 6 0::dd 39 (yb v3::X::X::X::[]),nn 5 (yB (JAG.av a2)::yB JAG.zv::nn 43 ([]))⟩) ?_ ?_
 ·intro _ h;refine Ae h fun h=>?_;exact selC h
 rintro v3 h;refine AG h (fun v4=>⟨dd 5 (yr 5 0::yr 6 0::dd 43 ([])),nn 5 (zS1 v4 a2.Origin a2.Next.V6 a2.Next.Hi a2.Next.Lo a2.MED a2.Pref a2.Path a2.Communities a2.JAH a2.Other::yB JAG.zv::nn 43 ([]))⟩) ?_ ?_
 ·intro _ h;exact selC h
 rintro v4 h;exact fin h
end Go.AX.Q24
end
