/-
  Texts of one proof, packed.
-/
import Derived.Test.YtbohbnpaadcfmaaGreatDoorKB5
import Derived.Test.YtbohbnpaadcfmaaGreatDoorKB8
import Derived.Test.YtbohbnpaadcfmaaGreatDoorKB9
set_option linter.all false
set_option maxRecDepth 100000
set_option maxHeartbeats 4000000
open List renaming length_map→X10,length_append→X11,length_drop→X17,length_take→X18,length_replicate→X20,length_set→X21
open Nat renaming le_of_ble_eq_true→X29
section
namespace Go.AX.Q19
open Go Go.AX Go.Proofs
variable {wl:Prop}
theorem L0 {a0:List UInt8}{r:Int}(h:Gs a0=some r):yC wl 72 [AV.d (D.l 1 D.u8 a0)] [] (.d (D.i r)) []:=by
 refine oK Tryz.f72 ⟨rfl,?_⟩;unfold Gs at h;(conv=>whnf);refine .inl (dO ?_);obtain⟨v1,g2,h⟩:=AB h;refine⟨Ah (f:=D.u8) g2,D.u8 v1,Aj (f:=D.u8) g2,rfl,?_⟩;refine⟨_,FO v1,?_⟩;refine⟨by decide,_,rfl,?_⟩;obtain⟨v3,g4,h⟩:=AB h;refine⟨Ah (f:=D.u8) g4,D.u8 v3,Aj (f:=D.u8) g4,rfl,?_⟩;refine⟨_,FO v3,?_⟩;refine⟨_,rfl,?_⟩;(conv=>whnf);refine cO ?_;cases h;exact⟨rfl,rfl⟩
theorem Lx {a0:List UInt8}{r:(List UInt8)×(List UInt8)×Bool}(h:Gx a0=some r):yC wl 108 [AV.d (D.l 1 D.u8 a0)] [] (.tup [.d (D.l 1 D.u8 r.1),.d (D.l 1 D.u8 r.2.1),.d (D.b r.2.2)]) []:=by
 refine oK Tryz.f108 ⟨rfl,?_⟩;unfold Gx at h;revert h;refine AG (fun v1=>⟨y3 a0::dd 15 (yb v1::dd 9 ([])),nn 26 ([])⟩) ?_ ?_
 ·intro k2 h;refine⟨a0.length,X10 _,?_⟩;refine sJ h (fun h=>AA wk h) fun h=>?_;refine⟨a0.length,X10 _,?_⟩;refine⟨_,rfl,?_⟩;obtain⟨v3,g4,h⟩:=AB h;refine⟨_,_,some [],L0 g4,?_⟩;exact AA wk h
 rintro v1 h;(conv=>whnf);refine .go ?_;refine sJ h ?_ ?_<;>intro h
 ·(conv=>whnf);refine .inl ?_;refine⟨rfl,?_⟩;(conv=>whnf);refine .inl ?_;refine⟨rfl,?_⟩;cases h;exact⟨rfl,rfl⟩
 obtain⟨v5,g6,h⟩:=AB h;refine⟨_,_,some [],L0 g6,?_⟩;refine⟨_,rfl,?_⟩;(conv=>whnf);refine .inl (dO ?_);obtain⟨v7,g8,h⟩:=AB h;refine⟨Fe (f:=D.u8) g8,_,EL (f:=D.u8) g8,?_⟩;obtain⟨v9,g10,h⟩:=AB h;refine⟨Gj (f:=D.u8) g10,_,Gf (f:=D.u8) g10,?_⟩;(conv=>whnf);refine cO ?_;cases h;exact⟨rfl,rfl⟩
theorem MC {a0:List UInt8}{r:(List JAA)×Int}(h:Ef a0=some r):yC wl 109 [AV.d (D.l 1 D.u8 a0)] [] (.tup [.d (D.l 3 JAA.toD r.1),.d (D.i r.2)]) []:=by
 refine oK Tryz.f109 ⟨rfl,?_⟩;unfold Ef at h;revert h;refine AG (fun v1=>⟨dd 4 (yO 4 JAA.toD v1::dd 53 ([])),nn 4 (yR 88 3 JAA.toD v1::nn 53 ([]))⟩) ?_ ?_
 ·intro k2 h;revert h;refine Aw (fun (v3,v4)=>⟨y3 v3::X::X::X::yO 4 JAA.toD v4::dd 53 ([]),nn 4 (yR 88 3 JAA.toD v4::nn 53 ([]))⟩) ?_ ?_
  ·exact wk
  rintro next5 ⟨v3,v4⟩ K6 h hK7;refine⟨v3.length,X10 _,?_⟩;(conv=>whnf);refine .go ?_;refine sJ h (fun h=>?_) fun h=>AA wk h;(conv=>whnf);refine .go ?_;obtain⟨v8,g9,h⟩:=AB h;refine⟨Ah (f:=D.u8) g9,D.u8 v8,Aj (f:=D.u8) g9,rfl,?_⟩;refine⟨_,As _,?_⟩;revert h;refine AG (fun v10=>⟨y3 v3::X::X::X::yO 4 JAA.toD v4::yi v10::dd 52 ([]),nn 4 (yR 88 3 JAA.toD v4::nn 53 ([]))⟩) ?_ ?_
  ·intro k11 h;exact sJ h (fun h=>AA wk h) fun h=>AA wk h
  rintro v10 h;revert h;refine AG (fun v12=>⟨y3 v3::X::X::X::yO 4 JAA.toD v4::yi v10::dd 23 (yb v12::dd 28 ([])),nn 4 (yR 88 3 JAA.toD v4::nn 53 ([]))⟩) ?_ ?_
  ·intro k13 h;refine⟨v3.length,X10 _,?_⟩;refine sJ h (fun h=>AA wk h) fun h=>?_;refine⟨v3.length,X10 _,?_⟩;refine⟨_,rfl,?_⟩;obtain⟨v14,g15,h⟩:=AB h;refine⟨Fe (f:=D.u8) g15,_,EL (f:=D.u8) g15,?_⟩;obtain⟨v16,g17,h⟩:=AB h;refine⟨_,_,some [],CZ g17,?_⟩;exact AA wk h
  rintro v12 h;(conv=>whnf);refine .go ?_;refine sJ h ?_ ?_<;>intro h
  ·(conv=>whnf);refine .inl ?_;refine⟨rfl,?_⟩;cases h;exact⟨rfl,rfl⟩
  obtain⟨v18,g19,h⟩:=AB h;refine⟨Fe (f:=D.u8) g19,_,EL (f:=D.u8) g19,?_⟩;obtain⟨v20,g21,h⟩:=AB h;refine⟨_,_,some [],CZ g21,?_⟩;refine⟨_,rfl,?_⟩;(conv=>whnf);refine .inl (dO ?_);obtain⟨v22,g23,h⟩:=AB h;refine⟨Ah (f:=D.u8) g23,D.u8 v22,Aj (f:=D.u8) g23,rfl,?_⟩;refine⟨_,As _,?_⟩;refine⟨_,FO (Aa ((BitVec.ofInt 8 (v22.toNat:Int) &&& BitVec.ofInt 8 224).toNat:Int)),?_⟩;obtain⟨v24,g25,h⟩:=AB h;refine⟨Ah (f:=D.u8) g25,D.u8 v24,Aj (f:=D.u8) g25,rfl,?_⟩;refine⟨_,FO v24,?_⟩;obtain⟨v26,g27,h⟩:=AB h;refine⟨Fe (f:=D.u8) g27,_,EL (f:=D.u8) g27,?_⟩;obtain⟨_,g28,h⟩:=AB h;refine⟨F2 (g:=D.u8) g28,?_⟩;(conv=>whnf);refine .inl ?_;refine⟨rfl,?_⟩;refine⟨rfl,?_⟩;obtain⟨v29,g30,h⟩:=AB h;refine⟨rfl,Ab (f:=JAA.toD) (g:=JAA.toD) g30,_,Ag (f:=JAA.toD) g30,?_⟩;(conv=>whnf);refine cO ?_;obtain⟨v31,g32,h⟩:=AB h;refine⟨Gj (f:=D.u8) g32,_,Gf (f:=D.u8) g32,?_⟩;exact hK7 _ _ wk h
 rintro v1 h;(conv=>whnf);refine .inl ?_;refine⟨rfl,?_⟩;cases h;exact⟨rfl,rfl⟩
theorem Qm {a0:Addr}{a1:Int}{r:JAE×Int}(h:HD a0 a1=some r):yC wl 146 [AV.d (Addr.toD a0),AV.d (D.i a1)] [] (.tup [.d (JAE.toD r.1),.d (D.i r.2)]) []:=by
 refine oK Tryz.f146 ⟨rfl,?_⟩;unfold HD at h;(conv=>whnf);refine .go ?_;obtain⟨v1,g2,h⟩:=AB h;refine⟨_,_,some [],G5 g2,?_⟩;(conv=>whnf);refine .go ?_;refine sJ h ?_ ?_<;>intro h
 ·cases h;exact⟨rfl,rfl⟩
 revert h;refine AG (fun v3=>⟨X::yi a1::yr 2 0::X::yr 4 0::dd 6 (yb v3::dd 14 ([])),N::N::yB (Addr.av a0)::N::yB JAE.zv::nn 21 ([])⟩) ?_ ?_
 ·intro k4 h;refine sJ h (fun h=>AA wk h) fun h=>?_;obtain⟨v5,g6,h⟩:=AB h;refine⟨_,_,some [],He g6,?_⟩;exact AA wk h
 rintro v3 h;(conv=>whnf);refine .go ?_;refine sJ h ?_ ?_<;>intro h
 ·cases h;exact⟨rfl,rfl⟩
 obtain⟨v7,g8,h⟩:=AB h;refine⟨_,_,some [],Ju g8,?_⟩;cases h;exact⟨rfl,rfl⟩
theorem Ea {a0:List UInt8}{a1:Bool}{r:(List JAE)×Bool}(h:B1 a0 a1=some r):yC wl 111 [AV.d (D.l 1 D.u8 a0),AV.d (D.b a1)] [] (.tup [.d (D.l 4 JAE.toD r.1),.d (D.b r.2)]) []:=by
 refine oK Tryz.f111 ⟨rfl,?_⟩;unfold B1 at h;revert h;refine AG (fun v1=>⟨y3 a0::dd 5 (yi v1::dd 58 ([])),nn 65 ([])⟩) ?_ ?_
 ·intro k2 h;exact sJ h (fun h=>AA wk h) fun h=>AA wk h
 rintro v1 h;revert h;refine AG (fun v3=>⟨dd 7 (yO 7 JAE.toD v3::dd 57 ([])),nn 7 (yR 41 4 JAE.toD v3::nn 57 ([]))⟩) ?_ ?_
 ·intro k4 h;revert h;refine Aw (fun (v5,v6)=>⟨y3 v5::dd 5 (yi v1::yO 7 JAE.toD v6::dd 57 ([])),nn 7 (yR 41 4 JAE.toD v6::nn 57 ([]))⟩) ?_ ?_
  ·exact wk
  rintro next7 ⟨v5,v6⟩ K8 h hK9;refine⟨v5.length,X10 _,?_⟩;(conv=>whnf);refine .go ?_;refine sJ h (fun h=>?_) fun h=>AA wk h;(conv=>whnf);refine .go ?_;obtain⟨v10,g11,h⟩:=AB h;refine⟨Ah (f:=D.u8) g11,D.u8 v10,Aj (f:=D.u8) g11,rfl,?_⟩;refine⟨_,FO v10,?_⟩;refine⟨_,rfl,?_⟩;refine⟨by decide,_,rfl,?_⟩;revert h;refine AG (fun v12=>⟨y3 v5::dd 5 (yi v1::yO 7 JAE.toD v6::yi (v10.toNat:Int)::AV.d (D.i (AN (Int.tdiv (AN ((v10.toNat:Int)+7)) 8)))::dd 25 (yb v12::dd 29 ([]))),nn 7 (yR 41 4 JAE.toD v6::nn 57 ([]))⟩) ?_ ?_
  ·intro k13 h;refine sJ h (fun h=>AA wk h) fun h=>?_;refine⟨v5.length,X10 _,?_⟩;refine⟨_,rfl,?_⟩;exact AA wk h
  rintro v12 h;(conv=>whnf);refine .go ?_;refine sJ h ?_ ?_<;>intro h
  ·(conv=>whnf);refine .inl ?_;refine⟨rfl,?_⟩;cases h;exact⟨rfl,rfl⟩
  refine⟨by decide,_,rfl,?_⟩;obtain⟨_,g14,h⟩:=AB h;refine⟨W4 g14 (X29 rfl),D.u8 (0:UInt8),rfl,(List.map D.u8 (List.replicate (Int.toNat (AN (Int.tdiv v1 8))) (0:UInt8))),List.map_replicate.symm,?_⟩;refine⟨_,rfl,?_⟩;obtain⟨v15,g16,h⟩:=AB h;refine⟨Fe (f:=D.u8) g16,_,EL (f:=D.u8) g16,?_⟩;refine⟨rfl,List.map D.u8 (cpy (List.replicate (Int.toNat (AN (Int.tdiv v1 8))) (0:UInt8)) 0 (List.replicate (Int.toNat (AN (Int.tdiv v1 8))) (0:UInt8)).length v15),eB,(min v15.length (List.replicate (Int.toNat (AN (Int.tdiv v1 8))) (0:UInt8)).length),db,?_⟩;refine⟨(by first | rfl | (simp only[X10];omega)|(simp only[cpy,X10,X21,X11,X18,X17,X20];omega)),?_⟩;obtain⟨⟨v17,v18⟩,g19,h⟩:=AB h;refine⟨_,_,none,Ge g19,?_⟩;obtain⟨⟨v20,v21⟩,g22,h⟩:=AB h;refine⟨_,_,some [],Qm g22,?_⟩;(conv=>whnf);refine .inl (dO ?_);refine⟨rfl,?_⟩;obtain⟨v23,g24,h⟩:=AB h;refine⟨rfl,Ab (f:=JAE.toD) (g:=JAE.toD) g24,_,Ag (f:=JAE.toD) g24,?_⟩;refine⟨_,rfl,?_⟩;obtain⟨v25,g26,h⟩:=AB h;refine⟨Gj (f:=D.u8) g26,_,Gf (f:=D.u8) g26,?_⟩;(conv=>whnf);refine cO ?_;exact hK9 _ _ wk h
 rintro v3 h;(conv=>whnf);refine .inl ?_;refine⟨rfl,?_⟩;cases h;exact⟨rfl,rfl⟩
theorem KF {a0:List UInt8}{a1:List UInt8}{r:Bool}(h:bytes_Equal a0 a1=some r):yC wl 71 [AV.d (D.l 1 D.u8 a0),AV.d (D.l 1 D.u8 a1)] [] (.d (D.b r)) []:=by
 refine oK Tryz.f71 ⟨rfl,?_⟩;unfold bytes_Equal at h;refine⟨a0,rfl,?_⟩;refine⟨a1,rfl,?_⟩;cases h;exact⟨rfl,rfl⟩
theorem MB {a0:List UInt8}{a1:List UInt8}{r:Bool}(h:bytes_HasPrefix a0 a1=some r):yC wl 83 [AV.d (D.l 1 D.u8 a0),AV.d (D.l 1 D.u8 a1)] [] (.d (D.b r)) []:=by
 refine oK Tryz.f83 ⟨rfl,?_⟩;unfold bytes_HasPrefix at h;revert h;refine AG (fun v1=>⟨dd 4 (yb v1::dd 13 ([])),nn 18 ([])⟩) ?_ ?_
 ·intro k2 h;refine⟨a0.length,X10 _,?_⟩;refine⟨a1.length,X10 _,?_⟩;refine sJ h (fun h=>?_) fun h=>AA wk h;refine⟨a1.length,X10 _,?_⟩;obtain⟨v3,g4,h⟩:=AB h;refine⟨Fe (f:=D.u8) g4,_,EL (f:=D.u8) g4,?_⟩;obtain⟨v5,g6,h⟩:=AB h;refine⟨_,_,some [],KF g6,?_⟩;exact AA wk h
 rintro v1 h;cases h;exact⟨rfl,rfl⟩
theorem Me {a0:List UInt8}{a1:List UInt8}{r:(List UInt8)×Bool}(h:bytes_CutPrefix a0 a1=some r):yC wl 144 [AV.d (D.l 1 D.u8 a0),AV.d (D.l 1 D.u8 a1)] [] (.tup [.d (D.l 1 D.u8 r.1),.d (D.b r.2)]) []:=by
 refine oK Tryz.f144 ⟨rfl,?_⟩;unfold bytes_CutPrefix at h;obtain⟨v1,g2,h⟩:=AB h;refine⟨_,_,some [],MB g2,?_⟩;(conv=>whnf);refine .go ?_;refine sJ h ?_ ?_<;>intro h
 ·cases h;exact⟨rfl,rfl⟩
 refine⟨a1.length,X10 _,?_⟩;obtain⟨v3,g4,h⟩:=AB h;refine⟨Gj (f:=D.u8) g4,_,Gf (f:=D.u8) g4,?_⟩;cases h;exact⟨rfl,rfl⟩
theorem Iy {a0:JAH}{r:Bool×JAH}(h:C4 a0=some r):yC wl 110 [.ref 0 0] [.box (JAH.av a0)] (.d (D.b r.1)) [.box (JAH.av r.2)]:=by
 refine oK Tryz.f110 ⟨rfl,?_⟩;unfold C4 at h;refine⟨a0.attrs.length,X10 _,?_⟩;revert h;refine AG (fun (v1,v2)=>⟨X::X::X::AV.mp 10::dd 91 ([]),yB (JAH.av v1)::nn 9 (some (OB.map 3 3 (Bn D.i D.i v2))::nn 85 ([]))⟩) ?_ ?_
 ·intro k3 h;revert h;refine Ac 13 3 JAA.toD rfl (fun i4 (v5,v6)=>⟨yr 0 0::X::X::AV.mp 10::dd 9 (AV.d (D.l 3 JAA.toD a0.attrs)::yi (a0.attrs.length:Int)::yi (i4:Int)::dd 79 ([])),yB (JAH.av v5)::nn 9 (some (OB.map 3 3 (Bn D.i D.i v6))::nn 85 ([]))⟩) ?_ ?_ ?_
  ·exact wk
  ·rintro⟨v5,v6⟩ K7 h;(conv=>whnf);refine .go ?_;(conv=>whnf);refine BI Cb ?_;exact AA wk h
  rintro next8 i4 x9 ⟨v5,v6⟩ K7 hii4 hxi4 hwi4 h hK10;(conv=>whnf);refine .go ?_;(conv=>whnf);refine BD (CQ hii4) ?_;(conv=>whnf);refine .go ?_;refine⟨BF (f:=JAA.toD) hii4,JAA.toD x9,hxi4,rfl,?_⟩;obtain⟨v11,g12,h⟩:=AB h;refine⟨_,BX (ek:=D.i) (ev:=D.i) (l:=v6) (k:=x9.Type_) BL,D.i v11,D7 (z:=0) rfl g12,_,rfl,?_⟩;refine⟨_,rfl,?_⟩;refine⟨_,Ej (ek:=D.i) (ev:=D.i) (l:=v6) (k:=x9.Type_) (v:=(AN (v11+1))) BL,?_⟩;refine⟨rfl,?_⟩;obtain⟨⟨v13,v14⟩,g15,h⟩:=AB h;refine⟨_,_,some [],Me g15,?_⟩;(conv=>whnf);refine .go ?_;revert h;refine AG (fun (v16,v17)=>⟨yr 0 0::X::X::AV.mp 10::dd 4 (yb v16::dd 4 (AV.d (D.l 3 JAA.toD a0.attrs)::yi (a0.attrs.length:Int)::yi (i4:Int)::dd 79 ([]))),yB (JAH.av v17)::nn 9 (some (OB.map 3 3 (Bn D.i D.i (Cc v6 x9.Type_ (AN (v11+1)))))::nn 85 ([]))⟩) ?_ ?_
  ·intro k18 h;refine sJ h ?_ ?_<;>intro h
   ·revert h;refine AG (fun v19=>⟨yr 0 0::X::X::AV.mp 10::X::X::y3 v13::dd 6 (AV.d (D.l 3 JAA.toD a0.attrs)::yi (a0.attrs.length:Int)::yi (i4:Int)::dd 38 (yb v19::dd 40 ([]))),yB (JAH.av v5)::nn 9 (some (OB.map 3 3 (Bn D.i D.i (Cc v6 x9.Type_ (AN (v11+1)))))::nn 85 ([]))⟩) ?_ ?_
    ·intro k20 h;refine sJ h (fun h=>AA wk h) fun h=>?_;refine⟨v13.length,X10 _,?_⟩;refine sJ h (fun h=>AA wk h) fun h=>?_;obtain⟨v21,g22,h⟩:=AB h;refine⟨Ah (f:=D.u8) g22,D.u8 v21,Aj (f:=D.u8) g22,rfl,?_⟩;refine sJ h (fun h=>AA wk h) fun h=>?_;obtain⟨v23,g24,h⟩:=AB h;refine⟨Ah (f:=D.u8) g24,D.u8 v23,Aj (f:=D.u8) g24,rfl,?_⟩;exact AA wk h
    rintro v19 h;(conv=>whnf);refine .go ?_;refine sJ h ?_ ?_<;>intro h
    ·cases h;exact⟨rfl,rfl⟩
    obtain⟨v25,g26,h⟩:=AB h;refine⟨Fe (f:=D.u8) g26,_,EL (f:=D.u8) g26,?_⟩;obtain⟨⟨v27,v28⟩,g29,h⟩:=AB h;refine⟨_,_,some [],Ge g29,?_⟩;obtain⟨v30,g31,h⟩:=AB h;refine⟨Gj (f:=D.u8) g31,_,Gf (f:=D.u8) g31,?_⟩;obtain⟨⟨v32,v33⟩,g34,h⟩:=AB h;refine⟨_,_,some [],Ea g34,?_⟩;exact AA wk h
   revert h;refine AG (fun (v35,v36)=>⟨yr 0 0::X::X::AV.mp 10::dd 4 (yb v35::dd 4 (AV.d (D.l 3 JAA.toD a0.attrs)::yi (a0.attrs.length:Int)::yi (i4:Int)::dd 79 ([]))),yB [AV.d (D.l 3 JAA.toD v5.attrs),AV.d (D.b v5.next.V6),AV.d (D.u64 v5.next.Hi),AV.d (D.u64 v5.next.Lo),AV.d (D.l 4 JAE.toD v5.gone4),y5 v36,AV.d (D.l 4 JAE.toD v5.new4),AV.d (D.l 4 JAE.toD v5.new6)]::nn 9 (some (OB.map 3 3 (Bn D.i D.i (Cc v6 x9.Type_ (AN (v11+1)))))::nn 85 ([]))⟩) ?_ ?_
   ·intro k37 h;refine sJ h (fun h=>?_) fun h=>AA wk h;revert h;refine AG (fun (v38,v39)=>⟨yr 0 0::X::X::AV.mp 10::dd 4 (yb v38::dd 4 (AV.d (D.l 3 JAA.toD a0.attrs)::yi (a0.attrs.length:Int)::yi (i4:Int)::dd 79 ([]))),yB [AV.d (D.l 3 JAA.toD v5.attrs),AV.d (D.b v5.next.V6),AV.d (D.u64 v5.next.Hi),AV.d (D.u64 v5.next.Lo),AV.d (D.l 4 JAE.toD v5.gone4),y5 v39,AV.d (D.l 4 JAE.toD v5.new4),AV.d (D.l 4 JAE.toD v5.new6)]::nn 9 (some (OB.map 3 3 (Bn D.i D.i (Cc v6 x9.Type_ (AN (v11+1)))))::nn 85 ([]))⟩) ?_ ?_
    ·intro k40 h;refine sJ h (fun h=>?_) fun h=>AA wk h;obtain⟨⟨v41,v42⟩,g43,h⟩:=AB h;refine⟨_,_,some [],Ea g43,?_⟩;exact AA wk h
    rintro⟨v38,v39⟩ h;exact AA wk h
   rintro⟨v35,v36⟩ h;exact AA wk h
  rintro⟨v16,v17⟩ h;(conv=>whnf);refine .go ?_;refine sJ h ?_ ?_<;>intro h
  ·cases h;exact⟨rfl,rfl⟩
  refine⟨_,hwi4,?_⟩;exact hK10 _ _ wk h
 rintro⟨v1,v2⟩ h;revert h;refine AG (fun v44=>⟨X::X::yb v44::dd 92 ([]),yB (JAH.av v1)::nn 95 ([])⟩) ?_ ?_
 ·intro k45 h;obtain⟨v46,g47,h⟩:=AB h;refine⟨_,BX (ek:=D.i) (ev:=D.i) (l:=v2) (k:=14) BL,D.i v46,D7 (z:=0) rfl g47,_,rfl,?_⟩;refine sJ h (fun h=>?_) fun h=>AA wk h;obtain⟨v48,g49,h⟩:=AB h;refine⟨_,BX (ek:=D.i) (ev:=D.i) (l:=v2) (k:=15) BL,D.i v48,D7 (z:=0) rfl g49,_,rfl,?_⟩;exact AA wk h
 rintro v44 h;cases h;exact⟨rfl,rfl⟩
theorem LG {a0:JAH}{a1:List UInt8}{r:Bool×JAH}(h:DF a0 a1=some r):yC wl 58 [.ref 0 0,AV.d (D.l 1 D.u8 a1)] [.box (JAH.av a0)] (.d (D.b r.1)) [.box (JAH.av r.2)]:=by
 refine oK Tryz.f58 ⟨rfl,?_⟩;unfold DF at h;obtain⟨⟨v1,v2,v3⟩,g4,h⟩:=AB h;refine⟨_,_,some [],Lx g4,?_⟩;(conv=>whnf);refine .go ?_;refine sJ h ?_ ?_<;>intro h
 ·cases h;exact⟨rfl,rfl⟩
 obtain⟨⟨v5,v6,v7⟩,g8,h⟩:=AB h;refine⟨_,_,some [],Lx g8,?_⟩;(conv=>whnf);refine .go ?_;refine sJ h ?_ ?_<;>intro h
 ·cases h;exact⟨rfl,rfl⟩
 obtain⟨⟨v9,v10⟩,g11,h⟩:=AB h;refine⟨_,_,some [],MC g11,?_⟩;revert h;refine AG (fun (v12,v13)=>⟨yr 0 0::y3 v6::X::X::X::y3 v1::dd 34 (yb v12::dd 76 ([])),yB (JAH.av v13)::nn 117 ([])⟩) ?_ ?_
 ·intro k14 h;refine sJ h (fun h=>AA wk h) fun h=>?_;obtain⟨⟨v15,v16⟩,g17,h⟩:=AB h;refine⟨_,_,some [],Iy g17,?_⟩;exact AA wk h
 rintro⟨v12,v13⟩ h;(conv=>whnf);refine .go ?_;refine sJ h ?_ ?_<;>intro h
 ·cases h;exact⟨rfl,rfl⟩
 obtain⟨⟨v18,v19⟩,g20,h⟩:=AB h;refine⟨_,_,some [],Ea g20,?_⟩;obtain⟨⟨v21,v22⟩,g23,h⟩:=AB h;refine⟨_,_,some [],Ea g23,?_⟩;revert h;refine AG (fun v24=>⟨yr 0 0::dd 105 (yb v24::dd 10 ([])),yB [AV.d (D.l 3 JAA.toD v13.attrs),AV.d (D.b v13.next.V6),AV.d (D.u64 v13.next.Hi),AV.d (D.u64 v13.next.Lo),y5 v18,AV.d (D.l 4 JAE.toD v13.gone6),y5 v21,AV.d (D.l 4 JAE.toD v13.new6)]::nn 117 ([])⟩) ?_ ?_
 ·intro k25 h;(conv=>whnf);refine .inl (dO ?_);refine sJ h ?_ ?_<;>intro h
  ·(conv=>whnf);refine cO ?_;exact AA wk h
  refine sJ h ?_ ?_<;>intro h
  ·(conv=>whnf);refine cO ?_;exact AA wk h
  refine⟨v21.length,X10 _,?_⟩;refine sJ h ?_ ?_<;>intro h
  ·refine⟨v13.new6.length,X10 _,?_⟩;refine sJ h ?_ ?_<;>intro h
   ·(conv=>whnf);refine cO ?_;exact AA wk h
   refine⟨v18.length,X10 _,?_⟩;refine⟨v13.gone6.length,X10 _,?_⟩;refine⟨_,rfl,?_⟩;refine sJ h ?_ ?_<;>intro h
   ·(conv=>whnf);refine cO ?_;exact AA wk h
   refine⟨v21.length,X10 _,?_⟩;refine⟨v13.new6.length,X10 _,?_⟩;refine⟨_,rfl,?_⟩;(conv=>whnf);refine cO ?_;exact AA wk h
  refine⟨v18.length,X10 _,?_⟩;refine⟨v13.gone6.length,X10 _,?_⟩;refine⟨_,rfl,?_⟩;refine sJ h ?_ ?_<;>intro h
  ·(conv=>whnf);refine cO ?_;exact AA wk h
  refine⟨v21.length,X10 _,?_⟩;refine⟨v13.new6.length,X10 _,?_⟩;refine⟨_,rfl,?_⟩;(conv=>whnf);refine cO ?_;exact AA wk h
 rintro v24 h;(conv=>whnf);refine .go ?_;refine sJ h ?_ ?_<;>intro h
 ·cases h;exact⟨rfl,rfl⟩
 obtain⟨⟨v26,v27⟩,g28,h⟩:=AB h;refine⟨_,_,some [],Ib g28,?_⟩;cases h;exact⟨rfl,rfl⟩
theorem Ir {a0:JAA}{a1:Int}{r:Bool×Int}(h:C0 a0 a1=some r):yC wl 126 [AV.d (JAA.toD a0),.ref 0 0] [.box [.d (D.i a1)]] (.d (D.b r.1)) [.box [.d (D.i r.2)]]:=by
 refine oK Tryz.f126 ⟨rfl,?_⟩;unfold C0 at h;cases h;exact⟨rfl,rfl⟩
theorem B8 {a0:List JAA}{a1c0:Int}{r:Int×Int}(h:Ak a0 a1c0=some r):yC wl 147 [AV.d (D.l 3 JAA.toD a0),AV.fn 126 [.ref 0 0]] [.box [.d (D.i a1c0)]] (.d (D.i r.1)) [.box [.d (D.i r.2)]]:=by
 refine oK Tryz.f147 ⟨rfl,?_⟩;unfold Ak at h;refine⟨a0.length,X10 _,?_⟩;revert h;refine AG (fun v1=>⟨dd 19 ([]),yB [yi v1]::nn 19 ([])⟩) ?_ ?_
 ·intro k2 h;revert h;refine Ac 6 3 JAA.toD rfl (fun i3 v4=>⟨y4 a0::AV.fn 126 [yr 0 0]::dd 4 (y4 a0::yi (a0.length:Int)::yi (i3:Int)::dd 10 ([])),yB [yi v4]::nn 19 ([])⟩) ?_ ?_ ?_
  ·exact wk
  ·rintro v4 K5 h;(conv=>whnf);refine .go ?_;(conv=>whnf);refine BI Cb ?_;exact AA wk h
  rintro next6 i3 x7 v4 K5 hii3 hxi3 hwi3 h hK8;(conv=>whnf);refine .go ?_;(conv=>whnf);refine BD (CQ hii3) ?_;(conv=>whnf);refine .go ?_;refine⟨BF (f:=JAA.toD) hii3,JAA.toD x7,hxi3,rfl,?_⟩;obtain⟨⟨v9,v10⟩,g11,h⟩:=AB h;refine⟨_,_,some [],Ir g11,?_⟩;(conv=>whnf);refine .go ?_;refine sJ h ?_ ?_<;>intro h
  ·cases h;exact⟨rfl,rfl⟩
  refine⟨_,hwi3,?_⟩;exact hK8 _ _ wk h
 rintro v1 h;cases h;exact⟨rfl,rfl⟩
theorem Bz {a0:List JAA}{a1c0:Int}{r:Bool×Int}(h:Ai a0 a1c0=some r):yC wl 114 [AV.d (D.l 3 JAA.toD a0),AV.fn 126 [.ref 0 0]] [.box [.d (D.i a1c0)]] (.d (D.b r.1)) [.box [.d (D.i r.2)]]:=by
 refine oK Tryz.f114 ⟨rfl,?_⟩;unfold Ai at h;obtain⟨⟨v1,v2⟩,g3,h⟩:=AB h;refine⟨_,_,some [],B8 g3,?_⟩;cases h;exact⟨rfl,rfl⟩
theorem Gm {a0:JAH}{a1:Int}{r:Bool×JAH}(h:CY a0 a1=some r):yC wl 73 [.ref 0 0,AV.d (D.i a1)] [.box (JAH.av a0)] (.d (D.b r.1)) [.box (JAH.av r.2)]:=by
 refine oK Tryz.f73 ⟨rfl,?_⟩;unfold CY at h;obtain⟨⟨v1,v2⟩,g3,h⟩:=AB h;refine⟨_,_,some [],Bz g3,?_⟩;cases h;exact⟨rfl,rfl⟩
theorem Rh {a0:List UInt8}{r:Bool×Bool}(h:Ic a0=some r):yC wl 31 [AV.d (D.l 1 D.u8 a0)] [] (.tup [.d (D.b r.1),.d (D.b r.2)]) []:=by
 refine oK Tryz.f31 ⟨rfl,?_⟩;unfold Ic at h;obtain⟨_,g1,h⟩:=AB h;refine⟨W4 g1 (X29 rfl),D.u8 (0:UInt8),rfl,(List.map D.u8 (List.replicate (Int.toNat 4) (0:UInt8))),List.map_replicate.symm,?_⟩;refine⟨rfl,?_⟩;obtain⟨v2,g3,h⟩:=AB h;refine⟨_,_,none,KF g3,?_⟩;(conv=>whnf);refine .go ?_;refine sJ h ?_ ?_<;>intro h
 ·cases h;exact⟨rfl,rfl⟩
 exact nomatch h
theorem Qk {r:Bool}(h:HN=some r):yC wl 24 [] [] (.d (D.b r)) []:=by
 refine oK Tryz.f24 ⟨rfl,?_⟩;unfold HN at h;(conv=>whnf);refine .inl (dO ?_);obtain⟨v1,g2,h⟩:=AB h;refine⟨_,_,Kp g2,.inl rfl,?_⟩;refine⟨rfl,?_⟩;obtain⟨⟨v3,v4⟩,g5,h⟩:=AB h;refine⟨_,_,It g5,.inl rfl,?_⟩;(conv=>whnf);refine cO ?_;refine⟨rfl,?_⟩;obtain⟨⟨v6,v7⟩,g8,h⟩:=AB h;refine⟨_,_,none,Rh g8,?_⟩;revert h;refine AG (fun v9=>⟨yb v9::dd 34 ([]),nn 35 ([])⟩) ?_ ?_
 ·intro k10 h;refine sJ h (fun h=>?_) fun h=>AA wk h;refine⟨v3,rfl,?_⟩;refine sJ h (fun h=>?_) fun h=>AA wk h;exact sJ h (fun h=>AA wk h) fun h=>AA wk h
 rintro v9 h;cases h;exact⟨rfl,rfl⟩
theorem C2 {a0:List (List JAE)}{r:(List JAE)}(h:Az a0=some r):yC wl 59 [AV.d (D.l 1 (D.l 4 JAE.toD) a0)] [] (AV.own 0 (List.map JAE.toD r).length) [.row 41 4 (List.map JAE.toD r) .no]:=by
 refine okx 27 Tryz.f59 (by kernel_rfl) (by kernel_rfl) ⟨rfl,?_⟩;unfold Az at h;refine⟨a0.length,X10 _,?_⟩;revert h;refine AG (fun v1=>⟨AV.d (D.l 1 (D.l 4 JAE.toD) a0)::X::X::yi v1::dd 32 ([]),nn 63 ([])⟩) ?_ ?_
 ·intro k2 h;revert h;refine Ac 9 1 (D.l 4 JAE.toD) rfl (fun i3 v4=>⟨AV.d (D.l 1 (D.l 4 JAE.toD) a0)::X::X::yi v4::dd 5 (AV.d (D.l 1 (D.l 4 JAE.toD) a0)::yi (a0.length:Int)::yi (i3:Int)::dd 24 ([])),nn 63 ([])⟩) ?_ ?_ ?_
  ·exact wk
  ·rintro v4 K5 h;(conv=>whnf);refine .go ?_;(conv=>whnf);refine BI Cb ?_;exact AA wk h
  rintro next6 i3 x7 v4 K5 hii3 hxi3 hwi3 h hK8;(conv=>whnf);refine .go ?_;(conv=>whnf);refine BD (CQ hii3) ?_;(conv=>whnf);refine .go ?_;refine⟨BF (f:=(D.l 4 JAE.toD)) hii3,(D.l 4 JAE.toD) x7,hxi3,rfl,?_⟩;refine⟨x7.length,X10 _,?_⟩;refine⟨_,rfl,?_⟩;(conv=>whnf);refine .go ?_;refine sJ h ?_ ?_<;>intro h
  ·exact nomatch h
  refine⟨_,hwi3,?_⟩;exact hK8 _ _ wk h
 rintro v1 h;revert h;refine AG (fun v9=>⟨AV.d (D.l 1 (D.l 4 JAE.toD) a0)::dd 23 (yO 35 JAE.toD v9::dd 11 ([])),nn 35 (yR 41 4 JAE.toD v9::nn 27 ([]))⟩) ?_ ?_
 ·intro k10 h;(conv=>whnf);refine inl Tryz.f112 36 (by kernel_rfl) (by kernel_rfl) ⟨rfl,?_⟩;(conv=>whnf);refine .go ?_;refine sJ h ?_ ?_<;>intro h
  ·exact nomatch h
  refine⟨_,rfl,?_⟩;refine⟨_,rfl,?_⟩;revert h;refine AG (fun v11=>⟨yO 61 JAE.toD v11::dd 26 ([]),nn 61 (yR 41 4 JAE.toD v11::N::[])⟩) ?_ ?_
  ·intro k12 h;refine sJ h (fun h=>?_) fun h=>AA wk h;(conv=>whnf);refine .inr ?_;refine⟨⟨rfl,rfl⟩,?_⟩;obtain⟨_,g13,h⟩:=AB h;refine⟨fO g13 (X29 rfl),JAE.toD (⟨(⟨false,(0:UInt64),(0:UInt64)⟩:Addr),0⟩:JAE),rfl,(List.map JAE.toD (List.replicate (Int.toNat (AN (v1-(AN (0-0))))) (⟨(⟨false,(0:UInt64),(0:UInt64)⟩:Addr),0⟩:JAE))),List.map_replicate.symm,?_⟩;(conv=>whnf);refine .inr (.inr ?_);obtain⟨v14,g15,h⟩:=AB h;refine⟨QW (f:=JAE.toD) g15,rfl,_,EL (f:=JAE.toD) g15,?_⟩;exact AA wk h
  rintro v11 h;exact AA (.swap 61 35 rfl rfl rfl wk) h
 rintro v9 h;refine⟨a0.length,X10 _,?_⟩;revert h;refine AG (fun v16=>⟨dd 6 (yO 35 JAE.toD v16::dd 29 ([])),nn 35 (yR 41 4 JAE.toD v16::nn 27 ([]))⟩) ?_ ?_
 ·intro k17 h;revert h;refine Ac 25 1 (D.l 4 JAE.toD) rfl (fun i18 v19=>⟨dd 6 (yO 35 JAE.toD v19::dd 18 (AV.d (D.l 1 (D.l 4 JAE.toD) a0)::yi (a0.length:Int)::yi (i18:Int)::dd 8 ([]))),nn 35 (yR 41 4 JAE.toD v19::nn 27 ([]))⟩) ?_ ?_ ?_
  ·exact wk
  ·rintro v19 K20 h;(conv=>whnf);refine .go ?_;(conv=>whnf);refine BI Cb ?_;exact AA wk h
  rintro next21 i18 x22 v19 K20 hii18 hxi18 hwi18 h hK23;(conv=>whnf);refine .go ?_;(conv=>whnf);refine BD (CQ hii18) ?_;(conv=>whnf);refine .go ?_;refine⟨BF (f:=(D.l 4 JAE.toD)) hii18,(D.l 4 JAE.toD) x22,hxi18,rfl,?_⟩;obtain⟨v24,g25,h⟩:=AB h;refine⟨rfl,Ab (f:=JAE.toD) (g:=JAE.toD) g25,_,Ag (f:=JAE.toD) g25,?_⟩;refine⟨_,hwi18,?_⟩;exact hK23 _ _ wk h
 rintro v16 h;(conv=>whnf);refine .inl ?_;(conv=>whnf);refine .inr ?_;cases h;exact⟨rfl,rfl⟩
theorem Io {a0:JAA}{r:Bool}(h:Bw a0=some r):yC wl 123 [AV.d (JAA.toD a0)] [] (.d (D.b r)) []:=by
 refine oK Tryz.f123 ⟨rfl,?_⟩;unfold Bw at h;revert h;refine AG (fun v1=>⟨X::X::yb v1::dd 14 ([]),nn 17 ([])⟩) ?_ ?_
 ·intro k2 h;refine sJ h ?_ ?_<;>intro h
  ·refine⟨_,rfl,?_⟩;exact AA wk h
  refine sJ h (fun h=>?_) fun h=>AA wk h;refine⟨_,rfl,?_⟩;exact AA wk h
 rintro v1 h;cases h;exact⟨rfl,rfl⟩
theorem B7 {a0:List JAA}{r:Int}(h:Au a0=some r):yC wl 147 [AV.d (D.l 3 JAA.toD a0),AV.fn 123 []] [] (.d (D.i r)) []:=by
 refine oK Tryz.f147 ⟨rfl,?_⟩;unfold Au at h;refine⟨a0.length,X10 _,?_⟩;revert h;refine AG (fun _=>⟨dd 19 ([]),nn 19 ([])⟩) ?_ ?_
 ·intro k1 h;revert h;refine Ac 6 3 JAA.toD rfl (fun i2 _=>⟨y4 a0::AV.fn 123 []::dd 4 (y4 a0::yi (a0.length:Int)::yi (i2:Int)::dd 10 ([])),nn 19 ([])⟩) ?_ ?_ ?_
  ·exact wk
  ·rintro _ K3 h;(conv=>whnf);refine .go ?_;(conv=>whnf);refine BI Cb ?_;exact AA wk h
  rintro next4 i2 x5 _ K3 hii2 hxi2 hwi2 h hK6;(conv=>whnf);refine .go ?_;(conv=>whnf);refine BD (CQ hii2) ?_;(conv=>whnf);refine .go ?_;refine⟨BF (f:=JAA.toD) hii2,JAA.toD x5,hxi2,rfl,?_⟩;obtain⟨v7,g8,h⟩:=AB h;refine⟨_,_,some [],Io g8,?_⟩;(conv=>whnf);refine .go ?_;refine sJ h ?_ ?_<;>intro h
  ·cases h;exact⟨rfl,rfl⟩
  refine⟨_,hwi2,?_⟩;exact hK6 _ _ wk h
 rintro _ h;cases h;exact⟨rfl,rfl⟩
theorem Br {a0:List JAA}{r:Bool}(h:Af a0=some r):yC wl 114 [AV.d (D.l 3 JAA.toD a0),AV.fn 123 []] [] (.d (D.b r)) []:=by
 refine oK Tryz.f114 ⟨rfl,?_⟩;unfold Af at h;obtain⟨v1,g2,h⟩:=AB h;refine⟨_,_,some [],B7 g2,?_⟩;cases h;exact⟨rfl,rfl⟩
theorem JQ {a0:JAH}{a1:JAC}{a2:Int}{r:Bool×JAH}(h:DL a0 a1 a2=some r):yC wl 62 [.ref 0 0,AV.d (JAC.toD a1),AV.d (D.i a2)] [.box (JAH.av a0)] (.d (D.b r.1)) [.box (JAH.av r.2)]:=by
 refine oK Tryz.f62 ⟨rfl,?_⟩;unfold DL at h;revert h;refine AG (fun (v1,v2)=>⟨dd 6 (yb v1::dd 35 ([])),yB (JAH.av v2)::nn 42 ([])⟩) ?_ ?_
 ·intro k3 h;refine sJ h (fun h=>AA wk h) fun h=>?_;obtain⟨v4,g5,h⟩:=AB h;refine⟨_,_,some [],Br g5,?_⟩;refine sJ h (fun h=>AA wk h) fun h=>?_;obtain⟨⟨v6,v7⟩,g8,h⟩:=AB h;refine⟨_,_,some [],Gm g8,?_⟩;refine sJ h (fun h=>AA wk h) fun h=>?_;obtain⟨⟨v9,v10⟩,g11,h⟩:=AB h;refine⟨_,_,some [],Gm g11,?_⟩;refine sJ h (fun h=>AA wk h) fun h=>?_;refine⟨v10.new4.length,X10 _,?_⟩;exact sJ h (fun h=>AA wk h) fun h=>AA wk h
 rintro⟨v1,v2⟩ h;cases h;exact⟨rfl,rfl⟩
theorem Oz {a0:List UInt8}{r:JAG×Int}(h:Fg a0=some r):yC wl 29 [AV.d (D.l 1 D.u8 a0)] [] (.tup [.d (JAG.toD r.1),.d (D.i r.2)]) []:=by
 refine oK Tryz.f29 ⟨rfl,?_⟩;unfold Fg at h;obtain⟨⟨v1,v2⟩,g3,h⟩:=AB h;refine⟨_,_,some [],(LG g3).box1 ⟨.inr ⟨_,rfl,rfl⟩,.inl rfl,.inl rfl,.inl rfl,.inr ⟨_,rfl,rfl⟩,.inr ⟨_,rfl,rfl⟩,.inr ⟨_,rfl,rfl⟩,.inr ⟨_,rfl,rfl⟩,True.intro⟩,?_⟩;(conv=>whnf);refine .go ?_;refine sJ h ?_ ?_<;>intro h
 ·cases h;exact⟨rfl,rfl⟩
 (conv=>whnf);refine .inl (dO ?_);refine⟨rfl,?_⟩;obtain⟨v4,g5,h⟩:=AB h;refine⟨_,_,C2 g5,.inr rfl,?_⟩;obtain⟨v6,g7,h⟩:=AB h;refine⟨_,_,L9 g7,.inl rfl,?_⟩;(conv=>whnf);refine cO ?_;(conv=>whnf);refine .inl (dO ?_);refine⟨rfl,?_⟩;obtain⟨v8,g9,h⟩:=AB h;refine⟨_,_,C2 g9,.inr rfl,?_⟩;(conv=>whnf);refine cO ?_;refine⟨v8.length,by first | exact X10 _ | rfl | (simp only[X10];omega),?_⟩;(conv=>whnf);refine .go ?_;refine sJ h ?_ ?_<;>intro h
 ·refine⟨rfl,?_⟩;cases h;exact⟨rfl,rfl⟩
 obtain⟨⟨v10,v11⟩,g12,h⟩:=AB h;refine⟨_,_,some [],Ib g12,?_⟩;obtain⟨⟨v13,v14⟩,g15,h⟩:=AB h;refine⟨_,_,some [],JQ g15,?_⟩;(conv=>whnf);refine .go ?_;refine sJ h ?_ ?_<;>intro h
 ·refine⟨rfl,?_⟩;obtain⟨v16,g17,h⟩:=AB h;refine⟨rfl,Ab (f:=JAE.toD) (g:=JAE.toD) g17,_,Ag (f:=JAE.toD) g17,?_⟩;refine⟨rfl,?_⟩;cases h;exact⟨rfl,rfl⟩
 refine⟨v14.new6.length,X10 _,?_⟩;revert h;refine AG (fun v18=>⟨X::X::yr 2 0::X::X::yr 5 0::yO 37 JAE.toD v8::yr 7 0::dd 68 ([]),N::N::yB JAG.zv::N::N::yB [yO 25 JAE.toD v4,AV.d (D.i v6.Origin),AV.d (D.l 2 JAD.toD v6.Path),AV.d (D.b v6.Next.V6),AV.d (D.u64 v6.Next.Hi),AV.d (D.u64 v6.Next.Lo),AV.d (D.i v6.MED),AV.d (D.i v6.Pref),AV.d (D.i v6.OTC),AV.d (D.l 2 JAB.toD v6.Communities),AV.d (D.l 3 JAF.toD v6.JAF),AV.d (D.l 3 JAA.toD v6.Other),AV.d (D.nil 4)]::N::yB (JAC.av v18)::nn 17 (yR 41 4 JAE.toD v4::nn 11 (yR 41 4 JAE.toD v8::nn 38 ([])))⟩) ?_ ?_
 ·intro k19 h;exact sJ h (fun h=>AA wk h) fun h=>AA wk h
 rintro v18 h;refine⟨rfl,?_⟩;refine⟨rfl,?_⟩;cases h;exact⟨rfl,rfl⟩
theorem IU {a0:List JAE}{a1:List JAE}{r:Bool}(h:EF a0 a1=some r):yC wl 37 [AV.d (D.l 4 JAE.toD a0),AV.d (D.l 4 JAE.toD a1)] [] (.d (D.b r)) []:=by
 refine oK Tryz.f37 ⟨rfl,?_⟩;unfold EF at h;refine⟨a0.length,X10 _,?_⟩;refine⟨a1.length,X10 _,?_⟩;(conv=>whnf);refine .go ?_;refine sJ h ?_ ?_<;>intro h
 ·cases h;exact⟨rfl,rfl⟩
 refine⟨a0.length,X10 _,?_⟩;revert h;refine AG (fun _=>⟨dd 26 ([]),nn 26 ([])⟩) ?_ ?_
 ·intro k1 h;revert h;refine Ac 12 4 JAE.toD rfl (fun i2 _=>⟨X::y5 a1::dd 10 (y5 a0::yi (a0.length:Int)::yi (i2:Int)::dd 11 ([])),nn 26 ([])⟩) ?_ ?_ ?_
  ·exact wk
  ·rintro _ K3 h;(conv=>whnf);refine .go ?_;(conv=>whnf);refine BI Cb ?_;exact AA wk h
  rintro next4 i2 x5 _ K3 hii2 hxi2 hwi2 h hK6;(conv=>whnf);refine .go ?_;(conv=>whnf);refine BD (CQ hii2) ?_;(conv=>whnf);refine .go ?_;refine⟨BF (f:=JAE.toD) hii2,JAE.toD x5,hxi2,rfl,?_⟩;(conv=>whnf);refine .inl (dO ?_);obtain⟨v7,g8,h⟩:=AB h;refine⟨Ah (f:=JAE.toD) g8,JAE.toD v7,Aj (f:=JAE.toD) g8,rfl,?_⟩;(conv=>whnf);refine cO ?_;(conv=>whnf);refine .go ?_;refine sJ h ?_ ?_<;>intro h
  ·cases h;exact⟨rfl,rfl⟩
  refine⟨_,hwi2,?_⟩;exact hK6 _ _ wk h
 rintro _ h;cases h;exact⟨rfl,rfl⟩
theorem SD {a0:JAG}{a1:JAG}{r:Bool}(h:Gu a0 a1=some r):yC wl 33 [AV.d (JAG.toD a0),AV.d (JAG.toD a1)] [] (.d (D.b r)) []:=by
 refine oK Tryz.f33 ⟨rfl,?_⟩;unfold Gu at h;revert h;refine AG (fun v1=>⟨dd 4 (yb v1::dd 19 ([])),nn 24 ([])⟩) ?_ ?_
 ·intro k2 h;obtain⟨v3,g4,h⟩:=AB h;refine⟨_,_,some [],IU g4,?_⟩;refine sJ h (fun h=>?_) fun h=>AA wk h;obtain⟨v5,g6,h⟩:=AB h;refine⟨_,_,some [],IU g6,?_⟩;refine sJ h (fun h=>?_) fun h=>AA wk h;obtain⟨v7,g8,h⟩:=AB h;refine⟨_,_,some [],L1 g8,?_⟩;exact AA wk h
 rintro v1 h;cases h;exact⟨rfl,rfl⟩
end Go.AX.Q19
end
section
namespace Go.AX.Q19
open Go Go.AX Go.Proofs
end Go.AX.Q19
end
section
namespace Go.AX.Q19
open Go Go.AX Go.Proofs
variable {wl:Prop}
theorem law19_UpdateBack_ok {a0:List Int}{r:Bool}(h:DV a0=some r):yC wl 8 [AV.d (D.l 1 D.i a0)] [] (.d (D.b r)) []:=by
 refine oK Tryz.f8 ⟨rfl,?_⟩;unfold DV at h;obtain⟨v1,g2,h⟩:=AB h;refine⟨_,_,some [14],VH g2,?_⟩;obtain⟨⟨v3,v4⟩,g5,h⟩:=AB h;refine⟨_,_,some [],Ld g5,?_⟩;obtain⟨⟨v6,v7⟩,g8,h⟩:=AB h;refine⟨_,_,some [],It g8,?_⟩;obtain⟨⟨v9,v10⟩,g11,h⟩:=AB h;refine⟨_,_,some [],Oz g11,?_⟩;refine⟨([false,true]:List Bool).length,by first | exact X10 _ | rfl | (simp only[X10];omega),?_⟩;revert h;refine AG (fun v12=>⟨X::X::X::yr 3 0::y3 v6::yi v7::yr 6 0::yi v10::yr 8 0::dd 67 ([]),N::N::N::yB (JAG.av v3)::N::N::yB (JAG.av v9)::N::yB [yO 50 JAE.toD v12,AV.d (D.i v3.JAC.Origin),AV.d (D.l 2 JAD.toD v3.JAC.Path),AV.d (D.b v3.JAC.Next.V6),AV.d (D.u64 v3.JAC.Next.Hi),AV.d (D.u64 v3.JAC.Next.Lo),AV.d (D.i v3.JAC.MED),AV.d (D.i v3.JAC.Pref),AV.d (D.i v3.JAC.OTC),AV.d (D.l 2 JAB.toD v3.JAC.Communities),AV.d (D.l 3 JAF.toD v3.JAC.JAF),AV.d (D.l 3 JAA.toD v3.JAC.Other),AV.d (D.l 4 JAE.toD v3.Announce)]::nn 41 (yR 41 4 JAE.toD v12::nn 25 ([]))⟩) ?_ ?_
 ·intro k13 h;revert h;refine Nr 28 4 1 .no D.b rfl (fun i14 v15=>⟨X::X::X::yr 3 0::y3 v6::yi v7::yr 6 0::yi v10::yr 8 0::dd 19 (yO 28 D.b ([false,true]:List Bool)::yi (([false,true]:List Bool).length:Int)::yi (i14:Int)::dd 45 ([])),N::N::N::yB (JAG.av v3)::N::N::yB (JAG.av v9)::N::yB [yO 50 JAE.toD v15,AV.d (D.i v3.JAC.Origin),AV.d (D.l 2 JAD.toD v3.JAC.Path),AV.d (D.b v3.JAC.Next.V6),AV.d (D.u64 v3.JAC.Next.Hi),AV.d (D.u64 v3.JAC.Next.Lo),AV.d (D.i v3.JAC.MED),AV.d (D.i v3.JAC.Pref),AV.d (D.i v3.JAC.OTC),AV.d (D.l 2 JAB.toD v3.JAC.Communities),AV.d (D.l 3 JAF.toD v3.JAC.JAF),AV.d (D.l 3 JAA.toD v3.JAC.Other),AV.d (D.l 4 JAE.toD v3.Announce)]::nn 19 (yR 4 1 D.b ([false,true]:List Bool)::nn 21 (yR 41 4 JAE.toD v15::nn 25 ([])))⟩) ?_ ?_ ?_
  ·exact wk
  ·rintro v15 K16 h;(conv=>whnf);refine .go ?_;exact AA wk h
  rintro next17 i14 x18 v15 K16 hii14 hxi14 hwi14 h hK19;(conv=>whnf);refine .go ?_;(conv=>whnf);refine BD (CQ hii14) ?_;revert h;refine AG (fun v20=>⟨X::X::X::yr 3 0::y3 v6::yi v7::yr 6 0::yi v10::yr 8 0::dd 19 (yO 28 D.b ([false,true]:List Bool)::yi (([false,true]:List Bool).length:Int)::yi (i14:Int)::dd 45 ([])),N::N::N::yB (JAG.av v3)::N::N::yB (JAG.av v9)::N::yB [yO 50 JAE.toD v20,AV.d (D.i v3.JAC.Origin),AV.d (D.l 2 JAD.toD v3.JAC.Path),AV.d (D.b v3.JAC.Next.V6),AV.d (D.u64 v3.JAC.Next.Hi),AV.d (D.u64 v3.JAC.Next.Lo),AV.d (D.i v3.JAC.MED),AV.d (D.i v3.JAC.Pref),AV.d (D.i v3.JAC.OTC),AV.d (D.l 2 JAB.toD v3.JAC.Communities),AV.d (D.l 3 JAF.toD v3.JAC.JAF),AV.d (D.l 3 JAA.toD v3.JAC.Other),AV.d (D.l 4 JAE.toD v3.Announce)]::nn 19 (yR 4 1 D.b ([false,true]:List Bool)::nn 21 (yR 41 4 JAE.toD v20::nn 25 ([])))⟩) ?_ ?_
  ·intro k21 h;refine⟨rfl,BF (f:=D.b) hii14,?_⟩;refine⟨rfl,D.b x18,hxi14,?_⟩;refine⟨v3.Withdraw.length,X10 _,?_⟩;revert h;refine AG (fun v22=>⟨X::X::X::yr 3 0::y3 v6::yi v7::yr 6 0::yi v10::yr 8 0::dd 19 (yO 28 D.b ([false,true]:List Bool)::yi (([false,true]:List Bool).length:Int)::yi (i14:Int)::dd 45 ([])),N::N::N::yB (JAG.av v3)::N::N::yB (JAG.av v9)::N::yB [yO 50 JAE.toD v22,AV.d (D.i v3.JAC.Origin),AV.d (D.l 2 JAD.toD v3.JAC.Path),AV.d (D.b v3.JAC.Next.V6),AV.d (D.u64 v3.JAC.Next.Hi),AV.d (D.u64 v3.JAC.Next.Lo),AV.d (D.i v3.JAC.MED),AV.d (D.i v3.JAC.Pref),AV.d (D.i v3.JAC.OTC),AV.d (D.l 2 JAB.toD v3.JAC.Communities),AV.d (D.l 3 JAF.toD v3.JAC.JAF),AV.d (D.l 3 JAA.toD v3.JAC.Other),AV.d (D.l 4 JAE.toD v3.Announce)]::nn 19 (yR 4 1 D.b ([false,true]:List Bool)::nn 21 (yR 41 4 JAE.toD v22::nn 25 ([])))⟩) ?_ ?_
   ·intro k23 h;revert h;refine Ac 35 4 JAE.toD rfl (fun i24 v25=>⟨X::X::X::yr 3 0::y3 v6::yi v7::yr 6 0::yi v10::yr 8 0::X::yb x18::dd 17 (yO 28 D.b ([false,true]:List Bool)::yi (([false,true]:List Bool).length:Int)::yi (i14:Int)::dd 4 (AV.d (D.l 4 JAE.toD v3.Withdraw)::yi (v3.Withdraw.length:Int)::yi (i24:Int)::dd 38 ([]))),N::N::N::yB (JAG.av v3)::N::N::yB (JAG.av v9)::N::yB [yO 50 JAE.toD v25,AV.d (D.i v3.JAC.Origin),AV.d (D.l 2 JAD.toD v3.JAC.Path),AV.d (D.b v3.JAC.Next.V6),AV.d (D.u64 v3.JAC.Next.Hi),AV.d (D.u64 v3.JAC.Next.Lo),AV.d (D.i v3.JAC.MED),AV.d (D.i v3.JAC.Pref),AV.d (D.i v3.JAC.OTC),AV.d (D.l 2 JAB.toD v3.JAC.Communities),AV.d (D.l 3 JAF.toD v3.JAC.JAF),AV.d (D.l 3 JAA.toD v3.JAC.Other),AV.d (D.l 4 JAE.toD v3.Announce)]::nn 19 (yR 4 1 D.b ([false,true]:List Bool)::nn 21 (yR 41 4 JAE.toD v25::nn 25 ([])))⟩) ?_ ?_ ?_
    ·exact wk
    ·rintro v25 K26 h;(conv=>whnf);refine .go ?_;(conv=>whnf);refine BI Cb ?_;exact AA wk h
    rintro next27 i24 x28 v25 K26 hii24 hxi24 hwi24 h hK29;(conv=>whnf);refine .go ?_;(conv=>whnf);refine BD (CQ hii24) ?_;(conv=>whnf);refine .go ?_;refine⟨BF (f:=JAE.toD) hii24,JAE.toD x28,hxi24,rfl,?_⟩;revert h;refine AG (fun v30=>⟨X::X::X::yr 3 0::y3 v6::yi v7::yr 6 0::yi v10::yr 8 0::X::yb x18::dd 17 (yO 28 D.b ([false,true]:List Bool)::yi (([false,true]:List Bool).length:Int)::yi (i14:Int)::dd 4 (AV.d (D.l 4 JAE.toD v3.Withdraw)::yi (v3.Withdraw.length:Int)::yi (i24:Int)::dd 38 ([]))),N::N::N::yB (JAG.av v3)::N::N::yB (JAG.av v9)::N::yB [yO 50 JAE.toD v30,AV.d (D.i v3.JAC.Origin),AV.d (D.l 2 JAD.toD v3.JAC.Path),AV.d (D.b v3.JAC.Next.V6),AV.d (D.u64 v3.JAC.Next.Hi),AV.d (D.u64 v3.JAC.Next.Lo),AV.d (D.i v3.JAC.MED),AV.d (D.i v3.JAC.Pref),AV.d (D.i v3.JAC.OTC),AV.d (D.l 2 JAB.toD v3.JAC.Communities),AV.d (D.l 3 JAF.toD v3.JAC.JAF),AV.d (D.l 3 JAA.toD v3.JAC.Other),AV.d (D.l 4 JAE.toD v3.Announce)]::nn 19 (yR 4 1 D.b ([false,true]:List Bool)::nn 21 (yR 41 4 JAE.toD v30::nn 25 ([])))⟩) ?_ ?_
    ·intro k31 h;refine sJ h (fun h=>?_) fun h=>AA wk h;refine⟨rfl,?_⟩;obtain⟨v32,g33,h⟩:=AB h;refine⟨rfl,Ab (f:=JAE.toD) (g:=JAE.toD) g33,_,Ag (f:=JAE.toD) g33,?_⟩;exact AA wk h
    rintro v30 h;refine⟨_,hwi24,?_⟩;exact hK29 _ _ wk h
   rintro v22 h;exact AA wk h
  rintro v20 h;refine⟨_,hwi14,?_⟩;exact hK19 _ _ wk h
 rintro v12 h;revert h;refine AG (fun v34=>⟨X::X::yb v34::dd 73 ([]),nn 76 ([])⟩) ?_ ?_
 ·intro k35 h;refine sJ h (fun h=>?_) fun h=>AA wk h;refine sJ h (fun h=>?_) fun h=>AA wk h;refine⟨rfl,?_⟩;obtain⟨v36,g37,h⟩:=AB h;refine⟨_,_,none,SD g37,?_⟩;refine sJ h (fun h=>?_) fun h=>AA wk h;obtain⟨v38,g39,h⟩:=AB h;refine⟨_,_,some [],Re g39,?_⟩;refine⟨v6.length,X10 _,?_⟩;refine⟨_,rfl,?_⟩;refine sJ h (fun h=>?_) fun h=>AA wk h;obtain⟨v40,g41,h⟩:=AB h;refine⟨_,_,some [],Qk g41,?_⟩;exact AA wk h
 rintro v34 h;cases h;exact⟨rfl,rfl⟩
end Go.AX.Q19
end
