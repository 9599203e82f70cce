/-
  Texts of one proof, packed: Q19P14 Q19P15.
-/
import Derived.Test.YtbohbnpaadcfmaaGreatDoorKE5
import Derived.Test.YtbohbnpaadcfmaaGreatDoorKE8
import Derived.Test.YtbohbnpaadcfmaaGreatDoorKE9
set_option linter.all false
open List renaming length_map→X10,length_append→X11,length_cons→X12,length_nil→X13,mem_singleton→X14,getElem?_eq_getElem→X15,getElem?_eq_some_iff→X16,length_drop→X17,length_take→X18,mem_cons_of_mem→X19,length_replicate→X20,length_set→X21,length_singleton→X22,mem_append→X23
open Option.some renaming injEq→X24,inj→X25
open Prod.mk renaming injEq→X26
open Bool renaming and_eq_true→X27,eq_iff_iff→X28
open Nat renaming le_of_ble_eq_true→X29,eq_of_beq_eq_true→X30,mul_le_mul_right→X31,add_mul→X32
section
namespace Go.AX.Q19
open Go Go.AX Go.Proofs
set_option maxRecDepth 100000
set_option maxHeartbeats 4000000
set_option linter.unusedVariables false
theorem Gp {wl:Prop} {a0:List UInt8} {r:Int} (h:Eu a0=some r):CallsOK (Wl wl) Tryz.prog 72 [AV.d (D.l 1 D.u8 a0)] [] (.d (D.i r)) []:=by
 refine oK Tryz.f72 ⟨rfl,?_⟩;unfold Eu at h;(conv=>whnf);refine .inl (dO ?_);obtain⟨v1,g2,h⟩:=AA h;refine⟨Af (f:=D.u8) g2,D.u8 v1,Ag (f:=D.u8) g2,rfl,?_⟩;refine⟨_,FH v1,?_⟩;refine⟨by decide,_,rfl,?_⟩;obtain⟨v3,g4,h⟩:=AA h;refine⟨Af (f:=D.u8) g4,D.u8 v3,Ag (f:=D.u8) g4,rfl,?_⟩;refine⟨_,FH v3,?_⟩;refine⟨_,rfl,?_⟩;(conv=>whnf);refine cO ?_;cases h;exact⟨rfl,rfl⟩
theorem LM {wl:Prop} {a0:List UInt8} {r:(List UInt8)×(List UInt8)×Bool} (h:GW a0=some r):CallsOK (Wl wl) Tryz.prog 108 [AV.d (D.l 1 D.u8 a0)] [] (.tup [.d (D.l 1 D.u8 r.1),.d (D.l 1 D.u8 r.2.1),.d (D.b r.2.2)]) []:=by
 refine oK Tryz.f108 ⟨rfl,?_⟩;unfold GW at h;revert h;refine AG (fun v1=>⟨y3 a0::dd 15 (yb v1::dd 9 ([])),nn 26 ([])⟩) ?_ ?_
 ·intro k2 h;refine⟨a0.length,X10 _,?_⟩;refine sJ h (fun h=>AB wk h) fun h=>?_;refine⟨a0.length,X10 _,?_⟩;refine⟨_,rfl,?_⟩;obtain⟨v3,g4,h⟩:=AA h;refine⟨_,_,some [],Gp g4,?_⟩;exact AB wk h
 rintro v1 h;(conv=>whnf);refine .go ?_;refine sJ h ?_ ?_<;>intro h
 ·(conv=>whnf);refine .inl ?_;refine⟨rfl,?_⟩;(conv=>whnf);refine .inl ?_;refine⟨rfl,?_⟩;cases h;exact⟨rfl,rfl⟩
 obtain⟨v5,g6,h⟩:=AA h;refine⟨_,_,some [],Gp g6,?_⟩;refine⟨_,rfl,?_⟩;(conv=>whnf);refine .inl (dO ?_);obtain⟨v7,g8,h⟩:=AA h;refine⟨FP (f:=D.u8) g8,_,EL (f:=D.u8) g8,?_⟩;obtain⟨v9,g10,h⟩:=AA h;refine⟨FY (f:=D.u8) g10,_,Fa (f:=D.u8) g10,?_⟩;(conv=>whnf);refine cO ?_;cases h;exact⟨rfl,rfl⟩
theorem LU {wl:Prop} {a0:List UInt8} {r:(List JAA)×Int} (h:EU a0=some r):CallsOK (Wl wl) Tryz.prog 109 [AV.d (D.l 1 D.u8 a0)] [] (.tup [.d (D.l 3 JAA.toD r.1),.d (D.i r.2)]) []:=by
 refine oK Tryz.f109 ⟨rfl,?_⟩;unfold EU at h;revert h;refine AG (fun v1=>⟨dd 4 (yO 4 JAA.toD v1::dd 53 ([])),nn 4 (yR 88 3 JAA.toD v1::nn 53 ([]))⟩) ?_ ?_
 ·intro k2 h;revert h;refine Am (fun (v3,v4)=>⟨y3 v3::X::X::X::yO 4 JAA.toD v4::dd 53 ([]),nn 4 (yR 88 3 JAA.toD v4::nn 53 ([]))⟩) ?_ ?_
  ·exact wk
  rintro next5 ⟨v3,v4⟩ K6 h hK7;refine⟨v3.length,X10 _,?_⟩;(conv=>whnf);refine .go ?_;refine sJ h (fun h=>?_) fun h=>AB wk h;(conv=>whnf);refine .go ?_;obtain⟨v8,g9,h⟩:=AA h;refine⟨Af (f:=D.u8) g9,D.u8 v8,Ag (f:=D.u8) g9,rfl,?_⟩;refine⟨_,Ar _,?_⟩;revert h;refine AG (fun v10=>⟨y3 v3::X::X::X::yO 4 JAA.toD v4::yi v10::dd 52 ([]),nn 4 (yR 88 3 JAA.toD v4::nn 53 ([]))⟩) ?_ ?_
  ·intro k11 h;exact sJ h (fun h=>AB wk h) fun h=>AB wk h
  rintro v10 h;revert h;refine AG (fun v12=>⟨y3 v3::X::X::X::yO 4 JAA.toD v4::yi v10::dd 23 (yb v12::dd 28 ([])),nn 4 (yR 88 3 JAA.toD v4::nn 53 ([]))⟩) ?_ ?_
  ·intro k13 h;refine⟨v3.length,X10 _,?_⟩;refine sJ h (fun h=>AB wk h) fun h=>?_;refine⟨v3.length,X10 _,?_⟩;refine⟨_,rfl,?_⟩;obtain⟨v14,g15,h⟩:=AA h;refine⟨FP (f:=D.u8) g15,_,EL (f:=D.u8) g15,?_⟩;obtain⟨v16,g17,h⟩:=AA h;refine⟨_,_,some [],CS g17,?_⟩;exact AB wk h
  rintro v12 h;(conv=>whnf);refine .go ?_;refine sJ h ?_ ?_<;>intro h
  ·(conv=>whnf);refine .inl ?_;refine⟨rfl,?_⟩;cases h;exact⟨rfl,rfl⟩
  obtain⟨v18,g19,h⟩:=AA h;refine⟨FP (f:=D.u8) g19,_,EL (f:=D.u8) g19,?_⟩;obtain⟨v20,g21,h⟩:=AA h;refine⟨_,_,some [],CS g21,?_⟩;refine⟨_,rfl,?_⟩;(conv=>whnf);refine .inl (dO ?_);obtain⟨v22,g23,h⟩:=AA h;refine⟨Af (f:=D.u8) g23,D.u8 v22,Ag (f:=D.u8) g23,rfl,?_⟩;refine⟨_,Ar _,?_⟩;refine⟨_,FH (Au ((BitVec.ofInt 8 (v22.toNat:Int) &&& BitVec.ofInt 8 224).toNat:Int)),?_⟩;obtain⟨v24,g25,h⟩:=AA h;refine⟨Af (f:=D.u8) g25,D.u8 v24,Ag (f:=D.u8) g25,rfl,?_⟩;refine⟨_,FH v24,?_⟩;obtain⟨v26,g27,h⟩:=AA h;refine⟨FP (f:=D.u8) g27,_,EL (f:=D.u8) g27,?_⟩;obtain⟨_,g28,h⟩:=AA h;refine⟨Ed (g:=D.u8) g28,?_⟩;(conv=>whnf);refine .inl ?_;refine⟨rfl,?_⟩;refine⟨rfl,?_⟩;obtain⟨v29,g30,h⟩:=AA h;refine⟨rfl,AZ (f:=JAA.toD) (g:=JAA.toD) g30,_,Ab (f:=JAA.toD) g30,?_⟩;(conv=>whnf);refine cO ?_;obtain⟨v31,g32,h⟩:=AA h;refine⟨FY (f:=D.u8) g32,_,Fa (f:=D.u8) g32,?_⟩;exact hK7 _ _ wk h
 rintro v1 h;(conv=>whnf);refine .inl ?_;refine⟨rfl,?_⟩;cases h;exact⟨rfl,rfl⟩
theorem Qa {wl:Prop} {a0:Addr} {a1:Int} {r:JAE×Int} (h:G2 a0 a1=some r):CallsOK (Wl wl) Tryz.prog 146 [AV.d (Addr.toD a0),AV.d (D.i a1)] [] (.tup [.d (JAE.toD r.1),.d (D.i r.2)]) []:=by
 refine oK Tryz.f146 ⟨rfl,?_⟩;unfold G2 at h;(conv=>whnf);refine .go ?_;obtain⟨v1,g2,h⟩:=AA h;refine⟨_,_,some [],Gv g2,?_⟩;(conv=>whnf);refine .go ?_;refine sJ h ?_ ?_<;>intro h
 ·cases h;exact⟨rfl,rfl⟩
 revert h;refine AG (fun v3=>⟨X::yi a1::yr 2 0::X::yr 4 0::dd 6 (yb v3::dd 14 ([])),N::N::yB (Addr.av a0)::N::yB JAE.zv::nn 21 ([])⟩) ?_ ?_
 ·intro k4 h;refine sJ h (fun h=>AB wk h) fun h=>?_;obtain⟨v5,g6,h⟩:=AA h;refine⟨_,_,some [],HE g6,?_⟩;exact AB wk h
 rintro v3 h;(conv=>whnf);refine .go ?_;refine sJ h ?_ ?_<;>intro h
 ·cases h;exact⟨rfl,rfl⟩
 obtain⟨v7,g8,h⟩:=AA h;refine⟨_,_,some [],Jc g8,?_⟩;cases h;exact⟨rfl,rfl⟩
theorem EN {wl:Prop} {a0:List UInt8} {a1:Bool} {r:(List JAE)×Bool} (h:Bt a0 a1=some r):CallsOK (Wl wl) Tryz.prog 111 [AV.d (D.l 1 D.u8 a0),AV.d (D.b a1)] [] (.tup [.d (D.l 4 JAE.toD r.1),.d (D.b r.2)]) []:=by
 refine oK Tryz.f111 ⟨rfl,?_⟩;unfold Bt at h;revert h;refine AG (fun v1=>⟨y3 a0::dd 5 (yi v1::dd 58 ([])),nn 65 ([])⟩) ?_ ?_
 ·intro k2 h;exact sJ h (fun h=>AB wk h) fun h=>AB wk h
 rintro v1 h;revert h;refine AG (fun v3=>⟨dd 7 (yO 7 JAE.toD v3::dd 57 ([])),nn 7 (yR 41 4 JAE.toD v3::nn 57 ([]))⟩) ?_ ?_
 ·intro k4 h;revert h;refine Am (fun (v5,v6)=>⟨y3 v5::dd 5 (yi v1::yO 7 JAE.toD v6::dd 57 ([])),nn 7 (yR 41 4 JAE.toD v6::nn 57 ([]))⟩) ?_ ?_
  ·exact wk
  rintro next7 ⟨v5,v6⟩ K8 h hK9;refine⟨v5.length,X10 _,?_⟩;(conv=>whnf);refine .go ?_;refine sJ h (fun h=>?_) fun h=>AB wk h;(conv=>whnf);refine .go ?_;obtain⟨v10,g11,h⟩:=AA h;refine⟨Af (f:=D.u8) g11,D.u8 v10,Ag (f:=D.u8) g11,rfl,?_⟩;refine⟨_,FH v10,?_⟩;refine⟨_,rfl,?_⟩;refine⟨by decide,_,rfl,?_⟩;revert h;refine AG (fun v12=>⟨y3 v5::dd 5 (yi v1::yO 7 JAE.toD v6::yi (v10.toNat:Int)::AV.d (D.i (AN (Int.tdiv (AN ((v10.toNat:Int) + 7)) 8)))::dd 25 (yb v12::dd 29 ([]))),nn 7 (yR 41 4 JAE.toD v6::nn 57 ([]))⟩) ?_ ?_
  ·intro k13 h;refine sJ h (fun h=>AB wk h) fun h=>?_;refine⟨v5.length,X10 _,?_⟩;refine⟨_,rfl,?_⟩;exact AB wk h
  rintro v12 h;(conv=>whnf);refine .go ?_;refine sJ h ?_ ?_<;>intro h
  ·(conv=>whnf);refine .inl ?_;refine⟨rfl,?_⟩;cases h;exact⟨rfl,rfl⟩
  refine⟨by decide,_,rfl,?_⟩;obtain⟨_,g14,h⟩:=AA h;refine⟨W1 g14 (X29 rfl),D.u8 (0:UInt8),rfl,(List.map D.u8 (List.replicate (Int.toNat (AN (Int.tdiv v1 8))) (0:UInt8))),List.map_replicate.symm,?_⟩;refine⟨_,rfl,?_⟩;obtain⟨v15,g16,h⟩:=AA h;refine⟨FP (f:=D.u8) g16,_,EL (f:=D.u8) g16,?_⟩;refine⟨rfl,List.map D.u8 (cpy (List.replicate (Int.toNat (AN (Int.tdiv v1 8))) (0:UInt8)) 0 (List.replicate (Int.toNat (AN (Int.tdiv v1 8))) (0:UInt8)).length v15),cZ,(min v15.length (List.replicate (Int.toNat (AN (Int.tdiv v1 8))) (0:UInt8)).length),ce,?_⟩;refine⟨(by first | rfl | (simp only[X10];omega)|(simp only[cpy,X10,X21,X11,X18,X17,X20];omega)),?_⟩;obtain⟨⟨v17,v18⟩,g19,h⟩:=AA h;refine⟨_,_,none,GL g19,?_⟩;obtain⟨⟨v20,v21⟩,g22,h⟩:=AA h;refine⟨_,_,some [],Qa g22,?_⟩;(conv=>whnf);refine .inl (dO ?_);refine⟨rfl,?_⟩;obtain⟨v23,g24,h⟩:=AA h;refine⟨rfl,AZ (f:=JAE.toD) (g:=JAE.toD) g24,_,Ab (f:=JAE.toD) g24,?_⟩;refine⟨_,rfl,?_⟩;obtain⟨v25,g26,h⟩:=AA h;refine⟨FY (f:=D.u8) g26,_,Fa (f:=D.u8) g26,?_⟩;(conv=>whnf);refine cO ?_;exact hK9 _ _ wk h
 rintro v3 h;(conv=>whnf);refine .inl ?_;refine⟨rfl,?_⟩;cases h;exact⟨rfl,rfl⟩
theorem KZ {wl:Prop} {a0:List UInt8} {a1:List UInt8} {r:Bool} (h:bytes_Equal a0 a1=some r):CallsOK (Wl wl) Tryz.prog 71 [AV.d (D.l 1 D.u8 a0),AV.d (D.l 1 D.u8 a1)] [] (.d (D.b r)) []:=by
 refine oK Tryz.f71 ⟨rfl,?_⟩;unfold bytes_Equal at h;refine⟨a0,rfl,?_⟩;refine⟨a1,rfl,?_⟩;cases h;exact⟨rfl,rfl⟩
theorem LX {wl:Prop} {a0:List UInt8} {a1:List UInt8} {r:Bool} (h:bytes_HasPrefix a0 a1=some r):CallsOK (Wl wl) Tryz.prog 83 [AV.d (D.l 1 D.u8 a0),AV.d (D.l 1 D.u8 a1)] [] (.d (D.b r)) []:=by
 refine oK Tryz.f83 ⟨rfl,?_⟩;unfold bytes_HasPrefix at h;revert h;refine AG (fun v1=>⟨dd 4 (yb v1::dd 13 ([])),nn 18 ([])⟩) ?_ ?_
 ·intro k2 h;refine⟨a0.length,X10 _,?_⟩;refine⟨a1.length,X10 _,?_⟩;refine sJ h (fun h=>?_) fun h=>AB wk h;refine⟨a1.length,X10 _,?_⟩;obtain⟨v3,g4,h⟩:=AA h;refine⟨FP (f:=D.u8) g4,_,EL (f:=D.u8) g4,?_⟩;obtain⟨v5,g6,h⟩:=AA h;refine⟨_,_,some [],KZ g6,?_⟩;exact AB wk h
 rintro v1 h;cases h;exact⟨rfl,rfl⟩
theorem LS {wl:Prop} {a0:List UInt8} {a1:List UInt8} {r:(List UInt8)×Bool} (h:bytes_CutPrefix a0 a1=some r):CallsOK (Wl wl) Tryz.prog 144 [AV.d (D.l 1 D.u8 a0),AV.d (D.l 1 D.u8 a1)] [] (.tup [.d (D.l 1 D.u8 r.1),.d (D.b r.2)]) []:=by
 refine oK Tryz.f144 ⟨rfl,?_⟩;unfold bytes_CutPrefix at h;obtain⟨v1,g2,h⟩:=AA h;refine⟨_,_,some [],LX g2,?_⟩;(conv=>whnf);refine .go ?_;refine sJ h ?_ ?_<;>intro h
 ·cases h;exact⟨rfl,rfl⟩
 refine⟨a1.length,X10 _,?_⟩;obtain⟨v3,g4,h⟩:=AA h;refine⟨FY (f:=D.u8) g4,_,Fa (f:=D.u8) g4,?_⟩;cases h;exact⟨rfl,rfl⟩
theorem Io {wl:Prop} {a0:JAH} {r:Bool×JAH} (h:CZ a0=some r):CallsOK (Wl wl) Tryz.prog 110 [.ref 0 0] [.box (JAH.av a0)] (.d (D.b r.1)) [.box (JAH.av r.2)]:=by
 refine oK Tryz.f110 ⟨rfl,?_⟩;unfold CZ at h;refine⟨a0.attrs.length,X10 _,?_⟩;revert h;refine AG (fun (v1,v2)=>⟨X::X::X::AV.mp 10::dd 91 ([]),yB (JAH.av v1)::nn 9 (some (OB.map 3 3 (Bh D.i D.i v2))::nn 85 ([]))⟩) ?_ ?_
 ·intro k3 h;revert h;refine Aj 13 3 JAA.toD rfl (fun i4 (v5,v6)=>⟨yr 0 0::X::X::AV.mp 10::dd 9 (AV.d (D.l 3 JAA.toD a0.attrs)::yi (a0.attrs.length:Int)::yi (i4:Int)::dd 79 ([])),yB (JAH.av v5)::nn 9 (some (OB.map 3 3 (Bh D.i D.i v6))::nn 85 ([]))⟩) ?_ ?_ ?_
  ·exact wk
  ·rintro⟨v5,v6⟩ K7 h;(conv=>whnf);refine .go ?_;(conv=>whnf);refine BO C6 ?_;exact AB wk h
  rintro next8 i4 x9 ⟨v5,v6⟩ K7 hii4 hxi4 hwi4 h hK10;(conv=>whnf);refine .go ?_;(conv=>whnf);refine BI (Cd hii4) ?_;(conv=>whnf);refine .go ?_;refine⟨BH (f:=JAA.toD) hii4,JAA.toD x9,hxi4,rfl,?_⟩;obtain⟨v11,g12,h⟩:=AA h;refine⟨_,BS (ek:=D.i) (ev:=D.i) (l:=v6) (k:=x9.Type_) BF,D.i v11,Dn (z:=0) rfl g12,_,rfl,?_⟩;refine⟨_,rfl,?_⟩;refine⟨_,EV (ek:=D.i) (ev:=D.i) (l:=v6) (k:=x9.Type_) (v:=(AN (v11 + 1))) BF,?_⟩;refine⟨rfl,?_⟩;obtain⟨⟨v13,v14⟩,g15,h⟩:=AA h;refine⟨_,_,some [],LS g15,?_⟩;(conv=>whnf);refine .go ?_;revert h;refine AG (fun (v16,v17)=>⟨yr 0 0::X::X::AV.mp 10::dd 4 (yb v16::dd 4 (AV.d (D.l 3 JAA.toD a0.attrs)::yi (a0.attrs.length:Int)::yi (i4:Int)::dd 79 ([]))),yB (JAH.av v17)::nn 9 (some (OB.map 3 3 (Bh D.i D.i (CP v6 x9.Type_ (AN (v11 + 1)))))::nn 85 ([]))⟩) ?_ ?_
  ·intro k18 h;refine sJ h ?_ ?_<;>intro h
   ·revert h;refine AG (fun v19=>⟨yr 0 0::X::X::AV.mp 10::X::X::y3 v13::dd 6 (AV.d (D.l 3 JAA.toD a0.attrs)::yi (a0.attrs.length:Int)::yi (i4:Int)::dd 38 (yb v19::dd 40 ([]))),yB (JAH.av v5)::nn 9 (some (OB.map 3 3 (Bh D.i D.i (CP v6 x9.Type_ (AN (v11 + 1)))))::nn 85 ([]))⟩) ?_ ?_
    ·intro k20 h;refine sJ h (fun h=>AB wk h) fun h=>?_;refine⟨v13.length,X10 _,?_⟩;refine sJ h (fun h=>AB wk h) fun h=>?_;obtain⟨v21,g22,h⟩:=AA h;refine⟨Af (f:=D.u8) g22,D.u8 v21,Ag (f:=D.u8) g22,rfl,?_⟩;refine sJ h (fun h=>AB wk h) fun h=>?_;obtain⟨v23,g24,h⟩:=AA h;refine⟨Af (f:=D.u8) g24,D.u8 v23,Ag (f:=D.u8) g24,rfl,?_⟩;exact AB wk h
    rintro v19 h;(conv=>whnf);refine .go ?_;refine sJ h ?_ ?_<;>intro h
    ·cases h;exact⟨rfl,rfl⟩
    obtain⟨v25,g26,h⟩:=AA h;refine⟨FP (f:=D.u8) g26,_,EL (f:=D.u8) g26,?_⟩;obtain⟨⟨v27,v28⟩,g29,h⟩:=AA h;refine⟨_,_,some [],GL g29,?_⟩;obtain⟨v30,g31,h⟩:=AA h;refine⟨FY (f:=D.u8) g31,_,Fa (f:=D.u8) g31,?_⟩;obtain⟨⟨v32,v33⟩,g34,h⟩:=AA h;refine⟨_,_,some [],EN g34,?_⟩;exact AB wk h
   revert h;refine AG (fun (v35,v36)=>⟨yr 0 0::X::X::AV.mp 10::dd 4 (yb v35::dd 4 (AV.d (D.l 3 JAA.toD a0.attrs)::yi (a0.attrs.length:Int)::yi (i4:Int)::dd 79 ([]))),yB [AV.d (D.l 3 JAA.toD v5.attrs),AV.d (D.b v5.next.V6),AV.d (D.u64 v5.next.Hi),AV.d (D.u64 v5.next.Lo),AV.d (D.l 4 JAE.toD v5.gone4),y5 v36,AV.d (D.l 4 JAE.toD v5.new4),AV.d (D.l 4 JAE.toD v5.new6)]::nn 9 (some (OB.map 3 3 (Bh D.i D.i (CP v6 x9.Type_ (AN (v11 + 1)))))::nn 85 ([]))⟩) ?_ ?_
   ·intro k37 h;refine sJ h (fun h=>?_) fun h=>AB wk h;revert h;refine AG (fun (v38,v39)=>⟨yr 0 0::X::X::AV.mp 10::dd 4 (yb v38::dd 4 (AV.d (D.l 3 JAA.toD a0.attrs)::yi (a0.attrs.length:Int)::yi (i4:Int)::dd 79 ([]))),yB [AV.d (D.l 3 JAA.toD v5.attrs),AV.d (D.b v5.next.V6),AV.d (D.u64 v5.next.Hi),AV.d (D.u64 v5.next.Lo),AV.d (D.l 4 JAE.toD v5.gone4),y5 v39,AV.d (D.l 4 JAE.toD v5.new4),AV.d (D.l 4 JAE.toD v5.new6)]::nn 9 (some (OB.map 3 3 (Bh D.i D.i (CP v6 x9.Type_ (AN (v11 + 1)))))::nn 85 ([]))⟩) ?_ ?_
    ·intro k40 h;refine sJ h (fun h=>?_) fun h=>AB wk h;obtain⟨⟨v41,v42⟩,g43,h⟩:=AA h;refine⟨_,_,some [],EN g43,?_⟩;exact AB wk h
    rintro⟨v38,v39⟩ h;exact AB wk h
   rintro⟨v35,v36⟩ h;exact AB wk h
  rintro⟨v16,v17⟩ h;(conv=>whnf);refine .go ?_;refine sJ h ?_ ?_<;>intro h
  ·cases h;exact⟨rfl,rfl⟩
  refine⟨_,hwi4,?_⟩;exact hK10 _ _ wk h
 rintro⟨v1,v2⟩ h;revert h;refine AG (fun v44=>⟨X::X::yb v44::dd 92 ([]),yB (JAH.av v1)::nn 95 ([])⟩) ?_ ?_
 ·intro k45 h;obtain⟨v46,g47,h⟩:=AA h;refine⟨_,BS (ek:=D.i) (ev:=D.i) (l:=v2) (k:=14) BF,D.i v46,Dn (z:=0) rfl g47,_,rfl,?_⟩;refine sJ h (fun h=>?_) fun h=>AB wk h;obtain⟨v48,g49,h⟩:=AA h;refine⟨_,BS (ek:=D.i) (ev:=D.i) (l:=v2) (k:=15) BF,D.i v48,Dn (z:=0) rfl g49,_,rfl,?_⟩;exact AB wk h
 rintro v44 h;cases h;exact⟨rfl,rfl⟩
theorem Jx {wl:Prop} {a0:JAH} {a1:List UInt8} {r:Bool×JAH} (h:Ci a0 a1=some r):CallsOK (Wl wl) Tryz.prog 58 [.ref 0 0,AV.d (D.l 1 D.u8 a1)] [.box (JAH.av a0)] (.d (D.b r.1)) [.box (JAH.av r.2)]:=by
 refine oK Tryz.f58 ⟨rfl,?_⟩;unfold Ci at h;obtain⟨⟨v1,v2,v3⟩,g4,h⟩:=AA h;refine⟨_,_,some [],LM g4,?_⟩;(conv=>whnf);refine .go ?_;refine sJ h ?_ ?_<;>intro h
 ·cases h;exact⟨rfl,rfl⟩
 obtain⟨⟨v5,v6,v7⟩,g8,h⟩:=AA h;refine⟨_,_,some [],LM g8,?_⟩;(conv=>whnf);refine .go ?_;refine sJ h ?_ ?_<;>intro h
 ·cases h;exact⟨rfl,rfl⟩
 obtain⟨⟨v9,v10⟩,g11,h⟩:=AA h;refine⟨_,_,some [],LU g11,?_⟩;revert h;refine AG (fun (v12,v13)=>⟨yr 0 0::y3 v6::X::X::X::y3 v1::dd 34 (yb v12::dd 76 ([])),yB (JAH.av v13)::nn 117 ([])⟩) ?_ ?_
 ·intro k14 h;refine sJ h (fun h=>AB wk h) fun h=>?_;obtain⟨⟨v15,v16⟩,g17,h⟩:=AA h;refine⟨_,_,some [],Io g17,?_⟩;exact AB wk h
 rintro⟨v12,v13⟩ h;(conv=>whnf);refine .go ?_;refine sJ h ?_ ?_<;>intro h
 ·cases h;exact⟨rfl,rfl⟩
 obtain⟨⟨v18,v19⟩,g20,h⟩:=AA h;refine⟨_,_,some [],EN g20,?_⟩;obtain⟨⟨v21,v22⟩,g23,h⟩:=AA h;refine⟨_,_,some [],EN g23,?_⟩;revert h;refine AG (fun v24=>⟨yr 0 0::dd 105 (yb v24::dd 10 ([])),yB [AV.d (D.l 3 JAA.toD v13.attrs),AV.d (D.b v13.next.V6),AV.d (D.u64 v13.next.Hi),AV.d (D.u64 v13.next.Lo),y5 v18,AV.d (D.l 4 JAE.toD v13.gone6),y5 v21,AV.d (D.l 4 JAE.toD v13.new6)]::nn 117 ([])⟩) ?_ ?_
 ·intro k25 h;(conv=>whnf);refine .inl (dO ?_);refine sJ h ?_ ?_<;>intro h
  ·(conv=>whnf);refine cO ?_;exact AB wk h
  refine sJ h ?_ ?_<;>intro h
  ·(conv=>whnf);refine cO ?_;exact AB wk h
  refine⟨v21.length,X10 _,?_⟩;refine sJ h ?_ ?_<;>intro h
  ·refine⟨v13.new6.length,X10 _,?_⟩;refine sJ h ?_ ?_<;>intro h
   ·(conv=>whnf);refine cO ?_;exact AB wk h
   refine⟨v18.length,X10 _,?_⟩;refine⟨v13.gone6.length,X10 _,?_⟩;refine⟨_,rfl,?_⟩;refine sJ h ?_ ?_<;>intro h
   ·(conv=>whnf);refine cO ?_;exact AB wk h
   refine⟨v21.length,X10 _,?_⟩;refine⟨v13.new6.length,X10 _,?_⟩;refine⟨_,rfl,?_⟩;(conv=>whnf);refine cO ?_;exact AB wk h
  refine⟨v18.length,X10 _,?_⟩;refine⟨v13.gone6.length,X10 _,?_⟩;refine⟨_,rfl,?_⟩;refine sJ h ?_ ?_<;>intro h
  ·(conv=>whnf);refine cO ?_;exact AB wk h
  refine⟨v21.length,X10 _,?_⟩;refine⟨v13.new6.length,X10 _,?_⟩;refine⟨_,rfl,?_⟩;(conv=>whnf);refine cO ?_;exact AB wk h
 rintro v24 h;(conv=>whnf);refine .go ?_;refine sJ h ?_ ?_<;>intro h
 ·cases h;exact⟨rfl,rfl⟩
 obtain⟨⟨v26,v27⟩,g28,h⟩:=AA h;refine⟨_,_,some [],M4 g28,?_⟩;cases h;exact⟨rfl,rfl⟩
theorem Ii {wl:Prop} {a0:JAA} {a1:Int} {r:Bool×Int} (h:Cb a0 a1=some r):CallsOK (Wl wl) Tryz.prog 126 [AV.d (JAA.toD a0),.ref 0 0] [.box [.d (D.i a1)]] (.d (D.b r.1)) [.box [.d (D.i r.2)]]:=by
 refine oK Tryz.f126 ⟨rfl,?_⟩;unfold Cb at h;cases h;exact⟨rfl,rfl⟩
theorem Bw {wl:Prop} {a0:List JAA} {a1c0:Int} {r:Int×Int} (h:Ah a0 a1c0=some r):CallsOK (Wl wl) Tryz.prog 147 [AV.d (D.l 3 JAA.toD a0),AV.fn 126 [.ref 0 0]] [.box [.d (D.i a1c0)]] (.d (D.i r.1)) [.box [.d (D.i r.2)]]:=by
 refine oK Tryz.f147 ⟨rfl,?_⟩;unfold Ah at h;refine⟨a0.length,X10 _,?_⟩;revert h;refine AG (fun v1=>⟨dd 19 ([]),yB [yi v1]::nn 19 ([])⟩) ?_ ?_
 ·intro k2 h;revert h;refine Aj 6 3 JAA.toD rfl (fun i3 v4=>⟨y4 a0::AV.fn 126 [yr 0 0]::dd 4 (y4 a0::yi (a0.length:Int)::yi (i3:Int)::dd 10 ([])),yB [yi v4]::nn 19 ([])⟩) ?_ ?_ ?_
  ·exact wk
  ·rintro v4 K5 h;(conv=>whnf);refine .go ?_;(conv=>whnf);refine BO C6 ?_;exact AB wk h
  rintro next6 i3 x7 v4 K5 hii3 hxi3 hwi3 h hK8;(conv=>whnf);refine .go ?_;(conv=>whnf);refine BI (Cd hii3) ?_;(conv=>whnf);refine .go ?_;refine⟨BH (f:=JAA.toD) hii3,JAA.toD x7,hxi3,rfl,?_⟩;obtain⟨⟨v9,v10⟩,g11,h⟩:=AA h;refine⟨_,_,some [],Ii g11,?_⟩;(conv=>whnf);refine .go ?_;refine sJ h ?_ ?_<;>intro h
  ·cases h;exact⟨rfl,rfl⟩
  refine⟨_,hwi3,?_⟩;exact hK8 _ _ wk h
 rintro v1 h;cases h;exact⟨rfl,rfl⟩
theorem Bn {wl:Prop} {a0:List JAA} {a1c0:Int} {r:Bool×Int} (h:Ae a0 a1c0=some r):CallsOK (Wl wl) Tryz.prog 114 [AV.d (D.l 3 JAA.toD a0),AV.fn 126 [.ref 0 0]] [.box [.d (D.i a1c0)]] (.d (D.b r.1)) [.box [.d (D.i r.2)]]:=by
 refine oK Tryz.f114 ⟨rfl,?_⟩;unfold Ae at h;obtain⟨⟨v1,v2⟩,g3,h⟩:=AA h;refine⟨_,_,some [],Bw g3,?_⟩;cases h;exact⟨rfl,rfl⟩
theorem Je {wl:Prop} {a0:JAH} {a1:Int} {r:Bool×JAH} (h:DU a0 a1=some r):CallsOK (Wl wl) Tryz.prog 73 [.ref 0 0,AV.d (D.i a1)] [.box (JAH.av a0)] (.d (D.b r.1)) [.box (JAH.av r.2)]:=by
 refine oK Tryz.f73 ⟨rfl,?_⟩;unfold DU at h;obtain⟨⟨v1,v2⟩,g3,h⟩:=AA h;refine⟨_,_,some [],Bn g3,?_⟩;cases h;exact⟨rfl,rfl⟩
theorem Ql {wl:Prop} {a0:List UInt8} {r:Bool×Bool} (h:Gx a0=some r):CallsOK (Wl wl) Tryz.prog 31 [AV.d (D.l 1 D.u8 a0)] [] (.tup [.d (D.b r.1),.d (D.b r.2)]) []:=by
 refine oK Tryz.f31 ⟨rfl,?_⟩;unfold Gx at h;obtain⟨_,g1,h⟩:=AA h;refine⟨W1 g1 (X29 rfl),D.u8 (0:UInt8),rfl,(List.map D.u8 (List.replicate (Int.toNat 4) (0:UInt8))),List.map_replicate.symm,?_⟩;refine⟨rfl,?_⟩;obtain⟨v2,g3,h⟩:=AA h;refine⟨_,_,none,KZ g3,?_⟩;(conv=>whnf);refine .go ?_;refine sJ h ?_ ?_<;>intro h
 ·cases h;exact⟨rfl,rfl⟩
 revert h;refine AG (fun v4=>⟨dd 48 (yb v4::[]),nn 49 ([])⟩) ?_ ?_
 ·intro k5 h;obtain⟨⟨v6,v7⟩,g8,h⟩:=AA h;refine⟨_,_,some [],(Jx g8).box1 ⟨.inr ⟨_,rfl,rfl⟩,.inl rfl,.inl rfl,.inl rfl,.inr ⟨_,rfl,rfl⟩,.inr ⟨_,rfl,rfl⟩,.inr ⟨_,rfl,rfl⟩,.inr ⟨_,rfl,rfl⟩,True.intro⟩,?_⟩;refine sJ h (fun h=>AB wk h) fun h=>?_;refine⟨a0.length,X10 _,?_⟩;obtain⟨v9,g10,h⟩:=AA h;refine⟨FY (f:=D.u8) g10,_,Fa (f:=D.u8) g10,?_⟩;obtain⟨v11,g12,h⟩:=AA h;refine⟨_,_,some [],Gp g12,?_⟩;refine⟨_,rfl,?_⟩;refine sJ h (fun h=>AB wk h) fun h=>?_;refine⟨v7.attrs.length,X10 _,?_⟩;refine sJ h (fun h=>AB wk h) fun h=>?_;obtain⟨⟨v13,v14⟩,g15,h⟩:=AA h;refine⟨_,_,some [],Je g15,?_⟩;refine sJ h (fun h=>AB wk h) fun h=>?_;obtain⟨v16,g17,h⟩:=AA h;refine⟨_,_,some [],Gp g17,?_⟩;refine sJ h (fun h=>AB wk h) fun h=>?_;refine⟨v14.gone6.length,X10 _,?_⟩;exact AB wk h
 rintro v4 h;(conv=>whnf);refine .go ?_;refine sJ h ?_ ?_<;>intro h
 ·cases h;exact⟨rfl,rfl⟩
 cases h;exact⟨rfl,rfl⟩
theorem J8 {wl:Prop}  {r:Bool} (h:F4=some r):CallsOK (Wl wl) Tryz.prog 24 [] [] (.d (D.b r)) []:=by
 refine oK Tryz.f24 ⟨rfl,?_⟩;unfold F4 at h;(conv=>whnf);refine .inl (dO ?_);obtain⟨v1,g2,h⟩:=AA h;refine⟨_,_,J7 g2,.inl rfl,?_⟩;refine⟨rfl,?_⟩;obtain⟨⟨v3,v4⟩,g5,h⟩:=AA h;refine⟨_,_,IZ g5,.inl rfl,?_⟩;(conv=>whnf);refine cO ?_;refine⟨rfl,?_⟩;obtain⟨⟨v6,v7⟩,g8,h⟩:=AA h;refine⟨_,_,none,Ql g8,?_⟩;revert h;refine AG (fun v9=>⟨yb v9::dd 34 ([]),nn 35 ([])⟩) ?_ ?_
 ·intro k10 h;refine sJ h (fun h=>?_) fun h=>AB wk h;refine⟨v3,rfl,?_⟩;refine sJ h (fun h=>?_) fun h=>AB wk h;exact sJ h (fun h=>AB wk h) fun h=>AB wk h
 rintro v9 h;cases h;exact⟨rfl,rfl⟩
end Go.AX.Q19
end
section
namespace Go.AX.Q19
open Go Go.AX Go.Proofs
set_option maxRecDepth 100000
set_option maxHeartbeats 4000000
set_option linter.unusedVariables false
theorem law19_UpdateEncodes_ok {wl:Prop} {a0:List Int} {a1:Int} {a2:Int} {r:Bool} (h:CB a0 a1 a2=some r):CallsOK (Wl wl) Tryz.prog 3 [AV.d (D.l 1 D.i a0),AV.d (D.i a1),AV.d (D.i a2)] [] (.d (D.b r)) []:=by
 refine okx 2 Tryz.f3 (by kernel_rfl) (by kernel_rfl) ⟨rfl,?_⟩;unfold CB at h;obtain⟨v1,g2,h⟩:=AA h;refine⟨_,_,some [18],O0 g2,?_⟩;obtain⟨⟨v3,v4⟩,g5,h⟩:=AA h;refine⟨_,_,some [],Ky g5,?_⟩;obtain⟨v6,g7,h⟩:=AA h;refine⟨_,_,some [],F5 g7,?_⟩;revert h;refine AG (fun v8=>⟨dd 8 (yr 8 0::yr 9 0::dd 135 ([])),nn 8 (yB (JAG.av v3)::yB (JAG.av v8)::nn 137 ([]))⟩) ?_ ?_
 ·intro k9 h;revert h;refine AG (fun v10=>⟨dd 8 (yr 8 0::yr 9 0::dd 135 ([])),nn 8 (yB (JAG.av v3)::yB (JAG.av v10)::nn 137 ([]))⟩) ?_ ?_
  ·intro k11 h;refine sJ h ?_ ?_<;>intro h
   ·obtain⟨⟨v12,v13⟩,g14,h⟩:=AA h;refine⟨_,_,some [],H5 g14,?_⟩;exact AB wk h
   revert h;refine AG (fun (v15,v16,v17,v18,v19,v20,v21,v22,v23,v24,v25,v26,v27)=>⟨dd 8 (yr 8 0::yr 9 0::dd 135 ([])),nn 8 (yB (JAG.av v3)::yB [y5 v15,yi v16,y0 v17,yb v18,yu v19,yu v20,yi v21,yi v22,yi v23,y1 v24,y2 v25,y4 v26,y5 v27]::nn 137 ([]))⟩) ?_ ?_
   ·intro k28 h;refine sJ h ?_ ?_<;>intro h
    ·obtain⟨_,g29,h⟩:=AA h;refine⟨Ed (g:=JAE.toD) g29,?_⟩;obtain⟨⟨v30,v31⟩,g32,h⟩:=AA h;refine⟨_,_,some [],D3 g32,?_⟩;refine⟨rfl,?_⟩;obtain⟨v33,g34,h⟩:=AA h;refine⟨rfl,AZ (f:=JAE.toD) (g:=JAE.toD) g34,_,Ab (f:=JAE.toD) g34,?_⟩;exact AB wk h
    revert h;refine AG (fun (v35,v36,v37,v38,v39,v40,v41,v42,v43,v44,v45,v46,v47)=>⟨dd 8 (yr 8 0::yr 9 0::dd 135 ([])),nn 8 (yB (JAG.av v3)::yB [y5 v35,yi v36,y0 v37,yb v38,yu v39,yu v40,yi v41,yi v42,yi v43,y1 v44,y2 v45,y4 v46,y5 v47]::nn 137 ([]))⟩) ?_ ?_
    ·intro k48 h;refine sJ h ?_ ?_<;>intro h
     ·obtain⟨v49,g50,h⟩:=AA h;refine⟨_,_,some [],F5 g50,?_⟩;refine⟨_,rfl,?_⟩;revert h;refine AG (fun v51=>⟨dd 8 (yr 8 0::yr 9 0::dd 135 ([])),nn 8 (yB (JAG.av v3)::yB [yO 82 JAE.toD v51,AV.d (D.i v3.JAD.Origin),AV.d (D.l 2 JAC.toD v3.JAD.Path),AV.d (D.b v3.JAD.Next.V6),AV.d (D.u64 v3.JAD.Next.Hi),AV.d (D.u64 v3.JAD.Next.Lo),AV.d (D.i v3.JAD.MED),AV.d (D.i v3.JAD.Pref),AV.d (D.i v3.JAD.OTC),AV.d (D.l 2 JAB.toD v3.JAD.Communities),AV.d (D.l 3 JAF.toD v3.JAD.JAF),AV.d (D.l 3 JAA.toD v3.JAD.Other),AV.d (D.l 4 JAE.toD v3.Announce)]::nn 72 (yR 41 4 JAE.toD v51::nn 64 ([])))⟩) ?_ ?_
      ·intro k52 h;revert h;refine Am (fun (v53,v54)=>⟨X::X::yi a2::dd 5 (yr 8 0::yr 9 0::dd 58 (yi (AN (255 + v49))::yi v53::dd 75 ([]))),nn 8 (yB (JAG.av v3)::yB [yO 82 JAE.toD v54,AV.d (D.i v3.JAD.Origin),AV.d (D.l 2 JAC.toD v3.JAD.Path),AV.d (D.b v3.JAD.Next.V6),AV.d (D.u64 v3.JAD.Next.Hi),AV.d (D.u64 v3.JAD.Next.Lo),AV.d (D.i v3.JAD.MED),AV.d (D.i v3.JAD.Pref),AV.d (D.i v3.JAD.OTC),AV.d (D.l 2 JAB.toD v3.JAD.Communities),AV.d (D.l 3 JAF.toD v3.JAD.JAF),AV.d (D.l 3 JAA.toD v3.JAD.Other),AV.d (D.l 4 JAE.toD v3.Announce)]::nn 72 (yR 41 4 JAE.toD v54::nn 64 ([])))⟩) ?_ ?_
       ·exact wk
       rintro next55 ⟨v53,v54⟩ K56 h hK57;(conv=>whnf);refine .go ?_;refine sJ h (fun h=>?_) fun h=>AB wk h;(conv=>whnf);refine .go ?_;(conv=>whnf);refine .inl (dO ?_);refine⟨_,rfl,?_⟩;obtain⟨v58,g59,h⟩:=AA h;refine⟨_,_,F5 g59,.inl rfl,?_⟩;refine⟨_,rfl,?_⟩;refine⟨rfl,?_⟩;obtain⟨v60,g61,h⟩:=AA h;refine⟨rfl,AZ (f:=JAE.toD) (g:=JAE.toD) g61,_,Ab (f:=JAE.toD) g61,?_⟩;(conv=>whnf);refine cO ?_;refine⟨_,rfl,?_⟩;exact hK57 _ _ wk h
      rintro v51 h;exact AB wk h
     revert h;refine AG (fun (v62,v63,v64,v65,v66,v67,v68,v69,v70,v71,v72,v73,v74)=>⟨dd 8 (yr 8 0::yr 9 0::dd 135 ([])),nn 8 (yB (JAG.av v3)::yB [y5 v62,yi v63,y0 v64,yb v65,yu v66,yu v67,yi v68,yi v69,yi v70,y1 v71,y2 v72,y4 v73,y5 v74]::nn 137 ([]))⟩) ?_ ?_
     ·intro k75 h;refine sJ h ?_ ?_<;>intro h
      ·obtain⟨_,g76,h⟩:=AA h;refine⟨Ed (g:=JAE.toD) g76,?_⟩;obtain⟨v77,g78,h⟩:=AA h;refine⟨_,_,some [],F5 g78,?_⟩;refine⟨rfl,?_⟩;obtain⟨v79,g80,h⟩:=AA h;refine⟨rfl,AZ (f:=JAE.toD) (g:=JAE.toD) g80,_,Ab (f:=JAE.toD) g80,?_⟩;exact AB wk h
      revert h;refine AG (fun (v81,v82,v83,v84,v85,v86,v87,v88,v89,v90,v91,v92)=>⟨dd 8 (yr 8 0::yr 9 0::dd 135 ([])),nn 8 (yB (JAG.av v3)::yB [AV.d (D.l 4 JAE.toD v3.Withdraw),yi v81,y0 v82,yb v83,yu v84,yu v85,yi v86,yi v87,yi v88,y1 v89,y2 v90,y4 v91,y5 v92]::nn 137 ([]))⟩) ?_ ?_
      ·intro k93 h;refine sJ h (fun h=>AB wk h) fun h=>?_;revert h;refine AG (fun _=>⟨X::X::yi a2::dd 5 (yr 8 0::yr 9 0::dd 15 (AV.d (D.agg [D.i (-1),D.nil 2,D.b false,D.u64 (0:UInt64),D.u64 (0:UInt64),D.i (-1),D.i (-1),D.i (-1),D.nil 2,D.nil 3,D.nil 3])::dd 119 ([]))),nn 8 (yB (JAG.av v3)::yB [AV.d (D.l 4 JAE.toD v3.Withdraw),AV.d (D.i v3.JAD.Origin),AV.d (D.l 2 JAC.toD v3.JAD.Path),AV.d (D.b v3.JAD.Next.V6),AV.d (D.u64 v3.JAD.Next.Hi),AV.d (D.u64 v3.JAD.Next.Lo),AV.d (D.i v3.JAD.MED),AV.d (D.i v3.JAD.Pref),AV.d (D.i v3.JAD.OTC),AV.d (D.l 2 JAB.toD v3.JAD.Communities),AV.d (D.l 3 JAF.toD v3.JAD.JAF),AV.d (D.l 3 JAA.toD v3.JAD.Other),AV.d (D.nil 4)]::nn 137 ([]))⟩) ?_ ?_
       ·intro k94 h;(conv=>whnf);refine inl Tryz.f17 145 (by kernel_rfl) (by kernel_rfl) ⟨rfl,?_⟩;exact AB wk h
       rintro _ h;obtain⟨v95,g96,h⟩:=AA h;refine⟨_,_,some [],F5 g96,?_⟩;refine⟨_,rfl,?_⟩;revert h;refine AG (fun v97=>⟨dd 8 (yr 8 0::yr 9 0::dd 135 ([])),nn 8 (yB (JAG.av v3)::yB [AV.d (D.l 4 JAE.toD v3.Withdraw),yi 0,AV.d (D.nil 2),yb true,yu (0:UInt64),yu (1:UInt64),yi (-1),yi (-1),yi (-1),AV.d (D.nil 2),AV.d (D.nil 3),AV.d (D.nil 3),yO 45 JAE.toD v97]::nn 35 (yR 41 4 JAE.toD v97::nn 101 ([])))⟩) ?_ ?_
       ·intro k98 h;revert h;refine Am (fun (v99,v100)=>⟨dd 8 (yr 8 0::yr 9 0::dd 24 (yi (AN (100 + v95))::yi v99::dd 109 ([]))),nn 8 (yB (JAG.av v3)::yB [AV.d (D.l 4 JAE.toD v3.Withdraw),yi 0,AV.d (D.nil 2),yb true,yu (0:UInt64),yu (1:UInt64),yi (-1),yi (-1),yi (-1),AV.d (D.nil 2),AV.d (D.nil 3),AV.d (D.nil 3),yO 45 JAE.toD v100]::nn 35 (yR 41 4 JAE.toD v100::nn 101 ([])))⟩) ?_ ?_
        ·exact wk
        rintro next101 ⟨v99,v100⟩ K102 h hK103;(conv=>whnf);refine .go ?_;refine sJ h (fun h=>?_) fun h=>AB wk h;(conv=>whnf);refine .go ?_;refine⟨_,Aq _,?_⟩;refine⟨rfl,?_⟩;obtain⟨v104,g105,h⟩:=AA h;refine⟨rfl,AZ (f:=JAE.toD) (g:=JAE.toD) g105,_,Ab (f:=JAE.toD) g105,?_⟩;refine⟨_,rfl,?_⟩;exact hK103 _ _ wk h
       rintro v97 h;exact AB wk h
      rintro⟨v81,v82,v83,v84,v85,v86,v87,v88,v89,v90,v91,v92⟩ h;exact AB wk h
     rintro⟨v62,v63,v64,v65,v66,v67,v68,v69,v70,v71,v72,v73,v74⟩ h;exact AB wk h
    rintro⟨v35,v36,v37,v38,v39,v40,v41,v42,v43,v44,v45,v46,v47⟩ h;exact AB wk h
   rintro⟨v15,v16,v17,v18,v19,v20,v21,v22,v23,v24,v25,v26,v27⟩ h;exact AB wk h
  rintro v10 h;exact AB wk h
 rintro v8 h;refine⟨([v3,v8]:List JAG).length,by first | exact X10 _ | rfl | (simp only[X10];omega),?_⟩;revert h;refine AG (fun _=>⟨dd 145 ([]),nn 147 ([])⟩) ?_ ?_
 ·intro k106 h;revert h;refine MO 103 36 13 .no JAG.toD rfl (fun i107 _=>⟨dd 103 (yO 103 JAG.toD ([v3,v8]:List JAG)::yi (([v3,v8]:List JAG).length:Int)::yi (i107:Int)::dd 39 ([])),nn 103 (yR 36 13 JAG.toD ([v3,v8]:List JAG)::nn 43 ([]))⟩) ?_ ?_ ?_
  ·exact wk
  ·rintro _ K108 h;(conv=>whnf);refine .go ?_;exact AB wk h
  rintro next109 i107 x110 _ K108 hii107 hxi107 hwi107 h hK111;(conv=>whnf);refine .go ?_;(conv=>whnf);refine BI (Cd hii107) ?_;(conv=>whnf);refine .go ?_;refine⟨rfl,BH (f:=JAG.toD) hii107,?_⟩;refine⟨rfl,JAG.toD x110,hxi107,?_⟩;obtain⟨⟨v112,v113⟩,g114,h⟩:=AA h;refine⟨_,_,some [],IZ g114,?_⟩;obtain⟨⟨v115,v116⟩,g117,h⟩:=AA h;refine⟨_,_,some [],JQ g117,?_⟩;revert h;refine AG (fun v118=>⟨dd 103 (yO 103 JAG.toD ([v3,v8]:List JAG)::yi (([v3,v8]:List JAG).length:Int)::yi (i107:Int)::dd 36 (yb v118::X::X::[])),nn 103 (yR 36 13 JAG.toD ([v3,v8]:List JAG)::nn 43 ([]))⟩) ?_ ?_
  ·intro k119 h;(conv=>whnf);refine .inl (dO ?_);obtain⟨v120,g121,h⟩:=AA h;refine⟨_,_,FX g121,.inl rfl,?_⟩;obtain⟨v122,g123,h⟩:=AA h;refine⟨_,_,Hz g123,.inl rfl,?_⟩;refine sJ h ?_ ?_<;>intro h
   ·(conv=>whnf);refine cO ?_;exact AB wk h
   obtain⟨v124,g125,h⟩:=AA h;refine⟨_,_,He g125,.inl rfl,?_⟩;obtain⟨v126,g127,h⟩:=AA h;refine⟨_,_,RG g127,.inl rfl,?_⟩;refine sJ h ?_ ?_<;>intro h
   ·(conv=>whnf);refine cO ?_;exact AB wk h
   refine⟨v112,rfl,?_⟩;refine⟨v115,rfl,?_⟩;refine sJ h ?_ ?_<;>intro h
   ·(conv=>whnf);refine cO ?_;exact AB wk h
   (conv=>whnf);refine cO ?_;exact AB wk h
  rintro v118 h;(conv=>whnf);refine .go ?_;refine sJ h ?_ ?_<;>intro h
  ·cases h;exact⟨rfl,rfl⟩
  refine⟨_,hwi107,?_⟩;exact hK111 _ _ wk h
 rintro _ h;obtain⟨v128,g129,h⟩:=AA h;refine⟨_,_,some [],J8 g129,?_⟩;cases h;exact⟨rfl,rfl⟩
theorem law19_UpdateSizes_ok {wl:Prop} {a0:List Int} {r:Bool} (h:Ce a0=some r):CallsOK (Wl wl) Tryz.prog 4 [AV.d (D.l 1 D.i a0)] [] (.d (D.b r)) []:=by
 refine okx 2 Tryz.f4 (by kernel_rfl) (by kernel_rfl) ⟨rfl,?_⟩;unfold Ce at h;obtain⟨v1,g2,h⟩:=AA h;refine⟨_,_,some [9],O0 g2,?_⟩;revert h;refine AG (fun _=>⟨X::X::X::yr 9 0::dd 6 (AV.d (D.agg [D.i (-1),D.nil 2,D.b false,D.u64 (0:UInt64),D.u64 (0:UInt64),D.i (-1),D.i (-1),D.i (-1),D.nil 2,D.nil 3,D.nil 3])::dd 38 ([])),nn 9 (yB (JAI.av v1)::nn 41 ([]))⟩) ?_ ?_
 ·intro k3 h;(conv=>whnf);refine inl Tryz.f17 49 (by kernel_rfl) (by kernel_rfl) ⟨rfl,?_⟩;exact AB wk h
 rintro _ h;obtain⟨v4,g5,h⟩:=AA h;refine⟨_,_,some [],He g5,?_⟩;(conv=>whnf);refine .go ?_;refine sJ h ?_ ?_<;>intro h
 ·cases h;exact⟨rfl,rfl⟩
 obtain⟨⟨v6,v7⟩,g8,h⟩:=AA h;refine⟨_,_,some [],AK g8,?_⟩;revert h;refine AG (fun v9=>⟨dd 4 (yr 4 0::dd 44 ([])),nn 4 (yB [yO 31 JAE.toD v9,yi (-1),AV.d (D.nil 2),yb false,yu (0:UInt64),yu (0:UInt64),yi (-1),yi (-1),yi (-1),AV.d (D.nil 2),AV.d (D.nil 3),AV.d (D.nil 3),AV.d (D.nil 4)]::nn 26 (yR 41 4 JAE.toD v9::nn 19 ([])))⟩) ?_ ?_
 ·intro k10 h;revert h;refine Am (fun (v11,v12,v13,v14)=>⟨X::X::X::yr 9 0::yr 4 0::yi v11::yi v12::dd 42 ([]),nn 4 (yB [yO 31 JAE.toD v14,yi (-1),AV.d (D.nil 2),yb false,yu (0:UInt64),yu (0:UInt64),yi (-1),yi (-1),yi (-1),AV.d (D.nil 2),AV.d (D.nil 3),AV.d (D.nil 3),AV.d (D.nil 4)]::nn 4 (yB (JAI.av v13)::nn 21 (yR 41 4 JAE.toD v14::nn 19 ([]))))⟩) ?_ ?_
  ·exact wk
  rintro next15 ⟨v11,v12,v13,v14⟩ K16 h hK17;(conv=>whnf);refine .go ?_;refine sJ h (fun h=>?_) fun h=>AB wk h;revert h;refine AG (fun (v18,v19,v20)=>⟨X::X::X::yr 9 0::yr 4 0::yi v18::yi v12::dd 42 ([]),nn 4 (yB [yO 31 JAE.toD v20,yi (-1),AV.d (D.nil 2),yb false,yu (0:UInt64),yu (0:UInt64),yi (-1),yi (-1),yi (-1),AV.d (D.nil 2),AV.d (D.nil 3),AV.d (D.nil 3),AV.d (D.nil 4)]::nn 4 (yB (JAI.av v19)::nn 21 (yR 41 4 JAE.toD v20::nn 19 ([]))))⟩) ?_ ?_
  ·intro k21 h;obtain⟨⟨v22,v23⟩,g24,h⟩:=AA h;refine⟨_,_,some [],D3 g24,?_⟩;(conv=>whnf);refine .go ?_;refine sJ h (fun h=>AB wk h) fun h=>?_;refine⟨rfl,?_⟩;obtain⟨v25,g26,h⟩:=AA h;refine⟨rfl,AZ (f:=JAE.toD) (g:=JAE.toD) g26,_,Ab (f:=JAE.toD) g26,?_⟩;refine⟨_,rfl,?_⟩;refine⟨by decide,_,rfl,?_⟩;refine⟨_,rfl,?_⟩;refine⟨_,rfl,?_⟩;refine⟨rfl,?_⟩;obtain⟨v27,g28,h⟩:=AA h;refine⟨_,_,none,He g28,?_⟩;(conv=>whnf);refine .go ?_;refine sJ h (fun h=>?_) fun h=>AB wk h;cases h;exact⟨rfl,rfl⟩
  rintro⟨v18,v19,v20⟩ h;refine⟨_,rfl,?_⟩;exact hK17 _ _ wk h
 rintro v9 h;revert h;refine AG (fun v29=>⟨X::X::yb v29::dd 46 ([]),nn 51 ([])⟩) ?_ ?_
 ·intro k30 h;refine⟨rfl,?_⟩;obtain⟨v31,g32,h⟩:=AA h;refine⟨_,_,none,FX g32,?_⟩;refine sJ h (fun h=>?_) fun h=>AB wk h;obtain⟨v33,g34,h⟩:=AA h;refine⟨_,_,some [],J8 g34,?_⟩;exact AB wk h
 rintro v29 h;cases h;exact⟨rfl,rfl⟩
end Go.AX.Q19
end
