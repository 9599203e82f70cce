/-
  Texts of one proof, packed: Q33P14 Q33P15 Q33P17 Q33P18 Q33P19.
-/
import Derived.Test.YtdljbnbckcecdaaGreatDoorK2
import Derived.Test.YtdljbnbckcecdaaGreatDoorK4
set_option linter.all false
open List renaming length_map→X10,length_append→X11,length_cons→X12,length_nil→X13,mem_singleton→X14,getElem?_eq_getElem→X15,getElem?_eq_some_iff→X16,length_drop→X17,length_take→X18,mem_cons_of_mem→X19,length_replicate→X20,length_set→X21,length_singleton→X22,mem_append→X23
open Option.some renaming injEq→X24,inj→X25
open Prod.mk renaming injEq→X26
open Bool renaming and_eq_true→X27,eq_iff_iff→X28
open Nat renaming le_of_ble_eq_true→X29,eq_of_beq_eq_true→X30,mul_le_mul_right→X31,add_mul→X32
section
namespace Go.AX.Q33
open Go Go.AX Go.Proofs
set_option maxRecDepth 100000
set_option maxHeartbeats 4000000
set_option linter.unusedVariables false
theorem PK {wl:Prop} {a0:JAB} {a1:Int} {r:Addr×(List JAD)×Bool} (h:C2 a0 a1=some r):CallsOK (Wl wl) Tryz.prog 62 [AV.d (JAB.toD a0),AV.d (D.i a1)] [] (.tup [.d (Addr.toD r.1),.d (D.l 4 JAD.toD r.2.1),.d (D.b r.2.2)]) []:=by
 refine okx 64 Tryz.f62 (by kernel_rfl) (by kernel_rfl) ⟨rfl,?_⟩;unfold C2 at h;(conv=>whnf);refine .go ?_;refine sJ h ?_ ?_<;>intro h
 ·cases h;exact⟨rfl,rfl⟩
 revert h;refine AD (fun v1=>⟨dd 4 (yr 4 0::X::X::AV.d (D.l 1 D.u8 a0.Data)::dd 45 (yb v1::dd 16 ([]))),nn 4 (yB Addr.zv::nn 129 ([]))⟩) ?_ ?_
 ·intro k2 h;refine sJ h (fun h=>AA wk h) fun h=>?_;refine⟨a0.Data.length,X10 _,?_⟩;refine sJ h (fun h=>AA wk h) fun h=>?_;obtain⟨v3,g4,h⟩:=AB h;refine⟨AL (f:=D.u8) g4,D.u8 v3,AM (f:=D.u8) g4,rfl,?_⟩;refine sJ h (fun h=>AA wk h) fun h=>?_;obtain⟨v5,g6,h⟩:=AB h;refine⟨AL (f:=D.u8) g6,D.u8 v5,AM (f:=D.u8) g6,rfl,?_⟩;refine sJ h (fun h=>AA wk h) fun h=>?_;obtain⟨v7,g8,h⟩:=AB h;refine⟨AL (f:=D.u8) g8,D.u8 v7,AM (f:=D.u8) g8,rfl,?_⟩;refine sJ h (fun h=>AA wk h) fun h=>?_;obtain⟨v9,g10,h⟩:=AB h;refine⟨AL (f:=D.u8) g10,D.u8 v9,AM (f:=D.u8) g10,rfl,?_⟩;refine sJ h (fun h=>AA wk h) fun h=>?_;obtain⟨v11,g12,h⟩:=AB h;refine⟨AL (f:=D.u8) g12,D.u8 v11,AM (f:=D.u8) g12,rfl,?_⟩;exact AA wk h
 rintro v1 h;(conv=>whnf);refine .go ?_;refine sJ h ?_ ?_<;>intro h
 ·(conv=>whnf);refine .inl ?_;refine⟨rfl,?_⟩;cases h;exact⟨rfl,rfl⟩
 obtain⟨v13,g14,h⟩:=AB h;refine⟨BX (f:=D.u8) g14,_,BI (f:=D.u8) g14,?_⟩;obtain⟨⟨v15,v16⟩,g17,h⟩:=AB h;refine⟨_,_,some [],BP g17,?_⟩;obtain⟨v18,g19,h⟩:=AB h;refine⟨CH (f:=D.u8) g19,_,CJ (f:=D.u8) g19,?_⟩;revert h;refine AD (fun (v20,v21)=>⟨dd 4 (yr 4 0::X::X::X::yr 8 0::dd 55 (AV.tup [yO 69 JAD.toD v21,yb v20]::dd 5 ([]))),nn 4 (yB Addr.zv::N::N::N::yB (Addr.av v15)::nn 60 (yR 73 4 JAD.toD v21::nn 64 ([])))⟩) ?_ ?_
 ·intro k22 h;(conv=>whnf);refine inl Tryz.f60 70 (by kernel_rfl) (by kernel_rfl) ⟨rfl,?_⟩;(conv=>whnf);refine .go ?_;revert h;refine AD (fun v23=>⟨dd 6 (yO 76 JAD.toD v23::dd 57 ([])),nn 4 (yB Addr.zv::N::N::N::yB (Addr.av v15)::nn 67 (yR 73 4 JAD.toD v23::nn 57 ([])))⟩) ?_ ?_
  ·intro k24 h;revert h;refine Ab (fun (v25,v26)=>⟨y1 v25::dd 5 (yO 76 JAD.toD v26::yi 16::dd 56 ([])),nn 4 (yB Addr.zv::N::N::N::yB (Addr.av v15)::nn 67 (yR 73 4 JAD.toD v26::nn 57 ([])))⟩) ?_ ?_
   ·exact wk
   rintro next27 ⟨v25,v26⟩ K28 h hK29;refine⟨v25.length,X10 _,?_⟩;(conv=>whnf);refine .go ?_;refine sJ h (fun h=>?_) fun h=>AA wk h;(conv=>whnf);refine .go ?_;obtain⟨v30,g31,h⟩:=AB h;refine⟨AL (f:=D.u8) g31,D.u8 v30,AM (f:=D.u8) g31,rfl,?_⟩;refine⟨_,A3 v30,?_⟩;refine⟨_,rfl,?_⟩;refine⟨by decide,_,rfl,?_⟩;revert h;refine AD (fun v32=>⟨y1 v25::dd 5 (yO 76 JAD.toD v26::yi 16::yi (v30.toNat:Int)::AV.d (D.i (AK (Int.tdiv (AK ((v30.toNat:Int) + 7)) 8)))::dd 25 (yb v32::dd 28 ([]))),nn 4 (yB Addr.zv::N::N::N::yB (Addr.av v15)::nn 67 (yR 73 4 JAD.toD v26::nn 57 ([])))⟩) ?_ ?_
   ·intro k33 h;refine⟨_,rfl,?_⟩;refine sJ h (fun h=>AA wk h) fun h=>?_;refine⟨v25.length,X10 _,?_⟩;refine⟨_,rfl,?_⟩;exact AA wk h
   rintro v32 h;(conv=>whnf);refine .go ?_;refine sJ h ?_ ?_<;>intro h
   ·exact AA (.swap 74 69 rfl rfl rfl wk) h
   refine⟨_,rfl,?_⟩;obtain⟨v34,g35,h⟩:=AB h;refine⟨BX (f:=D.u8) g35,_,BI (f:=D.u8) g35,?_⟩;obtain⟨_,g36,h⟩:=AB h;refine⟨DZ (g:=D.u8) g36,?_⟩;refine⟨_,rfl,?_⟩;obtain⟨_,g37,h⟩:=AB h;obtain⟨v38,g39,h⟩:=AB h;refine⟨SZ rfl g37 (X29 rfl) g39,D.u8 (0:UInt8),rfl,List.map D.u8 v38,Sl (f:=D.u8) g39,?_⟩;refine⟨rfl,?_⟩;obtain⟨⟨v40,v41⟩,g42,h⟩:=AB h;refine⟨_,_,none,BP g42,?_⟩;obtain⟨⟨v43,v44⟩,g45,h⟩:=AB h;refine⟨_,_,some [],FB g45,?_⟩;(conv=>whnf);refine .inl (dO ?_);refine⟨rfl,?_⟩;obtain⟨v46,g47,h⟩:=AB h;refine⟨rfl,Ae (f:=JAD.toD) (g:=JAD.toD) g47,_,Af (f:=JAD.toD) g47,?_⟩;refine⟨_,rfl,?_⟩;obtain⟨v48,g49,h⟩:=AB h;refine⟨CH (f:=D.u8) g49,_,CJ (f:=D.u8) g49,?_⟩;(conv=>whnf);refine cO ?_;exact hK29 _ _ wk h
  rintro v23 h;exact AA (.swap 76 69 rfl rfl rfl wk) h
 rintro⟨v20,v21⟩ h;(conv=>whnf);refine .inl ?_;refine⟨rfl,?_⟩;cases h;exact⟨rfl,rfl⟩
theorem M9 {wl:Prop} {a0:JAB} {a1:Int} {r:(List JAD)×Bool} (h:CY a0 a1=some r):CallsOK (Wl wl) Tryz.prog 63 [AV.d (JAB.toD a0),AV.d (D.i a1)] [] (.tup [.d (D.l 4 JAD.toD r.1),.d (D.b r.2)]) []:=by
 refine okx 64 Tryz.f63 (by kernel_rfl) (by kernel_rfl) ⟨rfl,?_⟩;unfold CY at h;(conv=>whnf);refine .go ?_;refine sJ h ?_ ?_<;>intro h
 ·cases h;exact⟨rfl,rfl⟩
 revert h;refine AD (fun v1=>⟨dd 6 (AV.d (D.l 1 D.u8 a0.Data)::dd 28 (yb v1::dd 5 ([]))),nn 105 ([])⟩) ?_ ?_
 ·intro k2 h;refine sJ h (fun h=>AA wk h) fun h=>?_;refine⟨a0.Data.length,X10 _,?_⟩;refine sJ h (fun h=>AA wk h) fun h=>?_;obtain⟨v3,g4,h⟩:=AB h;refine⟨AL (f:=D.u8) g4,D.u8 v3,AM (f:=D.u8) g4,rfl,?_⟩;refine sJ h (fun h=>AA wk h) fun h=>?_;obtain⟨v5,g6,h⟩:=AB h;refine⟨AL (f:=D.u8) g6,D.u8 v5,AM (f:=D.u8) g6,rfl,?_⟩;refine sJ h (fun h=>AA wk h) fun h=>?_;obtain⟨v7,g8,h⟩:=AB h;refine⟨AL (f:=D.u8) g8,D.u8 v7,AM (f:=D.u8) g8,rfl,?_⟩;exact AA wk h
 rintro v1 h;(conv=>whnf);refine .go ?_;refine sJ h ?_ ?_<;>intro h
 ·(conv=>whnf);refine .inl ?_;refine⟨rfl,?_⟩;cases h;exact⟨rfl,rfl⟩
 obtain⟨v9,g10,h⟩:=AB h;refine⟨CH (f:=D.u8) g10,_,CJ (f:=D.u8) g10,?_⟩;revert h;refine AD (fun (v11,v12)=>⟨dd 38 (AV.tup [yO 40 JAD.toD v12,yb v11]::X::X::[]),nn 40 (yR 73 4 JAD.toD v12::nn 64 ([]))⟩) ?_ ?_
 ·intro k13 h;(conv=>whnf);refine inl Tryz.f60 41 (by kernel_rfl) (by kernel_rfl) ⟨rfl,?_⟩;(conv=>whnf);refine .go ?_;revert h;refine AD (fun v14=>⟨dd 6 (yO 47 JAD.toD v14::dd 57 ([])),nn 47 (yR 73 4 JAD.toD v14::nn 57 ([]))⟩) ?_ ?_
  ·intro k15 h;revert h;refine Ab (fun (v16,v17)=>⟨y1 v16::dd 5 (yO 47 JAD.toD v17::yi 16::dd 56 ([])),nn 47 (yR 73 4 JAD.toD v17::nn 57 ([]))⟩) ?_ ?_
   ·exact wk
   rintro next18 ⟨v16,v17⟩ K19 h hK20;refine⟨v16.length,X10 _,?_⟩;(conv=>whnf);refine .go ?_;refine sJ h (fun h=>?_) fun h=>AA wk h;(conv=>whnf);refine .go ?_;obtain⟨v21,g22,h⟩:=AB h;refine⟨AL (f:=D.u8) g22,D.u8 v21,AM (f:=D.u8) g22,rfl,?_⟩;refine⟨_,A3 v21,?_⟩;refine⟨_,rfl,?_⟩;refine⟨by decide,_,rfl,?_⟩;revert h;refine AD (fun v23=>⟨y1 v16::dd 5 (yO 47 JAD.toD v17::yi 16::yi (v21.toNat:Int)::AV.d (D.i (AK (Int.tdiv (AK ((v21.toNat:Int) + 7)) 8)))::dd 25 (yb v23::dd 28 ([]))),nn 47 (yR 73 4 JAD.toD v17::nn 57 ([]))⟩) ?_ ?_
   ·intro k24 h;refine⟨_,rfl,?_⟩;refine sJ h (fun h=>AA wk h) fun h=>?_;refine⟨v16.length,X10 _,?_⟩;refine⟨_,rfl,?_⟩;exact AA wk h
   rintro v23 h;(conv=>whnf);refine .go ?_;refine sJ h ?_ ?_<;>intro h
   ·exact AA (.swap 45 40 rfl rfl rfl wk) h
   refine⟨_,rfl,?_⟩;obtain⟨v25,g26,h⟩:=AB h;refine⟨BX (f:=D.u8) g26,_,BI (f:=D.u8) g26,?_⟩;obtain⟨_,g27,h⟩:=AB h;refine⟨DZ (g:=D.u8) g27,?_⟩;refine⟨_,rfl,?_⟩;obtain⟨_,g28,h⟩:=AB h;obtain⟨v29,g30,h⟩:=AB h;refine⟨SZ rfl g28 (X29 rfl) g30,D.u8 (0:UInt8),rfl,List.map D.u8 v29,Sl (f:=D.u8) g30,?_⟩;refine⟨rfl,?_⟩;obtain⟨⟨v31,v32⟩,g33,h⟩:=AB h;refine⟨_,_,none,BP g33,?_⟩;obtain⟨⟨v34,v35⟩,g36,h⟩:=AB h;refine⟨_,_,some [],FB g36,?_⟩;(conv=>whnf);refine .inl (dO ?_);refine⟨rfl,?_⟩;obtain⟨v37,g38,h⟩:=AB h;refine⟨rfl,Ae (f:=JAD.toD) (g:=JAD.toD) g38,_,Af (f:=JAD.toD) g38,?_⟩;refine⟨_,rfl,?_⟩;obtain⟨v39,g40,h⟩:=AB h;refine⟨CH (f:=D.u8) g40,_,CJ (f:=D.u8) g40,?_⟩;(conv=>whnf);refine cO ?_;exact hK20 _ _ wk h
  rintro v14 h;exact AA (.swap 47 40 rfl rfl rfl wk) h
 rintro⟨v11,v12⟩ h;(conv=>whnf);refine .inl ?_;refine⟨rfl,?_⟩;cases h;exact⟨rfl,rfl⟩
theorem PR {wl:Prop} {a0:List JAB} {r:(List JAB)} (h:FO a0=some r):CallsOK (Wl wl) Tryz.prog 105 [AV.d (D.l 3 JAB.toD a0)] [] (.d (D.l 3 JAB.toD r)) []:=by
 refine oK Tryz.f105 ⟨rfl,?_⟩;unfold FO at h;refine⟨a0.length,X10 _,?_⟩;revert h;refine AD (fun v1=>⟨X::X::X::yO 3 JAB.toD v1::dd 24 ([]),N::N::N::yR 144 3 JAB.toD v1::nn 24 ([])⟩) ?_ ?_
 ·intro k2 h;revert h;refine AW 8 3 JAB.toD rfl (fun i3 (v4,v5)=>⟨X::X::X::yO 3 JAB.toD v4::AV.mp 7::X::X::X::y0 a0::yi (a0.length:Int)::yi (i3:Int)::dd 17 ([]),N::N::N::yR 144 3 JAB.toD v4::N::N::N::some (OB.map 3 4 (BS D.i D.b v5))::nn 20 ([])⟩) ?_ ?_ ?_
  ·exact wk
  ·rintro⟨v4,v5⟩ K6 h;(conv=>whnf);refine .go ?_;(conv=>whnf);refine A9 CP ?_;exact AA wk h
  rintro next7 i3 x8 ⟨v4,v5⟩ K6 hii3 hxi3 hwi3 h hK9;(conv=>whnf);refine .go ?_;(conv=>whnf);refine A8 (CC hii3) ?_;(conv=>whnf);refine .go ?_;refine⟨A4 (f:=JAB.toD) hii3,JAB.toD x8,hxi3,rfl,?_⟩;obtain⟨v10,g11,h⟩:=AB h;refine⟨_,Dn (ek:=D.i) (ev:=D.b) (l:=v5) (k:=x8.Type_) B0,D.b v10,Gz (z:=false) rfl g11,_,rfl,?_⟩;revert h;refine AD (fun v12=>⟨X::X::X::yO 3 JAB.toD v12::AV.mp 7::X::yr 6 0::X::y0 a0::yi (a0.length:Int)::yi (i3:Int)::dd 17 ([]),N::N::N::yR 144 3 JAB.toD v12::N::N::yB (JAB.av x8)::some (OB.map 3 4 (BS D.i D.b v5))::nn 20 ([])⟩) ?_ ?_
  ·intro k13 h;refine sJ h (fun h=>?_) fun h=>AA wk h;refine⟨rfl,?_⟩;obtain⟨v14,g15,h⟩:=AB h;refine⟨rfl,Ae (f:=JAB.toD) (g:=JAB.toD) g15,_,Af (f:=JAB.toD) g15,?_⟩;exact AA wk h
  rintro v12 h;refine⟨_,D6 (ek:=D.i) (ev:=D.b) (l:=v5) (k:=x8.Type_) (v:=true) B0,?_⟩;refine⟨_,hwi3,?_⟩;exact hK9 _ _ wk h
 rintro v1 h;(conv=>whnf);refine .inl ?_;(conv=>whnf);refine .inl ?_;refine⟨rfl,?_⟩;cases h;exact⟨rfl,rfl⟩
theorem A5 {wl:Prop} {a0:List UInt8} {r:Int} (h:Ak a0=some r):CallsOK (Wl wl) Tryz.prog 150 [AV.d (D.l 1 D.u8 a0)] [] (.d (D.i r)) []:=by
 refine oK Tryz.f150 ⟨rfl,?_⟩;unfold Ak at h;refine⟨a0.length,X10 _,?_⟩;revert h;refine AD (fun v1=>⟨X::X::X::yi v1::dd 15 ([]),nn 19 ([])⟩) ?_ ?_
 ·intro k2 h;revert h;refine AW 6 1 D.u8 rfl (fun i3 v4=>⟨X::X::X::yi v4::X::X::y1 a0::yi (a0.length:Int)::yi (i3:Int)::dd 10 ([]),nn 19 ([])⟩) ?_ ?_ ?_
  ·exact wk
  ·rintro v4 K5 h;(conv=>whnf);refine .go ?_;(conv=>whnf);refine A9 CP ?_;exact AA wk h
  rintro next6 i3 x7 v4 K5 hii3 hxi3 hwi3 h hK8;(conv=>whnf);refine .go ?_;(conv=>whnf);refine A8 (CC hii3) ?_;(conv=>whnf);refine .go ?_;refine⟨A4 (f:=D.u8) hii3,D.u8 x7,hxi3,rfl,?_⟩;refine⟨by decide,_,rfl,?_⟩;refine⟨_,A3 x7,?_⟩;refine⟨_,rfl,?_⟩;refine⟨_,hwi3,?_⟩;exact hK8 _ _ wk h
 rintro v1 h;cases h;exact⟨rfl,rfl⟩
theorem OX {wl:Prop} {a0:List Int} {r:(List Int)} (h:EH a0=some r):CallsOK (Wl wl) Tryz.prog 179 [AV.d (D.l 1 D.i a0)] [] (AV.own 0 (List.map D.i r).length) [.row 3 1 (List.map D.i r) .no]:=by
 refine oK Tryz.f179 ⟨rfl,?_⟩;unfold EH at h;refine⟨a0.length,X10 _,?_⟩;revert h;refine AD (fun v1=>⟨X::X::X::yO 3 D.i v1::dd 48 ([]),N::N::N::yR 3 1 D.i v1::nn 48 ([])⟩) ?_ ?_
 ·intro k2 h;revert h;refine AW 7 1 D.i rfl (fun i3 v4=>⟨X::X::X::yO 3 D.i v4::X::X::X::y3 a0::yi (a0.length:Int)::yi (i3:Int)::dd 42 ([]),N::N::N::yR 3 1 D.i v4::nn 48 ([])⟩) ?_ ?_ ?_
  ·exact wk
  ·rintro v4 K5 h;(conv=>whnf);refine .go ?_;(conv=>whnf);refine A9 CP ?_;exact AA wk h
  rintro next6 i3 x7 v4 K5 hii3 hxi3 hwi3 h hK8;(conv=>whnf);refine .go ?_;(conv=>whnf);refine A8 (CC hii3) ?_;revert h;refine AD (fun v9=>⟨X::X::X::yO 3 D.i v9::X::X::X::y3 a0::yi (a0.length:Int)::yi (i3:Int)::dd 42 ([]),N::N::N::yR 3 1 D.i v9::nn 48 ([])⟩) ?_ ?_
  ·intro k10 h;refine⟨A4 (f:=D.i) hii3,D.i x7,hxi3,rfl,?_⟩;revert h;refine AD (fun v11=>⟨X::X::X::yO 3 D.i v4::X::yi x7::yi v11::y3 a0::yi (a0.length:Int)::yi (i3:Int)::dd 42 ([]),N::N::N::yR 3 1 D.i v4::nn 48 ([])⟩) ?_ ?_
   ·intro k12 h;revert h;refine Ab (fun v13=>⟨X::X::X::yO 3 D.i v4::X::yi x7::yi v13::y3 a0::yi (a0.length:Int)::yi (i3:Int)::dd 42 ([]),N::N::N::yR 3 1 D.i v4::nn 48 ([])⟩) ?_ ?_
    ·exact wk
    rintro next14 v13 K15 h hK16;revert h;refine AD (fun v17=>⟨X::X::X::yO 3 D.i v4::X::yi x7::yi v13::y3 a0::yi (a0.length:Int)::yi (i3:Int)::dd 14 (yb v17::dd 27 ([])),N::N::N::yR 3 1 D.i v4::nn 48 ([])⟩) ?_ ?_
    ·intro k18 h;refine⟨v4.length,by first | exact X10 _ | rfl | (simp only[X10];omega),?_⟩;refine sJ h (fun h=>?_) fun h=>AA wk h;obtain⟨v19,g20,h⟩:=AB h;refine⟨rfl,AL (f:=D.i) g20,?_⟩;refine⟨rfl,D.i v19,(AM (f:=D.i) g20),?_⟩;exact AA wk h
    rintro v17 h;(conv=>whnf);refine .go ?_;refine sJ h (fun h=>?_) fun h=>AA wk h;(conv=>whnf);refine .go ?_;refine⟨_,rfl,?_⟩;exact hK16 _ _ wk h
   rintro v11 h;revert h;refine AD (fun v21=>⟨X::X::X::yO 3 D.i v4::X::yi x7::yi v11::y3 a0::yi (a0.length:Int)::yi (i3:Int)::dd 28 (yb v21::dd 13 ([])),N::N::N::yR 3 1 D.i v4::nn 48 ([])⟩) ?_ ?_
   ·intro k22 h;refine⟨v4.length,by first | exact X10 _ | rfl | (simp only[X10];omega),?_⟩;refine sJ h (fun h=>?_) fun h=>AA wk h;obtain⟨v23,g24,h⟩:=AB h;refine⟨rfl,AL (f:=D.i) g24,?_⟩;refine⟨rfl,D.i v23,(AM (f:=D.i) g24),?_⟩;exact AA wk h
   rintro v21 h;(conv=>whnf);refine .go ?_;refine sJ h (fun h=>AA wk h) fun h=>?_;(conv=>whnf);refine .inl (dO ?_);(conv=>whnf);refine .inr (.inl ?_);obtain⟨_,g25,h⟩:=AB h;have g57c:=EJ g25;refine⟨YF (f:=D.i) g25,rfl,(Int.toNat 0),(Int.toNat v11 - Int.toNat 0),rfl,rfl,?_⟩;refine⟨(by first | rfl | (simp only[X10,X21];omega)|(simp only[cpy,X10,X21,X11,X18,X17,X20];omega)),List.map D.i (List.take (Int.toNat v11 - Int.toNat 0) (List.drop (Int.toNat 0) v4)),V1,?_⟩;obtain⟨_,g26,h⟩:=AB h;refine⟨DZ (g:=D.i) g26,?_⟩;refine⟨rfl,?_⟩;obtain⟨v27,g28,h⟩:=AB h;refine⟨rfl,Ae (f:=D.i) (g:=D.i) g28,_,Af (f:=D.i) g28,?_⟩;(conv=>whnf);refine .inr (.inl ?_);obtain⟨_,g29,h⟩:=AB h;have g63c:=EJ g29;refine⟨Iw (f:=D.i) g29,rfl,(Int.toNat v11),(Int.toNat (v4.length:Int) - Int.toNat v11),rfl,(by rw[X10]),?_⟩;refine⟨(by first | rfl | (simp only[X10,X21];omega)|(simp only[cpy,X10,X21,X11,X18,X17,X20];omega)),List.map D.i (List.take (Int.toNat (v4.length:Int) - Int.toNat v11) (List.drop (Int.toNat v11) v4)),V1,?_⟩;obtain⟨v30,g31,h⟩:=AB h;refine⟨rfl,Ae (f:=D.i) (g:=D.i) g31,_,Af (f:=D.i) g31,?_⟩;(conv=>whnf);refine cO ?_;exact AA (.swap 42 3 rfl rfl rfl wk) h
  rintro v9 h;refine⟨_,hwi3,?_⟩;exact hK8 _ _ wk h
 rintro v1 h;(conv=>whnf);refine .inl ?_;(conv=>whnf);refine .inr ?_;cases h;exact⟨rfl,rfl⟩
end Go.AX.Q33
end
section
namespace Go.AX.Q33
open Go Go.AX Go.Proofs
set_option maxRecDepth 100000
set_option maxHeartbeats 4000000
set_option linter.unusedVariables false
theorem Ko {wl:Prop} {a0:List UInt8} {r:(List JAC)×Bool} (h:GB a0=some r):CallsOK (Wl wl) Tryz.prog 149 [AV.d (D.l 1 D.u8 a0)] [] (.tup [.d (D.l 2 JAC.toD r.1),.d (D.b r.2)]) []:=by
 refine oK Tryz.f149 ⟨rfl,?_⟩;unfold GB at h;revert h;refine AD (fun (v1,v2,v3)=>⟨dd 4 (yO 4 JAC.toD v1::dd 113 ([])),nn 4 (some (OB.row 189 2 (List.map JAC.toD v1) (.lk v2 1 116 (List.map D.i v3).length))::nn 111 (some (OB.row 3 1 (List.map D.i v3) .yes)::N::[]))⟩) ?_ ?_
 ·intro k4 h;revert h;refine Ab (fun (v5,v6,v7,v8)=>⟨y1 v5::X::X::X::yO 4 JAC.toD v6::dd 113 ([]),nn 4 (some (OB.row 189 2 (List.map JAC.toD v6) (.lk v7 1 116 (List.map D.i v8).length))::nn 111 (some (OB.row 3 1 (List.map D.i v8) .yes)::N::[]))⟩) ?_ ?_
  ·exact wk
  rintro next9 ⟨v5,v6,v7,v8⟩ K10 h hK11;refine⟨v5.length,X10 _,?_⟩;(conv=>whnf);refine .go ?_;refine sJ h (fun h=>?_) fun h=>AA wk h;revert h;refine AD (fun (v12,v13,v14,v15)=>⟨y1 v12::X::X::X::yO 4 JAC.toD v13::dd 113 ([]),nn 4 (some (OB.row 189 2 (List.map JAC.toD v13) (.lk v14 1 116 (List.map D.i v15).length))::nn 111 (some (OB.row 3 1 (List.map D.i v15) .yes)::N::[]))⟩) ?_ ?_
  ·intro k16 h;revert h;refine AD (fun v17=>⟨y1 v5::X::X::X::yO 4 JAC.toD v6::dd 36 (yb v17::dd 76 ([])),nn 4 (some (OB.row 189 2 (List.map JAC.toD v6) (.lk v7 1 116 (List.map D.i v8).length))::nn 111 (some (OB.row 3 1 (List.map D.i v8) .yes)::N::[]))⟩) ?_ ?_
   ·intro k18 h;refine⟨v5.length,X10 _,?_⟩;refine sJ h (fun h=>AA wk h) fun h=>?_;obtain⟨v19,g20,h⟩:=AB h;refine⟨AL (f:=D.u8) g20,D.u8 v19,AM (f:=D.u8) g20,rfl,?_⟩;refine sJ h ?_ ?_<;>intro h
    ·obtain⟨v21,g22,h⟩:=AB h;refine⟨AL (f:=D.u8) g22,D.u8 v21,AM (f:=D.u8) g22,rfl,?_⟩;refine sJ h (fun h=>AA wk h) fun h=>?_;obtain⟨v23,g24,h⟩:=AB h;refine⟨AL (f:=D.u8) g24,D.u8 v23,AM (f:=D.u8) g24,rfl,?_⟩;refine sJ h (fun h=>AA wk h) fun h=>?_;refine⟨v5.length,X10 _,?_⟩;obtain⟨v25,g26,h⟩:=AB h;refine⟨AL (f:=D.u8) g26,D.u8 v25,AM (f:=D.u8) g26,rfl,?_⟩;refine⟨_,A3 v25,?_⟩;refine⟨_,rfl,?_⟩;refine⟨_,rfl,?_⟩;exact AA wk h
    obtain⟨v27,g28,h⟩:=AB h;refine⟨AL (f:=D.u8) g28,D.u8 v27,AM (f:=D.u8) g28,rfl,?_⟩;refine sJ h (fun h=>AA wk h) fun h=>?_;refine⟨v5.length,X10 _,?_⟩;obtain⟨v29,g30,h⟩:=AB h;refine⟨AL (f:=D.u8) g30,D.u8 v29,AM (f:=D.u8) g30,rfl,?_⟩;refine⟨_,A3 v29,?_⟩;refine⟨_,rfl,?_⟩;refine⟨_,rfl,?_⟩;exact AA wk h
   rintro v17 h;(conv=>whnf);refine .go ?_;refine sJ h ?_ ?_<;>intro h
   ·(conv=>whnf);refine .inl ?_;refine⟨rfl,?_⟩;cases h;exact⟨rfl,rfl⟩
   obtain⟨v31,g32,h⟩:=AB h;refine⟨AL (f:=D.u8) g32,D.u8 v31,AM (f:=D.u8) g32,rfl,?_⟩;refine⟨_,A3 v31,?_⟩;revert h;refine AD (fun v33=>⟨y1 v5::X::X::X::yO 4 JAC.toD v6::yO 5 D.i v33::dd 112 ([]),nn 4 (some (OB.row 189 2 (List.map JAC.toD v6) (.lk v7 1 116 (List.map D.i v8).length))::yR 3 1 D.i v33::nn 110 (some (OB.row 3 1 (List.map D.i v8) .yes)::N::[]))⟩) ?_ ?_
   ·intro k34 h;revert h;refine Ab (fun (v35,v36)=>⟨y1 v5::X::X::X::yO 4 JAC.toD v6::yO 5 D.i v36::dd 39 (yi (v31.toNat:Int)::yi v35::dd 71 ([])),nn 4 (some (OB.row 189 2 (List.map JAC.toD v6) (.lk v7 1 116 (List.map D.i v8).length))::yR 3 1 D.i v36::nn 110 (some (OB.row 3 1 (List.map D.i v8) .yes)::N::[]))⟩) ?_ ?_
    ·exact wk
    rintro next37 ⟨v35,v36⟩ K38 h hK39;(conv=>whnf);refine .go ?_;refine sJ h (fun h=>?_) fun h=>AA wk h;(conv=>whnf);refine .go ?_;refine⟨_,rfl,?_⟩;refine⟨_,rfl,?_⟩;refine⟨_,rfl,?_⟩;refine⟨_,rfl,?_⟩;obtain⟨v40,g41,h⟩:=AB h;refine⟨BX (f:=D.u8) g41,_,BI (f:=D.u8) g41,?_⟩;obtain⟨v42,g43,h⟩:=AB h;refine⟨_,_,some [],A5 g43,?_⟩;refine⟨rfl,?_⟩;obtain⟨v44,g45,h⟩:=AB h;refine⟨rfl,Ae (f:=D.i) (g:=D.i) g45,_,Af (f:=D.i) g45,?_⟩;refine⟨_,rfl,?_⟩;exact hK39 _ _ wk h
   rintro v33 h;(conv=>whnf);refine .go ?_;obtain⟨v46,g47,h⟩:=AB h;refine⟨AL (f:=D.u8) g47,D.u8 v46,AM (f:=D.u8) g47,rfl,?_⟩;revert h;refine AD (fun (v48,v49,v50)=>⟨y1 v5::X::X::X::yO 4 JAC.toD v48::dd 113 ([]),nn 4 (some (OB.row 189 2 (List.map JAC.toD v48) (.lk v49 1 116 (List.map D.i v50).length))::nn 111 (some (OB.row 3 1 (List.map D.i v50) .yes)::N::[]))⟩) ?_ ?_
   ·intro k51 h;refine sJ h ?_ ?_<;>intro h
    ·refine⟨rfl,?_⟩;obtain⟨v52,g53,h⟩:=AB h;refine⟨_,_,some [74],OX g53,?_⟩;(conv=>whnf);refine .inr (.inr ?_);refine⟨1,74,_,rfl,?_⟩;refine⟨rfl,?_⟩;refine⟨rfl,?_⟩;obtain⟨v54,g55,h⟩:=AB h;refine⟨rfl,Ae (f:=JAC.toD) (g:=JAC.toD) g55,_,Af (f:=JAC.toD) g55,?_⟩;refine⟨rfl,?_⟩;exact AA (.swap 74 116 rfl rfl rfl wk) h
    revert h;refine AD (fun v56=>⟨y1 v5::X::X::X::yO 4 JAC.toD v6::yO 5 D.i v33::dd 72 (yb v56::dd 39 ([])),nn 4 (some (OB.row 189 2 (List.map JAC.toD v6) (.lk v7 1 116 (List.map D.i v8).length))::yR 3 1 D.i v33::nn 110 (some (OB.row 3 1 (List.map D.i v8) .yes)::N::[]))⟩) ?_ ?_
    ·intro k57 h;refine⟨v6.length,by first | exact X10 _ | rfl | (simp only[X10];omega),?_⟩;refine sJ h (fun h=>?_) fun h=>AA wk h;refine⟨v6.length,by first | exact X10 _ | rfl | (simp only[X10];omega),?_⟩;refine⟨_,rfl,?_⟩;obtain⟨v58,g59,h⟩:=AB h;refine⟨rfl,AL (f:=JAC.toD) g59,?_⟩;refine⟨rfl,?_⟩;(conv=>whnf);refine .inl ?_;refine⟨rfl,JAC.toD v58,(AM (f:=JAC.toD) g59),?_⟩;exact AA wk h
    rintro v56 h;revert h;refine AD (fun (v60,v61,v62)=>⟨y1 v5::X::X::X::yO 4 JAC.toD v60::dd 113 ([]),nn 4 (some (OB.row 189 2 (List.map JAC.toD v60) (.lk v61 1 116 (List.map D.i v62).length))::nn 111 (some (OB.row 3 1 (List.map D.i v62) .yes)::N::[]))⟩) ?_ ?_
    ·intro k63 h;refine sJ h ?_ ?_<;>intro h
     ·refine⟨v6.length,by first | exact X10 _ | rfl | (simp only[X10];omega),?_⟩;refine⟨_,rfl,?_⟩;refine⟨v6.length,by first | exact X10 _ | rfl | (simp only[X10];omega),?_⟩;refine⟨_,rfl,?_⟩;obtain⟨v64,g65,h⟩:=AB h;refine⟨rfl,AL (f:=JAC.toD) g65,?_⟩;refine⟨rfl,?_⟩;obtain⟨_,g66,h⟩:=AB h;refine .inr ⟨rfl,EJ g66,rfl,(WO (f:=JAC.toD) g65),by decide,rfl,?_⟩;refine⟨rfl,?_⟩;obtain⟨v67,g68,h⟩:=AB h;refine⟨rfl,Ae (f:=D.i) (g:=D.i) g68,_,Af (f:=D.i) g68,?_⟩;obtain⟨v69,g70,h⟩:=AB h;refine⟨rfl,AL (f:=JAC.toD) g70,?_⟩;refine⟨rfl,?_⟩;obtain⟨v71,g72,h⟩:=AB h;have g72l:=GX g72;refine .inr ?_;refine⟨rfl,?_⟩;refine⟨rfl,rfl,JAC.toD v69,(AM (f:=JAC.toD) g70),?_⟩;refine⟨_,JW (f:=JAC.toD) g72,?_⟩;exact AA wk h
     (conv=>whnf);refine .inr (.inr ?_);refine⟨1,5,_,rfl,?_⟩;refine⟨rfl,?_⟩;refine⟨rfl,?_⟩;obtain⟨v73,g74,h⟩:=AB h;refine⟨rfl,Ae (f:=JAC.toD) (g:=JAC.toD) g74,_,Af (f:=JAC.toD) g74,?_⟩;refine⟨rfl,?_⟩;exact AA (.swap 5 116 rfl rfl rfl wk) h
    rintro⟨v60,v61,v62⟩ h;exact AA wk h
   rintro⟨v48,v49,v50⟩ h;obtain⟨v75,g76,h⟩:=AB h;refine⟨AL (f:=D.u8) g76,D.u8 v75,AM (f:=D.u8) g76,rfl,?_⟩;refine⟨_,A3 v75,?_⟩;refine⟨_,rfl,?_⟩;refine⟨_,rfl,?_⟩;obtain⟨v77,g78,h⟩:=AB h;refine⟨CH (f:=D.u8) g78,_,CJ (f:=D.u8) g78,?_⟩;exact AA wk h
  rintro⟨v12,v13,v14,v15⟩ h;exact hK11 _ _ wk h
 rintro⟨v1,v2,v3⟩ h;refine⟨rfl,?_⟩;obtain⟨v79,g80,h⟩:=AB h;refine⟨_,_,none,Jd g80,?_⟩;(conv=>whnf);refine .inl ?_;refine⟨rfl,?_⟩;cases h;exact⟨rfl,rfl⟩
theorem SS {wl:Prop} {a0:List JAA} {a1:JAA} {r:Bool} (h:F9 a0 a1=some r):CallsOK (Wl wl) Tryz.prog 180 [AV.d (D.l 2 JAA.toD a0),AV.d (JAA.toD a1)] [] (.d (D.b r)) []:=by
 refine oK Tryz.f180 ⟨rfl,?_⟩;unfold F9 at h;refine⟨a0.length,X10 _,?_⟩;revert h;refine AD (fun _=>⟨dd 17 ([]),nn 17 ([])⟩) ?_ ?_
 ·intro k1 h;revert h;refine AW 7 2 JAA.toD rfl (fun i2 _=>⟨X::X::X::yr 3 0::X::X::X::y4 a0::yi (a0.length:Int)::yi (i2:Int)::dd 7 ([]),N::N::N::yB (JAA.av a1)::nn 13 ([])⟩) ?_ ?_ ?_
  ·exact wk
  ·rintro _ K3 h;(conv=>whnf);refine .go ?_;(conv=>whnf);refine A9 CP ?_;exact AA wk h
  rintro next4 i2 x5 _ K3 hii2 hxi2 hwi2 h hK6;(conv=>whnf);refine .go ?_;(conv=>whnf);refine A8 (CC hii2) ?_;(conv=>whnf);refine .go ?_;refine⟨A4 (f:=JAA.toD) hii2,JAA.toD x5,hxi2,rfl,?_⟩;(conv=>whnf);refine .go ?_;refine sJ h ?_ ?_<;>intro h
  ·cases h;exact⟨rfl,rfl⟩
  refine⟨_,hwi2,?_⟩;exact hK6 _ _ wk h
 rintro _ h;cases h;exact⟨rfl,rfl⟩
theorem MP {wl:Prop} {a0:List JAA} {a1:JAA} {r:(List JAA)×Int} (h:GA a0 a1=some r):CallsOK (Wl wl) Tryz.prog 151 [AV.d (D.l 2 JAA.toD a0),AV.d (JAA.toD a1)] [] (.tup [.d (D.l 2 JAA.toD r.1),.d (D.i r.2)]) []:=by
 refine oK Tryz.f151 ⟨rfl,?_⟩;unfold GA at h;(conv=>whnf);refine .go ?_;revert h;refine AD (fun v1=>⟨y4 a0::X::X::yr 3 0::X::X::X::yb v1::dd 43 ([]),N::N::N::yB (JAA.av a1)::nn 47 ([])⟩) ?_ ?_
 ·intro k2 h;obtain⟨v3,g4,h⟩:=AB h;refine⟨_,_,some [],HO g4,?_⟩;refine sJ h (fun h=>AA wk h) fun h=>?_;obtain⟨v5,g6,h⟩:=AB h;refine⟨_,_,some [],Jb g6,?_⟩;exact AA wk h
 rintro v1 h;(conv=>whnf);refine .go ?_;refine sJ h ?_ ?_<;>intro h
 ·(conv=>whnf);refine .inl ?_;refine⟨rfl,?_⟩;cases h;exact⟨rfl,rfl⟩
 obtain⟨v7,g8,h⟩:=AB h;refine⟨_,_,some [],SS g8,?_⟩;(conv=>whnf);refine .go ?_;refine sJ h ?_ ?_<;>intro h
 ·obtain⟨_,g9,h⟩:=AB h;refine⟨DZ (g:=JAA.toD) g9,?_⟩;(conv=>whnf);refine .inl ?_;refine⟨rfl,?_⟩;cases h;exact⟨rfl,rfl⟩
 refine⟨a0.length,X10 _,?_⟩;(conv=>whnf);refine .go ?_;refine sJ h ?_ ?_<;>intro h
 ·(conv=>whnf);refine .inl ?_;refine⟨rfl,?_⟩;cases h;exact⟨rfl,rfl⟩
 revert h;refine AD (fun v10=>⟨y4 a0::X::X::yr 3 0::X::X::yi v10::dd 44 ([]),N::N::N::yB (JAA.av a1)::nn 47 ([])⟩) ?_ ?_
 ·intro k11 h;revert h;refine Ab (fun v12=>⟨y4 a0::X::X::yr 3 0::X::X::yi v12::dd 44 ([]),N::N::N::yB (JAA.av a1)::nn 47 ([])⟩) ?_ ?_
  ·exact wk
  rintro next13 v12 K14 h hK15;revert h;refine AD (fun v16=>⟨y4 a0::X::X::yr 3 0::X::X::yi v12::dd 30 (yb v16::dd 13 ([])),N::N::N::yB (JAA.av a1)::nn 47 ([])⟩) ?_ ?_
  ·intro k17 h;(conv=>whnf);refine .inl (dO ?_);refine⟨a0.length,X10 _,?_⟩;refine sJ h ?_ ?_<;>intro h
   ·obtain⟨v18,g19,h⟩:=AB h;refine⟨AL (f:=JAA.toD) g19,JAA.toD v18,AM (f:=JAA.toD) g19,rfl,?_⟩;obtain⟨v20,g21,h⟩:=AB h;refine⟨_,_,Kv g21,.inl rfl,?_⟩;(conv=>whnf);refine cO ?_;exact AA wk h
   (conv=>whnf);refine cO ?_;exact AA wk h
  rintro v16 h;(conv=>whnf);refine .go ?_;refine sJ h (fun h=>?_) fun h=>AA wk h;(conv=>whnf);refine .go ?_;refine⟨_,rfl,?_⟩;exact hK15 _ _ wk h
 rintro v10 h;(conv=>whnf);refine .inl (dO ?_);obtain⟨v22,g23,h⟩:=AB h;refine⟨BX (f:=JAA.toD) g23,_,BI (f:=JAA.toD) g23,?_⟩;obtain⟨_,g24,h⟩:=AB h;refine⟨DZ (g:=JAA.toD) g24,?_⟩;refine⟨rfl,?_⟩;obtain⟨v25,g26,h⟩:=AB h;refine⟨rfl,Ae (f:=JAA.toD) (g:=JAA.toD) g26,_,Af (f:=JAA.toD) g26,?_⟩;obtain⟨v27,g28,h⟩:=AB h;refine⟨CH (f:=JAA.toD) g28,_,CJ (f:=JAA.toD) g28,?_⟩;obtain⟨v29,g30,h⟩:=AB h;refine⟨rfl,Ae (f:=JAA.toD) (g:=JAA.toD) g30,_,Af (f:=JAA.toD) g30,?_⟩;(conv=>whnf);refine cO ?_;(conv=>whnf);refine .inl ?_;refine⟨rfl,?_⟩;cases h;exact⟨rfl,rfl⟩
theorem MR {wl:Prop} {a0:List JAE} {a1:JAE} {r:Bool} (h:DW a0 a1=some r):CallsOK (Wl wl) Tryz.prog 181 [AV.d (D.l 3 JAE.toD a0),AV.d (JAE.toD a1)] [] (.d (D.b r)) []:=by
 refine oK Tryz.f181 ⟨rfl,?_⟩;unfold DW at h;refine⟨a0.length,X10 _,?_⟩;revert h;refine AD (fun _=>⟨dd 17 ([]),nn 17 ([])⟩) ?_ ?_
 ·intro k1 h;revert h;refine AW 7 3 JAE.toD rfl (fun i2 _=>⟨X::X::X::yr 3 0::X::X::X::y5 a0::yi (a0.length:Int)::yi (i2:Int)::dd 7 ([]),N::N::N::yB (JAE.av a1)::nn 13 ([])⟩) ?_ ?_ ?_
  ·exact wk
  ·rintro _ K3 h;(conv=>whnf);refine .go ?_;(conv=>whnf);refine A9 CP ?_;exact AA wk h
  rintro next4 i2 x5 _ K3 hii2 hxi2 hwi2 h hK6;(conv=>whnf);refine .go ?_;(conv=>whnf);refine A8 (CC hii2) ?_;(conv=>whnf);refine .go ?_;refine⟨A4 (f:=JAE.toD) hii2,JAE.toD x5,hxi2,rfl,?_⟩;(conv=>whnf);refine .go ?_;refine sJ h ?_ ?_<;>intro h
  ·cases h;exact⟨rfl,rfl⟩
  refine⟨_,hwi2,?_⟩;exact hK6 _ _ wk h
 rintro _ h;cases h;exact⟨rfl,rfl⟩
theorem Hw {wl:Prop} {a0:List JAE} {a1:JAE} {r:(List JAE)×Int} (h:DT a0 a1=some r):CallsOK (Wl wl) Tryz.prog 152 [AV.d (D.l 3 JAE.toD a0),AV.d (JAE.toD a1)] [] (.tup [.d (D.l 3 JAE.toD r.1),.d (D.i r.2)]) []:=by
 refine oK Tryz.f152 ⟨rfl,?_⟩;unfold DT at h;(conv=>whnf);refine .go ?_;revert h;refine AD (fun v1=>⟨y5 a0::X::X::yr 3 0::X::X::X::yb v1::dd 43 ([]),N::N::N::yB (JAE.av a1)::nn 47 ([])⟩) ?_ ?_
 ·intro k2 h;obtain⟨v3,g4,h⟩:=AB h;refine⟨_,_,some [],E6 g4,?_⟩;refine sJ h (fun h=>AA wk h) fun h=>?_;obtain⟨v5,g6,h⟩:=AB h;refine⟨_,_,some [],Gv g6,?_⟩;exact AA wk h
 rintro v1 h;(conv=>whnf);refine .go ?_;refine sJ h ?_ ?_<;>intro h
 ·(conv=>whnf);refine .inl ?_;refine⟨rfl,?_⟩;cases h;exact⟨rfl,rfl⟩
 obtain⟨v7,g8,h⟩:=AB h;refine⟨_,_,some [],MR g8,?_⟩;(conv=>whnf);refine .go ?_;refine sJ h ?_ ?_<;>intro h
 ·obtain⟨_,g9,h⟩:=AB h;refine⟨DZ (g:=JAE.toD) g9,?_⟩;(conv=>whnf);refine .inl ?_;refine⟨rfl,?_⟩;cases h;exact⟨rfl,rfl⟩
 refine⟨a0.length,X10 _,?_⟩;(conv=>whnf);refine .go ?_;refine sJ h ?_ ?_<;>intro h
 ·(conv=>whnf);refine .inl ?_;refine⟨rfl,?_⟩;cases h;exact⟨rfl,rfl⟩
 revert h;refine AD (fun v10=>⟨y5 a0::X::X::yr 3 0::X::X::yi v10::dd 44 ([]),N::N::N::yB (JAE.av a1)::nn 47 ([])⟩) ?_ ?_
 ·intro k11 h;revert h;refine Ab (fun v12=>⟨y5 a0::X::X::yr 3 0::X::X::yi v12::dd 44 ([]),N::N::N::yB (JAE.av a1)::nn 47 ([])⟩) ?_ ?_
  ·exact wk
  rintro next13 v12 K14 h hK15;revert h;refine AD (fun v16=>⟨y5 a0::X::X::yr 3 0::X::X::yi v12::dd 30 (yb v16::dd 13 ([])),N::N::N::yB (JAE.av a1)::nn 47 ([])⟩) ?_ ?_
  ·intro k17 h;(conv=>whnf);refine .inl (dO ?_);refine⟨a0.length,X10 _,?_⟩;refine sJ h ?_ ?_<;>intro h
   ·obtain⟨v18,g19,h⟩:=AB h;refine⟨AL (f:=JAE.toD) g19,JAE.toD v18,AM (f:=JAE.toD) g19,rfl,?_⟩;obtain⟨v20,g21,h⟩:=AB h;refine⟨_,_,HJ g21,.inl rfl,?_⟩;(conv=>whnf);refine cO ?_;exact AA wk h
   (conv=>whnf);refine cO ?_;exact AA wk h
  rintro v16 h;(conv=>whnf);refine .go ?_;refine sJ h (fun h=>?_) fun h=>AA wk h;(conv=>whnf);refine .go ?_;refine⟨_,rfl,?_⟩;exact hK15 _ _ wk h
 rintro v10 h;(conv=>whnf);refine .inl (dO ?_);obtain⟨v22,g23,h⟩:=AB h;refine⟨BX (f:=JAE.toD) g23,_,BI (f:=JAE.toD) g23,?_⟩;obtain⟨_,g24,h⟩:=AB h;refine⟨DZ (g:=JAE.toD) g24,?_⟩;refine⟨rfl,?_⟩;obtain⟨v25,g26,h⟩:=AB h;refine⟨rfl,Ae (f:=JAE.toD) (g:=JAE.toD) g26,_,Af (f:=JAE.toD) g26,?_⟩;obtain⟨v27,g28,h⟩:=AB h;refine⟨CH (f:=JAE.toD) g28,_,CJ (f:=JAE.toD) g28,?_⟩;obtain⟨v29,g30,h⟩:=AB h;refine⟨rfl,Ae (f:=JAE.toD) (g:=JAE.toD) g30,_,Af (f:=JAE.toD) g30,?_⟩;(conv=>whnf);refine cO ?_;(conv=>whnf);refine .inl ?_;refine⟨rfl,?_⟩;cases h;exact⟨rfl,rfl⟩
end Go.AX.Q33
end
section
namespace Go.AX.Q33
open Go Go.AX Go.Proofs
set_option maxRecDepth 100000
set_option maxHeartbeats 4000000
set_option linter.unusedVariables false
theorem Qu {wl:Prop} {a0:List JAB} {r:JAF×Int} (h:G7 a0=some r):CallsOK (Wl wl) Tryz.prog 64 [AV.d (D.l 3 JAB.toD a0)] [] (.tup [.d (JAF.toD r.1),.d (D.i r.2)]) []:=by
 refine okx 200 Tryz.f64 (by kernel_rfl) (by kernel_rfl) ⟨rfl,?_⟩;unfold G7 at h;obtain⟨v1,g2,h⟩:=AB h;refine⟨_,_,some [],PR g2,?_⟩;refine⟨v1.length,X10 _,?_⟩;revert h;refine AD (fun _=>⟨y0 v1::X::yr 2 0::dd 110 ([]),N::N::yB JAF.zv::nn 310 ([])⟩) ?_ ?_
 ·intro k3 h;revert h;refine AW 15 3 JAB.toD rfl (fun i4 _=>⟨y0 v1::X::yr 2 0::dd 12 (y0 v1::yi (v1.length:Int)::yi (i4:Int)::dd 95 ([])),N::N::yB JAF.zv::nn 310 ([])⟩) ?_ ?_ ?_
  ·exact wk
  ·rintro _ K5 h;(conv=>whnf);refine .go ?_;(conv=>whnf);refine A9 CP ?_;exact AA wk h
  rintro next6 i4 x7 _ K5 hii4 hxi4 hwi4 h hK8;(conv=>whnf);refine .go ?_;(conv=>whnf);refine A8 (CC hii4) ?_;(conv=>whnf);refine .go ?_;refine⟨A4 (f:=JAB.toD) hii4,JAB.toD x7,hxi4,rfl,?_⟩;revert h;refine AD (fun v9=>⟨y0 v1::X::yr 2 0::dd 12 (y0 v1::yi (v1.length:Int)::yi (i4:Int)::dd 11 (yb v9::dd 83 ([]))),N::N::yB JAF.zv::nn 310 ([])⟩) ?_ ?_
  ·intro k10 h;obtain⟨v11,g12,h⟩:=AB h;refine⟨_,_,some [],F6 g12,?_⟩;refine sJ h (fun h=>?_) fun h=>AA wk h;refine⟨_,rfl,?_⟩;exact AA wk h
  rintro v9 h;(conv=>whnf);refine .go ?_;refine sJ h ?_ ?_<;>intro h
  ·cases h;exact⟨rfl,rfl⟩
  refine⟨_,hwi4,?_⟩;exact hK8 _ _ wk h
 rintro _ h;revert h;refine AD (fun _=>⟨y0 v1::X::yr 2 0::dd 29 (AV.d (D.agg [D.i (-1),D.nil 2,D.b false,D.u64 (0:UInt64),D.u64 (0:UInt64),D.i (-1),D.i (-1),D.i (-1),D.nil 2,D.nil 3,D.nil 3])::dd 80 ([])),N::N::yB JAF.zv::nn 310 ([])⟩) ?_ ?_
 ·intro k13 h;(conv=>whnf);refine inl Tryz.f51 113 (by kernel_rfl) (by kernel_rfl) ⟨rfl,?_⟩;exact AA wk h
 rintro _ h;refine⟨v1.length,X10 _,?_⟩;revert h;refine AD (fun (v14,v15,v16,v17,v18,v19,v20,v21,v22,v23)=>⟨y0 v1::X::yr 2 0::X::X::X::yr 6 0::dd 106 ([]),N::N::yB JAF.zv::N::N::N::yA0 v14 v15 v16 v17 v18 v19 v20 v21 v22 v23::nn 306 ([])⟩) ?_ ?_
 ·intro k24 h;revert h;refine AW 33 3 JAB.toD rfl (fun i25 (v26,v27,v28,v29,v30,v31,v32,v33,v34,v35)=>⟨y0 v1::X::yr 2 0::X::X::X::yr 6 0::dd 26 (y0 v1::yi (v1.length:Int)::yi (i25:Int)::dd 77 ([])),N::N::yB JAF.zv::N::N::N::yA0 v26 v27 v28 v29 v30 v31 v32 v33 v34 v35::nn 306 ([])⟩) ?_ ?_ ?_
  ·exact wk
  ·rintro⟨v26,v27,v28,v29,v30,v31,v32,v33,v34,v35⟩ K36 h;(conv=>whnf);refine .go ?_;(conv=>whnf);refine A9 CP ?_;exact AA wk h
  rintro next37 i25 x38 ⟨v26,v27,v28,v29,v30,v31,v32,v33,v34,v35⟩ K36 hii25 hxi25 hwi25 h hK39;delta EZ at h;(conv=>whnf);refine .go ?_;(conv=>whnf);refine A8 (CC hii25) ?_;revert h;refine AD (fun (v40,v41,v42,v43,v44,v45,v46,v47,v48,v49)=>⟨y0 v1::X::yr 2 0::X::X::X::yr 6 0::dd 26 (y0 v1::yi (v1.length:Int)::yi (i25:Int)::dd 77 ([])),N::N::yB JAF.zv::N::N::N::yA0 v40 v41 v42 v43 v44 v45 v46 v47 v48 v49::nn 306 ([])⟩) ?_ ?_
  ·intro k50 h;refine⟨A4 (f:=JAB.toD) hii25,JAB.toD x38,hxi25,rfl,?_⟩;obtain⟨v51,g52,h⟩:=AB h;refine⟨_,_,some [],HS g52,?_⟩;(conv=>whnf);refine .go ?_;refine sJ h (fun h=>AA wk h) fun h=>?_;revert h;refine AD (fun (v53,v54,v55,v56,v57,v58,v59,v60,v61,v62,v63)=>⟨y0 v1::X::yr 2 0::X::X::X::yr 6 0::dd 26 (y0 v1::yi (v1.length:Int)::yi (i25:Int)::dd 27 (yb v53::dd 49 ([]))),N::N::yB JAF.zv::N::N::N::yA0 v54 v55 v56 v57 v58 v59 v60 v61 v62 v63::nn 306 ([])⟩) ?_ ?_
   ·intro k64 h;refine⟨_,rfl,?_⟩;refine sJ h (fun h=>AA wk h) fun h=>?_;refine sJ h ?_ ?_<;>intro h
    ·refine⟨_,rfl,?_⟩;refine sJ h (fun h=>AA wk h) fun h=>?_;revert h;refine AD (fun (v65,v66,v67,v68,v69,v70,v71,v72,v73,v74,v75)=>⟨y0 v1::X::yr 2 0::X::X::X::yr 6 0::dd 26 (y0 v1::yi (v1.length:Int)::yi (i25:Int)::dd 23 (yb false::X::yb v65::dd 51 ([]))),N::N::yB JAF.zv::N::N::N::yA0 v66 v67 v68 v69 v70 v71 v72 v73 v74 v75::nn 306 ([])⟩) ?_ ?_
     ·intro k76 h;(conv=>whnf);refine inl Tryz.f108 113 (by kernel_rfl) (by kernel_rfl) ⟨rfl,?_⟩;refine⟨x38.Data.length,X10 _,?_⟩;revert h;refine AD (fun (v77,v78,v79,v80,v81,v82,v83,v84,v85)=>⟨dd 200 ([]),N::N::yB JAF.zv::N::N::N::yA0 v77 v27 v78 v79 v80 v81 v82 v83 v84 v85::N::yB (JAB.av x38)::nn 304 ([])⟩) ?_ ?_
      ·intro k86 h;revert h;refine AD (fun (v87,v88,v89,v90,v91,v92,v93,v94,v95)=>⟨dd 200 ([]),N::N::yB JAF.zv::N::N::N::yA0 v87 v27 v88 v89 v90 v91 v92 v93 v94 v95::N::yB (JAB.av x38)::nn 304 ([])⟩) ?_ ?_
       ·intro k96 h;refine sJ h ?_ ?_<;>intro h
        ·revert h;refine AD (fun v97=>⟨yr 6 0::X::X::yr 116 0::dd 22 (yb v97::dd 173 ([])),N::N::yB JAF.zv::N::N::N::yA0 v26 v27 v28 v29 v30 v31 v32 v33 v34 v35::N::yB (JAB.av x38)::nn 107 (yB (JAB.av x38)::nn 196 ([]))⟩) ?_ ?_
         ·intro k98 h;refine sJ h (fun h=>AA wk h) fun h=>?_;obtain⟨v99,g100,h⟩:=AB h;refine⟨AL (f:=D.u8) g100,D.u8 v99,AM (f:=D.u8) g100,rfl,?_⟩;exact AA wk h
         rintro v97 h;(conv=>whnf);refine .go ?_;refine sJ h (fun h=>AA wk h) fun h=>?_;obtain⟨v101,g102,h⟩:=AB h;refine⟨AL (f:=D.u8) g102,D.u8 v101,AM (f:=D.u8) g102,rfl,?_⟩;refine⟨_,A3 v101,?_⟩;exact AA wk h
        (conv=>whnf);refine .go ?_;refine sJ h ?_ ?_<;>intro h
        ·obtain⟨⟨v103,v104⟩,g105,h⟩:=AB h;refine⟨_,_,some [],Ko g105,?_⟩;exact AA wk h
        revert h;refine AD (fun (v106,v107,v108,v109,v110,v111,v112,v113)=>⟨dd 200 ([]),N::N::yB JAF.zv::N::N::N::yA0 v26 v27 v106 v107 v108 v109 v110 v111 v112 v113::N::yB (JAB.av x38)::nn 304 ([])⟩) ?_ ?_
        ·intro k114 h;refine sJ h ?_ ?_<;>intro h
         ·(conv=>whnf);refine .go ?_;refine sJ h (fun h=>AA wk h) fun h=>?_;obtain⟨⟨v115,v116⟩,g117,h⟩:=AB h;refine⟨_,_,some [],BP g117,?_⟩;exact AA wk h
         revert h;refine AD (fun v118=>⟨yr 6 0::X::X::yr 116 0::X::yi (x38.Data.length:Int)::dd 9 (AV.d (D.i x38.Type_)::dd 45 (yb v118::dd 138 ([]))),N::N::yB JAF.zv::N::N::N::yA0 v26 v27 v28 v29 v30 v31 v32 v33 v34 v35::N::yB (JAB.av x38)::nn 107 (yB (JAB.av x38)::nn 196 ([]))⟩) ?_ ?_
         ·intro k119 h;refine sJ h (fun h=>AA wk h) fun h=>?_;revert h;refine AD (fun v120=>⟨yr 6 0::X::X::yr 116 0::X::yi (x38.Data.length:Int)::dd 9 (AV.d (D.i x38.Type_)::dd 45 (yb v120::dd 138 ([]))),N::N::yB JAF.zv::N::N::N::yA0 v26 v27 v28 v29 v30 v31 v32 v33 v34 v35::N::yB (JAB.av x38)::nn 107 (yB (JAB.av x38)::nn 196 ([]))⟩) ?_ ?_
          ·intro k121 h;exact sJ h (fun h=>AA wk h) fun h=>AA wk h
          rintro v120 h;exact AA wk h
         rintro v118 h;revert h;refine AD (fun (v122,v123,v124,v125,v126)=>⟨dd 200 ([]),N::N::yB JAF.zv::N::N::N::yA0 v26 v27 v28 v29 v30 v122 v123 v124 v125 v126::N::yB (JAB.av x38)::nn 304 ([])⟩) ?_ ?_
         ·intro k127 h;refine sJ h ?_ ?_<;>intro h
          ·refine⟨_,rfl,?_⟩;obtain⟨v128,g129,h⟩:=AB h;refine⟨BX (f:=D.u8) g129,_,BI (f:=D.u8) g129,?_⟩;obtain⟨v130,g131,h⟩:=AB h;refine⟨_,_,some [],A5 g131,?_⟩;revert h;refine AD (fun v132=>⟨yr 6 0::X::X::yr 116 0::dd 4 (yi v130::dd 72 (yb v132::dd 118 ([]))),N::N::yB JAF.zv::N::N::N::yA0 v26 v27 v28 v29 v30 v31 v32 v33 v34 v35::N::yB (JAB.av x38)::nn 107 (yB (JAB.av x38)::nn 196 ([]))⟩) ?_ ?_
           ·intro k133 h;refine sJ h (fun h=>AA wk h) fun h=>?_;exact sJ h (fun h=>AA wk h) fun h=>AA wk h
           rintro v132 h;(conv=>whnf);refine .go ?_;refine sJ h (fun h=>AA wk h) fun h=>?_;(conv=>whnf);refine .go ?_;revert h;refine AD (fun (v134,v135,v136)=>⟨dd 200 ([]),N::N::yB JAF.zv::N::N::N::yA0 v26 v27 v28 v29 v30 v134 v135 v136 v34 v35::N::yB (JAB.av x38)::nn 304 ([])⟩) ?_ ?_
           ·intro k137 h;refine sJ h (fun h=>AA wk h) fun h=>?_;revert h;refine AD (fun (v138,v139)=>⟨dd 200 ([]),N::N::yB JAF.zv::N::N::N::yA0 v26 v27 v28 v29 v30 v31 v138 v139 v34 v35::N::yB (JAB.av x38)::nn 304 ([])⟩) ?_ ?_
            ·intro k140 h;exact sJ h (fun h=>AA wk h) fun h=>AA wk h
            rintro⟨v138,v139⟩ h;exact AA wk h
           rintro⟨v134,v135,v136⟩ h;exact AA wk h
          revert h;refine AD (fun (v141,v142)=>⟨dd 200 ([]),N::N::yB JAF.zv::N::N::N::yA0 v26 v27 v28 v29 v30 v31 v32 v33 v141 v142::N::yB (JAB.av x38)::nn 304 ([])⟩) ?_ ?_
          ·intro k143 h;refine sJ h ?_ ?_<;>intro h
           ·revert h;refine AD (fun v144=>⟨yr 6 0::X::X::yr 116 0::X::yi (x38.Data.length:Int)::dd 107 (yb v144::dd 86 ([])),N::N::yB JAF.zv::N::N::N::yA0 v26 v27 v28 v29 v30 v31 v32 v33 v34 v35::N::yB (JAB.av x38)::nn 107 (yB (JAB.av x38)::nn 196 ([]))⟩) ?_ ?_
            ·intro k145 h;refine sJ h (fun h=>AA wk h) fun h=>?_;refine⟨by decide,_,rfl,?_⟩;refine sJ h (fun h=>AA wk h) fun h=>?_;refine⟨by decide,_,rfl,?_⟩;exact AA wk h
            rintro v144 h;(conv=>whnf);refine .go ?_;refine sJ h (fun h=>AA wk h) fun h=>?_;revert h;refine AD (fun v146=>⟨dd 200 ([]),N::N::yB JAF.zv::N::N::N::yA0 v26 v27 v28 v29 v30 v31 v32 v33 v146 v35::N::yB (JAB.av x38)::nn 304 ([])⟩) ?_ ?_
            ·intro k147 h;revert h;refine Ab (fun (v148,v149)=>⟨yr 6 0::X::X::yr 116 0::X::yi (x38.Data.length:Int)::X::X::X::yi v148::dd 190 ([]),N::N::yB JAF.zv::N::N::N::yA0 v26 v27 v28 v29 v30 v31 v32 v33 v149 v35::N::yB (JAB.av x38)::nn 107 (yB (JAB.av x38)::nn 196 ([]))⟩) ?_ ?_
             ·exact wk
             rintro next150 ⟨v148,v149⟩ K151 h hK152;(conv=>whnf);refine .go ?_;refine sJ h (fun h=>?_) fun h=>AA wk h;(conv=>whnf);refine .go ?_;(conv=>whnf);refine .inl (dO ?_);refine⟨_,rfl,?_⟩;obtain⟨v153,g154,h⟩:=AB h;refine⟨BX (f:=D.u8) g154,_,BI (f:=D.u8) g154,?_⟩;obtain⟨v155,g156,h⟩:=AB h;refine⟨_,_,A5 g156,.inl rfl,?_⟩;refine⟨_,rfl,?_⟩;refine⟨_,rfl,?_⟩;obtain⟨v157,g158,h⟩:=AB h;refine⟨BX (f:=D.u8) g158,_,BI (f:=D.u8) g158,?_⟩;obtain⟨v159,g160,h⟩:=AB h;refine⟨_,_,A5 g160,.inl rfl,?_⟩;obtain⟨⟨v161,v162⟩,g163,h⟩:=AB h;refine⟨_,_,MP g163,.inl rfl,?_⟩;(conv=>whnf);refine cO ?_;refine⟨_,rfl,?_⟩;exact hK152 _ _ wk h
            rintro v146 h;exact AA wk h
           revert h;refine AD (fun v164=>⟨dd 200 ([]),N::N::yB JAF.zv::N::N::N::yA0 v26 v27 v28 v29 v30 v31 v32 v33 v34 v164::N::yB (JAB.av x38)::nn 304 ([])⟩) ?_ ?_
           ·intro k165 h;refine sJ h (fun h=>?_) fun h=>AA wk h;revert h;refine AD (fun v166=>⟨yr 6 0::X::X::yr 116 0::X::yi (x38.Data.length:Int)::dd 153 (yb v166::dd 40 ([])),N::N::yB JAF.zv::N::N::N::yA0 v26 v27 v28 v29 v30 v31 v32 v33 v34 v35::N::yB (JAB.av x38)::nn 107 (yB (JAB.av x38)::nn 196 ([]))⟩) ?_ ?_
            ·intro k167 h;refine sJ h (fun h=>AA wk h) fun h=>?_;refine⟨by decide,_,rfl,?_⟩;refine sJ h (fun h=>AA wk h) fun h=>?_;refine⟨by decide,_,rfl,?_⟩;exact AA wk h
            rintro v166 h;(conv=>whnf);refine .go ?_;refine sJ h (fun h=>AA wk h) fun h=>?_;revert h;refine AD (fun v168=>⟨dd 200 ([]),N::N::yB JAF.zv::N::N::N::yA0 v26 v27 v28 v29 v30 v31 v32 v33 v34 v168::N::yB (JAB.av x38)::nn 304 ([])⟩) ?_ ?_
            ·intro k169 h;revert h;refine Ab (fun (v170,v171)=>⟨yr 6 0::X::X::yr 116 0::X::yi (x38.Data.length:Int)::dd 4 (yi v170::dd 189 ([])),N::N::yB JAF.zv::N::N::N::yA0 v26 v27 v28 v29 v30 v31 v32 v33 v34 v171::N::yB (JAB.av x38)::nn 107 (yB (JAB.av x38)::nn 196 ([]))⟩) ?_ ?_
             ·exact wk
             rintro next172 ⟨v170,v171⟩ K173 h hK174;(conv=>whnf);refine .go ?_;refine sJ h (fun h=>?_) fun h=>AA wk h;(conv=>whnf);refine .go ?_;(conv=>whnf);refine .inl (dO ?_);refine⟨_,rfl,?_⟩;obtain⟨v175,g176,h⟩:=AB h;refine⟨BX (f:=D.u8) g176,_,BI (f:=D.u8) g176,?_⟩;obtain⟨v177,g178,h⟩:=AB h;refine⟨_,_,A5 g178,.inl rfl,?_⟩;refine⟨_,rfl,?_⟩;refine⟨_,rfl,?_⟩;obtain⟨v179,g180,h⟩:=AB h;refine⟨BX (f:=D.u8) g180,_,BI (f:=D.u8) g180,?_⟩;obtain⟨v181,g182,h⟩:=AB h;refine⟨_,_,A5 g182,.inl rfl,?_⟩;refine⟨_,rfl,?_⟩;refine⟨_,rfl,?_⟩;obtain⟨v183,g184,h⟩:=AB h;refine⟨BX (f:=D.u8) g184,_,BI (f:=D.u8) g184,?_⟩;obtain⟨v185,g186,h⟩:=AB h;refine⟨_,_,A5 g186,.inl rfl,?_⟩;obtain⟨⟨v187,v188⟩,g189,h⟩:=AB h;refine⟨_,_,Hw g189,.inl rfl,?_⟩;(conv=>whnf);refine cO ?_;refine⟨_,rfl,?_⟩;exact hK174 _ _ wk h
            rintro v168 h;exact AA wk h
           rintro v164 h;exact AA wk h
          rintro⟨v141,v142⟩ h;exact AA wk h
         rintro⟨v122,v123,v124,v125,v126⟩ h;exact AA wk h
        rintro⟨v106,v107,v108,v109,v110,v111,v112,v113⟩ h;exact AA wk h
       rintro⟨v87,v88,v89,v90,v91,v92,v93,v94,v95⟩ h;exact AA wk h
      rintro⟨v77,v78,v79,v80,v81,v82,v83,v84,v85⟩ h;exact AA wk h
     rintro⟨v65,v66,v67,v68,v69,v70,v71,v72,v73,v74,v75⟩ h;exact AA wk h
    revert h;refine AD (fun (v190,v191,v192,v193,v194,v195,v196,v197,v198,v199,v200)=>⟨y0 v1::X::yr 2 0::X::X::X::yr 6 0::dd 26 (y0 v1::yi (v1.length:Int)::yi (i25:Int)::dd 23 (yb false::X::yb v190::dd 51 ([]))),N::N::yB JAF.zv::N::N::N::yA0 v191 v192 v193 v194 v195 v196 v197 v198 v199 v200::nn 306 ([])⟩) ?_ ?_
    ·intro k201 h;(conv=>whnf);refine inl Tryz.f108 113 (by kernel_rfl) (by kernel_rfl) ⟨rfl,?_⟩;refine⟨x38.Data.length,X10 _,?_⟩;revert h;refine AD (fun (v202,v203,v204,v205,v206,v207,v208,v209,v210)=>⟨dd 200 ([]),N::N::yB JAF.zv::N::N::N::yA0 v202 v27 v203 v204 v205 v206 v207 v208 v209 v210::N::yB (JAB.av x38)::nn 304 ([])⟩) ?_ ?_
     ·intro k211 h;revert h;refine AD (fun (v212,v213,v214,v215,v216,v217,v218,v219,v220)=>⟨dd 200 ([]),N::N::yB JAF.zv::N::N::N::yA0 v212 v27 v213 v214 v215 v216 v217 v218 v219 v220::N::yB (JAB.av x38)::nn 304 ([])⟩) ?_ ?_
      ·intro k221 h;refine sJ h ?_ ?_<;>intro h
       ·revert h;refine AD (fun v222=>⟨yr 6 0::X::X::yr 116 0::dd 22 (yb v222::dd 173 ([])),N::N::yB JAF.zv::N::N::N::yA0 v26 v27 v28 v29 v30 v31 v32 v33 v34 v35::N::yB (JAB.av x38)::nn 107 (yB (JAB.av x38)::nn 196 ([]))⟩) ?_ ?_
        ·intro k223 h;refine sJ h (fun h=>AA wk h) fun h=>?_;obtain⟨v224,g225,h⟩:=AB h;refine⟨AL (f:=D.u8) g225,D.u8 v224,AM (f:=D.u8) g225,rfl,?_⟩;exact AA wk h
        rintro v222 h;(conv=>whnf);refine .go ?_;refine sJ h (fun h=>AA wk h) fun h=>?_;obtain⟨v226,g227,h⟩:=AB h;refine⟨AL (f:=D.u8) g227,D.u8 v226,AM (f:=D.u8) g227,rfl,?_⟩;refine⟨_,A3 v226,?_⟩;exact AA wk h
       (conv=>whnf);refine .go ?_;refine sJ h ?_ ?_<;>intro h
       ·obtain⟨⟨v228,v229⟩,g230,h⟩:=AB h;refine⟨_,_,some [],Ko g230,?_⟩;exact AA wk h
       revert h;refine AD (fun (v231,v232,v233,v234,v235,v236,v237,v238)=>⟨dd 200 ([]),N::N::yB JAF.zv::N::N::N::yA0 v26 v27 v231 v232 v233 v234 v235 v236 v237 v238::N::yB (JAB.av x38)::nn 304 ([])⟩) ?_ ?_
       ·intro k239 h;refine sJ h ?_ ?_<;>intro h
        ·(conv=>whnf);refine .go ?_;refine sJ h (fun h=>AA wk h) fun h=>?_;obtain⟨⟨v240,v241⟩,g242,h⟩:=AB h;refine⟨_,_,some [],BP g242,?_⟩;exact AA wk h
        revert h;refine AD (fun v243=>⟨yr 6 0::X::X::yr 116 0::X::yi (x38.Data.length:Int)::dd 9 (AV.d (D.i x38.Type_)::dd 45 (yb v243::dd 138 ([]))),N::N::yB JAF.zv::N::N::N::yA0 v26 v27 v28 v29 v30 v31 v32 v33 v34 v35::N::yB (JAB.av x38)::nn 107 (yB (JAB.av x38)::nn 196 ([]))⟩) ?_ ?_
        ·intro k244 h;refine sJ h (fun h=>AA wk h) fun h=>?_;revert h;refine AD (fun v245=>⟨yr 6 0::X::X::yr 116 0::X::yi (x38.Data.length:Int)::dd 9 (AV.d (D.i x38.Type_)::dd 45 (yb v245::dd 138 ([]))),N::N::yB JAF.zv::N::N::N::yA0 v26 v27 v28 v29 v30 v31 v32 v33 v34 v35::N::yB (JAB.av x38)::nn 107 (yB (JAB.av x38)::nn 196 ([]))⟩) ?_ ?_
         ·intro k246 h;exact sJ h (fun h=>AA wk h) fun h=>AA wk h
         rintro v245 h;exact AA wk h
        rintro v243 h;revert h;refine AD (fun (v247,v248,v249,v250,v251)=>⟨dd 200 ([]),N::N::yB JAF.zv::N::N::N::yA0 v26 v27 v28 v29 v30 v247 v248 v249 v250 v251::N::yB (JAB.av x38)::nn 304 ([])⟩) ?_ ?_
        ·intro k252 h;refine sJ h ?_ ?_<;>intro h
         ·refine⟨_,rfl,?_⟩;obtain⟨v253,g254,h⟩:=AB h;refine⟨BX (f:=D.u8) g254,_,BI (f:=D.u8) g254,?_⟩;obtain⟨v255,g256,h⟩:=AB h;refine⟨_,_,some [],A5 g256,?_⟩;revert h;refine AD (fun v257=>⟨yr 6 0::X::X::yr 116 0::dd 4 (yi v255::dd 72 (yb v257::dd 118 ([]))),N::N::yB JAF.zv::N::N::N::yA0 v26 v27 v28 v29 v30 v31 v32 v33 v34 v35::N::yB (JAB.av x38)::nn 107 (yB (JAB.av x38)::nn 196 ([]))⟩) ?_ ?_
          ·intro k258 h;refine sJ h (fun h=>AA wk h) fun h=>?_;exact sJ h (fun h=>AA wk h) fun h=>AA wk h
          rintro v257 h;(conv=>whnf);refine .go ?_;refine sJ h (fun h=>AA wk h) fun h=>?_;(conv=>whnf);refine .go ?_;revert h;refine AD (fun (v259,v260,v261)=>⟨dd 200 ([]),N::N::yB JAF.zv::N::N::N::yA0 v26 v27 v28 v29 v30 v259 v260 v261 v34 v35::N::yB (JAB.av x38)::nn 304 ([])⟩) ?_ ?_
          ·intro k262 h;refine sJ h (fun h=>AA wk h) fun h=>?_;revert h;refine AD (fun (v263,v264)=>⟨dd 200 ([]),N::N::yB JAF.zv::N::N::N::yA0 v26 v27 v28 v29 v30 v31 v263 v264 v34 v35::N::yB (JAB.av x38)::nn 304 ([])⟩) ?_ ?_
           ·intro k265 h;exact sJ h (fun h=>AA wk h) fun h=>AA wk h
           rintro⟨v263,v264⟩ h;exact AA wk h
          rintro⟨v259,v260,v261⟩ h;exact AA wk h
         revert h;refine AD (fun (v266,v267)=>⟨dd 200 ([]),N::N::yB JAF.zv::N::N::N::yA0 v26 v27 v28 v29 v30 v31 v32 v33 v266 v267::N::yB (JAB.av x38)::nn 304 ([])⟩) ?_ ?_
         ·intro k268 h;refine sJ h ?_ ?_<;>intro h
          ·revert h;refine AD (fun v269=>⟨yr 6 0::X::X::yr 116 0::X::yi (x38.Data.length:Int)::dd 107 (yb v269::dd 86 ([])),N::N::yB JAF.zv::N::N::N::yA0 v26 v27 v28 v29 v30 v31 v32 v33 v34 v35::N::yB (JAB.av x38)::nn 107 (yB (JAB.av x38)::nn 196 ([]))⟩) ?_ ?_
           ·intro k270 h;refine sJ h (fun h=>AA wk h) fun h=>?_;refine⟨by decide,_,rfl,?_⟩;refine sJ h (fun h=>AA wk h) fun h=>?_;refine⟨by decide,_,rfl,?_⟩;exact AA wk h
           rintro v269 h;(conv=>whnf);refine .go ?_;refine sJ h (fun h=>AA wk h) fun h=>?_;revert h;refine AD (fun v271=>⟨dd 200 ([]),N::N::yB JAF.zv::N::N::N::yA0 v26 v27 v28 v29 v30 v31 v32 v33 v271 v35::N::yB (JAB.av x38)::nn 304 ([])⟩) ?_ ?_
           ·intro k272 h;revert h;refine Ab (fun (v273,v274)=>⟨yr 6 0::X::X::yr 116 0::X::yi (x38.Data.length:Int)::X::X::X::yi v273::dd 190 ([]),N::N::yB JAF.zv::N::N::N::yA0 v26 v27 v28 v29 v30 v31 v32 v33 v274 v35::N::yB (JAB.av x38)::nn 107 (yB (JAB.av x38)::nn 196 ([]))⟩) ?_ ?_
            ·exact wk
            rintro next275 ⟨v273,v274⟩ K276 h hK277;(conv=>whnf);refine .go ?_;refine sJ h (fun h=>?_) fun h=>AA wk h;(conv=>whnf);refine .go ?_;(conv=>whnf);refine .inl (dO ?_);refine⟨_,rfl,?_⟩;obtain⟨v278,g279,h⟩:=AB h;refine⟨BX (f:=D.u8) g279,_,BI (f:=D.u8) g279,?_⟩;obtain⟨v280,g281,h⟩:=AB h;refine⟨_,_,A5 g281,.inl rfl,?_⟩;refine⟨_,rfl,?_⟩;refine⟨_,rfl,?_⟩;obtain⟨v282,g283,h⟩:=AB h;refine⟨BX (f:=D.u8) g283,_,BI (f:=D.u8) g283,?_⟩;obtain⟨v284,g285,h⟩:=AB h;refine⟨_,_,A5 g285,.inl rfl,?_⟩;obtain⟨⟨v286,v287⟩,g288,h⟩:=AB h;refine⟨_,_,MP g288,.inl rfl,?_⟩;(conv=>whnf);refine cO ?_;refine⟨_,rfl,?_⟩;exact hK277 _ _ wk h
           rintro v271 h;exact AA wk h
          revert h;refine AD (fun v289=>⟨dd 200 ([]),N::N::yB JAF.zv::N::N::N::yA0 v26 v27 v28 v29 v30 v31 v32 v33 v34 v289::N::yB (JAB.av x38)::nn 304 ([])⟩) ?_ ?_
          ·intro k290 h;refine sJ h (fun h=>?_) fun h=>AA wk h;revert h;refine AD (fun v291=>⟨yr 6 0::X::X::yr 116 0::X::yi (x38.Data.length:Int)::dd 153 (yb v291::dd 40 ([])),N::N::yB JAF.zv::N::N::N::yA0 v26 v27 v28 v29 v30 v31 v32 v33 v34 v35::N::yB (JAB.av x38)::nn 107 (yB (JAB.av x38)::nn 196 ([]))⟩) ?_ ?_
           ·intro k292 h;refine sJ h (fun h=>AA wk h) fun h=>?_;refine⟨by decide,_,rfl,?_⟩;refine sJ h (fun h=>AA wk h) fun h=>?_;refine⟨by decide,_,rfl,?_⟩;exact AA wk h
           rintro v291 h;(conv=>whnf);refine .go ?_;refine sJ h (fun h=>AA wk h) fun h=>?_;revert h;refine AD (fun v293=>⟨dd 200 ([]),N::N::yB JAF.zv::N::N::N::yA0 v26 v27 v28 v29 v30 v31 v32 v33 v34 v293::N::yB (JAB.av x38)::nn 304 ([])⟩) ?_ ?_
           ·intro k294 h;revert h;refine Ab (fun (v295,v296)=>⟨yr 6 0::X::X::yr 116 0::X::yi (x38.Data.length:Int)::dd 4 (yi v295::dd 189 ([])),N::N::yB JAF.zv::N::N::N::yA0 v26 v27 v28 v29 v30 v31 v32 v33 v34 v296::N::yB (JAB.av x38)::nn 107 (yB (JAB.av x38)::nn 196 ([]))⟩) ?_ ?_
            ·exact wk
            rintro next297 ⟨v295,v296⟩ K298 h hK299;(conv=>whnf);refine .go ?_;refine sJ h (fun h=>?_) fun h=>AA wk h;(conv=>whnf);refine .go ?_;(conv=>whnf);refine .inl (dO ?_);refine⟨_,rfl,?_⟩;obtain⟨v300,g301,h⟩:=AB h;refine⟨BX (f:=D.u8) g301,_,BI (f:=D.u8) g301,?_⟩;obtain⟨v302,g303,h⟩:=AB h;refine⟨_,_,A5 g303,.inl rfl,?_⟩;refine⟨_,rfl,?_⟩;refine⟨_,rfl,?_⟩;obtain⟨v304,g305,h⟩:=AB h;refine⟨BX (f:=D.u8) g305,_,BI (f:=D.u8) g305,?_⟩;obtain⟨v306,g307,h⟩:=AB h;refine⟨_,_,A5 g307,.inl rfl,?_⟩;refine⟨_,rfl,?_⟩;refine⟨_,rfl,?_⟩;obtain⟨v308,g309,h⟩:=AB h;refine⟨BX (f:=D.u8) g309,_,BI (f:=D.u8) g309,?_⟩;obtain⟨v310,g311,h⟩:=AB h;refine⟨_,_,A5 g311,.inl rfl,?_⟩;obtain⟨⟨v312,v313⟩,g314,h⟩:=AB h;refine⟨_,_,Hw g314,.inl rfl,?_⟩;(conv=>whnf);refine cO ?_;refine⟨_,rfl,?_⟩;exact hK299 _ _ wk h
           rintro v293 h;exact AA wk h
          rintro v289 h;exact AA wk h
         rintro⟨v266,v267⟩ h;exact AA wk h
        rintro⟨v247,v248,v249,v250,v251⟩ h;exact AA wk h
       rintro⟨v231,v232,v233,v234,v235,v236,v237,v238⟩ h;exact AA wk h
      rintro⟨v212,v213,v214,v215,v216,v217,v218,v219,v220⟩ h;exact AA wk h
     rintro⟨v202,v203,v204,v205,v206,v207,v208,v209,v210⟩ h;exact AA wk h
    rintro⟨v190,v191,v192,v193,v194,v195,v196,v197,v198,v199,v200⟩ h;exact AA wk h
   rintro⟨v53,v54,v55,v56,v57,v58,v59,v60,v61,v62,v63⟩ h;(conv=>whnf);refine .go ?_;refine sJ h (fun h=>?_) fun h=>AA wk h;cases h;exact⟨rfl,rfl⟩
  rintro⟨v40,v41,v42,v43,v44,v45,v46,v47,v48,v49⟩ h;refine⟨_,hwi25,?_⟩;exact hK39 _ _ wk h
 rintro⟨v14,v15,v16,v17,v18,v19,v20,v21,v22,v23⟩ h;revert h;refine AD (fun v315=>⟨X::X::yr 2 0::X::X::X::yr 6 0::dd 106 ([]),N::N::yB JAF.zv::N::N::N::yB [yi v14,y2 v15,yb v16,yu v17,yu v18,yi v19,yi v20,yi v21,y4 v22,y5 v23,yO 104 JAB.toD v315]::nn 97 (yR 144 3 JAB.toD v315::nn 208 ([]))⟩) ?_ ?_
 ·intro k316 h;revert h;refine Ab (fun (v317,v318)=>⟨y0 v1::X::yr 2 0::X::X::X::yr 6 0::X::X::X::yi v317::dd 102 ([]),N::N::yB JAF.zv::N::N::N::yB [yi v14,y2 v15,yb v16,yu v17,yu v18,yi v19,yi v20,yi v21,y4 v22,y5 v23,yO 104 JAB.toD v318]::nn 97 (yR 144 3 JAB.toD v318::nn 208 ([]))⟩) ?_ ?_
  ·exact wk
  rintro next319 ⟨v317,v318⟩ K320 h hK321;(conv=>whnf);refine .go ?_;refine sJ h (fun h=>?_) fun h=>AA wk h;revert h;refine AD (fun v322=>⟨y0 v1::X::yr 2 0::X::X::X::yr 6 0::X::X::X::yi v317::dd 102 ([]),N::N::yB JAF.zv::N::N::N::yB [yi v14,y2 v15,yb v16,yu v17,yu v18,yi v19,yi v20,yi v21,y4 v22,y5 v23,yO 104 JAB.toD v322]::nn 97 (yR 144 3 JAB.toD v322::nn 208 ([]))⟩) ?_ ?_
  ·intro k323 h;refine⟨v1.length,X10 _,?_⟩;revert h;refine AD (fun v324=>⟨y0 v1::X::yr 2 0::X::X::X::yr 6 0::X::X::X::yi v317::dd 102 ([]),N::N::yB JAF.zv::N::N::N::yB [yi v14,y2 v15,yb v16,yu v17,yu v18,yi v19,yi v20,yi v21,y4 v22,y5 v23,yO 104 JAB.toD v324]::nn 97 (yR 144 3 JAB.toD v324::nn 208 ([]))⟩) ?_ ?_
   ·intro k325 h;revert h;refine AW 70 3 JAB.toD rfl (fun i326 v327=>⟨y0 v1::X::yr 2 0::X::X::X::yr 6 0::X::X::X::yi v317::dd 59 (y0 v1::yi (v1.length:Int)::yi (i326:Int)::dd 40 ([])),N::N::yB JAF.zv::N::N::N::yB [yi v14,y2 v15,yb v16,yu v17,yu v18,yi v19,yi v20,yi v21,y4 v22,y5 v23,yO 104 JAB.toD v327]::nn 97 (yR 144 3 JAB.toD v327::nn 208 ([]))⟩) ?_ ?_ ?_
    ·exact wk
    ·rintro v327 K328 h;(conv=>whnf);refine .go ?_;(conv=>whnf);refine A9 CP ?_;exact AA wk h
    rintro next329 i326 x330 v327 K328 hii326 hxi326 hwi326 h hK331;(conv=>whnf);refine .go ?_;(conv=>whnf);refine A8 (CC hii326) ?_;(conv=>whnf);refine .go ?_;refine⟨A4 (f:=JAB.toD) hii326,JAB.toD x330,hxi326,rfl,?_⟩;revert h;refine AD (fun v332=>⟨y0 v1::X::yr 2 0::X::X::X::yr 6 0::X::X::X::yi v317::X::yr 12 0::dd 57 (y0 v1::yi (v1.length:Int)::yi (i326:Int)::dd 22 (yb v332::dd 17 ([]))),N::N::yB JAF.zv::N::N::N::yB [yi v14,y2 v15,yb v16,yu v17,yu v18,yi v19,yi v20,yi v21,y4 v22,y5 v23,yO 104 JAB.toD v327]::nn 5 (yB (JAB.av x330)::nn 91 (yR 144 3 JAB.toD v327::nn 208 ([])))⟩) ?_ ?_
    ·intro k333 h;refine sJ h (fun h=>?_) fun h=>AA wk h;obtain⟨v334,g335,h⟩:=AB h;refine⟨_,_,some [],F6 g335,?_⟩;refine sJ h (fun h=>?_) fun h=>AA wk h;refine⟨_,rfl,?_⟩;refine sJ h (fun h=>?_) fun h=>AA wk h;refine⟨x330.Data.length,X10 _,?_⟩;exact AA wk h
    rintro v332 h;revert h;refine AD (fun v336=>⟨y0 v1::X::yr 2 0::X::X::X::yr 6 0::X::X::X::yi v317::dd 59 (y0 v1::yi (v1.length:Int)::yi (i326:Int)::dd 40 ([])),N::N::yB JAF.zv::N::N::N::yB [yi v14,y2 v15,yb v16,yu v17,yu v18,yi v19,yi v20,yi v21,y4 v22,y5 v23,yO 104 JAB.toD v336]::nn 97 (yR 144 3 JAB.toD v336::nn 208 ([]))⟩) ?_ ?_
    ·intro k337 h;refine sJ h (fun h=>?_) fun h=>AA wk h;(conv=>whnf);refine .inl (dO ?_);obtain⟨_,g338,h⟩:=AB h;refine⟨DZ (g:=D.u8) g338,?_⟩;(conv=>whnf);refine .inl ?_;refine⟨rfl,?_⟩;refine⟨rfl,?_⟩;obtain⟨v339,g340,h⟩:=AB h;refine⟨rfl,Ae (f:=JAB.toD) (g:=JAB.toD) g340,_,Af (f:=JAB.toD) g340,?_⟩;(conv=>whnf);refine cO ?_;exact AA wk h
    rintro v336 h;refine⟨_,hwi326,?_⟩;exact hK331 _ _ wk h
   rintro v324 h;exact AA wk h
  rintro v322 h;refine⟨_,rfl,?_⟩;exact hK321 _ _ wk h
 rintro v315 h;refine⟨v315.length,by first | exact X10 _ | rfl | (simp only[X10];omega),?_⟩;(conv=>whnf);refine .go ?_;refine sJ h ?_ ?_<;>intro h
 ·cases h;exact⟨rfl,rfl⟩
 refine⟨rfl,?_⟩;cases h;exact⟨rfl,rfl⟩
end Go.AX.Q33
end
section
namespace Go.AX.Q33
open Go Go.AX Go.Proofs
set_option maxRecDepth 100000
set_option maxHeartbeats 4000000
set_option linter.unusedVariables false
theorem JM {wl:Prop} {a0:JAB} {a1:Int} {r:Bool} (h:ED a0 a1=some r):CallsOK (Wl wl) Tryz.prog 65 [AV.d (JAB.toD a0),AV.d (D.i a1)] [] (.d (D.b r)) []:=by
 refine oK Tryz.f65 ⟨rfl,?_⟩;unfold ED at h;revert h;refine AD (fun v1=>⟨dd 4 (yb v1::dd 8 ([])),nn 13 ([])⟩) ?_ ?_
 ·intro k2 h;refine sJ h (fun h=>?_) fun h=>AA wk h;refine⟨_,rfl,?_⟩;exact AA wk h
 rintro v1 h;cases h;exact⟨rfl,rfl⟩
theorem JC {wl:Prop} {a0:List UInt8} {r:JAH×Int} (h:Eu a0=some r):CallsOK (Wl wl) Tryz.prog 31 [AV.d (D.l 1 D.u8 a0)] [] (.tup [.d (JAH.toD r.1),.d (D.i r.2)]) []:=by
 refine okx 64 Tryz.f31 (by kernel_rfl) (by kernel_rfl) ⟨rfl,?_⟩;unfold Eu at h;obtain⟨⟨v1,v2,v3⟩,g4,h⟩:=AB h;refine⟨_,_,some [],H8 g4,?_⟩;obtain⟨⟨v5,v6,v7⟩,g8,h⟩:=AB h;refine⟨_,_,some [],H8 g8,?_⟩;revert h;refine AD (fun v9=>⟨X::X::yr 2 0::X::y1 v1::X::y1 v5::y1 v6::dd 38 (yb v9::dd 158 ([])),N::N::yB JAH.zv::nn 266 ([])⟩) ?_ ?_
 ·intro k10 h;exact sJ h (fun h=>AA wk h) fun h=>AA wk h
 rintro v9 h;(conv=>whnf);refine .go ?_;refine sJ h ?_ ?_<;>intro h
 ·cases h;exact⟨rfl,rfl⟩
 revert h;refine AD (fun _=>⟨X::X::yr 2 0::X::y1 v1::X::y1 v5::y1 v6::dd 40 (AV.d (D.agg [D.i (-1),D.nil 2,D.b false,D.u64 (0:UInt64),D.u64 (0:UInt64),D.i (-1),D.i (-1),D.i (-1),D.nil 2,D.nil 3,D.nil 3])::dd 156 ([])),N::N::yB JAH.zv::nn 266 ([])⟩) ?_ ?_
 ·intro k11 h;(conv=>whnf);refine inl Tryz.f51 205 (by kernel_rfl) (by kernel_rfl) ⟨rfl,?_⟩;exact AA wk h
 rintro _ h;revert h;refine AD (fun (v12,v13)=>⟨X::X::yr 2 0::X::X::X::y1 v5::y1 v6::X::yr 9 0::dd 42 (AV.tup [yO 204 JAD.toD v13,yb v12]::dd 152 ([])),N::N::yB JAH.zv::nn 6 (yA1 (-1) false (0:UInt64) (0:UInt64) (-1) (-1) (-1)::nn 194 (yR 73 4 JAD.toD v13::nn 64 ([])))⟩) ?_ ?_
 ·intro k14 h;(conv=>whnf);refine inl Tryz.f60 205 (by kernel_rfl) (by kernel_rfl) ⟨rfl,?_⟩;(conv=>whnf);refine .go ?_;revert h;refine AD (fun v15=>⟨dd 6 (yO 211 JAD.toD v15::dd 57 ([])),N::N::yB JAH.zv::nn 6 (yA1 (-1) false (0:UInt64) (0:UInt64) (-1) (-1) (-1)::nn 201 (yR 73 4 JAD.toD v15::nn 57 ([])))⟩) ?_ ?_
  ·intro k16 h;revert h;refine Ab (fun (v17,v18)=>⟨y1 v17::dd 5 (yO 211 JAD.toD v18::yi 4::dd 56 ([])),N::N::yB JAH.zv::nn 6 (yA1 (-1) false (0:UInt64) (0:UInt64) (-1) (-1) (-1)::nn 201 (yR 73 4 JAD.toD v18::nn 57 ([])))⟩) ?_ ?_
   ·exact wk
   rintro next19 ⟨v17,v18⟩ K20 h hK21;refine⟨v17.length,X10 _,?_⟩;(conv=>whnf);refine .go ?_;refine sJ h (fun h=>?_) fun h=>AA wk h;(conv=>whnf);refine .go ?_;obtain⟨v22,g23,h⟩:=AB h;refine⟨AL (f:=D.u8) g23,D.u8 v22,AM (f:=D.u8) g23,rfl,?_⟩;refine⟨_,A3 v22,?_⟩;refine⟨_,rfl,?_⟩;refine⟨by decide,_,rfl,?_⟩;revert h;refine AD (fun v24=>⟨y1 v17::dd 5 (yO 211 JAD.toD v18::yi 4::yi (v22.toNat:Int)::AV.d (D.i (AK (Int.tdiv (AK ((v22.toNat:Int) + 7)) 8)))::dd 25 (yb v24::dd 28 ([]))),N::N::yB JAH.zv::nn 6 (yA1 (-1) false (0:UInt64) (0:UInt64) (-1) (-1) (-1)::nn 201 (yR 73 4 JAD.toD v18::nn 57 ([])))⟩) ?_ ?_
   ·intro k25 h;refine⟨_,rfl,?_⟩;refine sJ h (fun h=>AA wk h) fun h=>?_;refine⟨v17.length,X10 _,?_⟩;refine⟨_,rfl,?_⟩;exact AA wk h
   rintro v24 h;(conv=>whnf);refine .go ?_;refine sJ h ?_ ?_<;>intro h
   ·exact AA (.swap 209 204 rfl rfl rfl wk) h
   refine⟨_,rfl,?_⟩;obtain⟨v26,g27,h⟩:=AB h;refine⟨BX (f:=D.u8) g27,_,BI (f:=D.u8) g27,?_⟩;obtain⟨_,g28,h⟩:=AB h;refine⟨DZ (g:=D.u8) g28,?_⟩;refine⟨_,rfl,?_⟩;obtain⟨_,g29,h⟩:=AB h;obtain⟨v30,g31,h⟩:=AB h;refine⟨SZ rfl g29 (X29 rfl) g31,D.u8 (0:UInt8),rfl,List.map D.u8 v30,Sl (f:=D.u8) g31,?_⟩;refine⟨rfl,?_⟩;obtain⟨⟨v32,v33⟩,g34,h⟩:=AB h;refine⟨_,_,none,BP g34,?_⟩;obtain⟨⟨v35,v36⟩,g37,h⟩:=AB h;refine⟨_,_,some [],FB g37,?_⟩;(conv=>whnf);refine .inl (dO ?_);refine⟨rfl,?_⟩;obtain⟨v38,g39,h⟩:=AB h;refine⟨rfl,Ae (f:=JAD.toD) (g:=JAD.toD) g39,_,Af (f:=JAD.toD) g39,?_⟩;refine⟨_,rfl,?_⟩;obtain⟨v40,g41,h⟩:=AB h;refine⟨CH (f:=D.u8) g41,_,CJ (f:=D.u8) g41,?_⟩;(conv=>whnf);refine cO ?_;exact hK21 _ _ wk h
  rintro v15 h;exact AA (.swap 211 204 rfl rfl rfl wk) h
 rintro⟨v12,v13⟩ h;obtain⟨⟨v42,v43⟩,g44,h⟩:=AB h;refine⟨_,_,some [],JV g44,?_⟩;obtain⟨⟨v45,v46⟩,g47,h⟩:=AB h;refine⟨_,_,some [],H9 g47,?_⟩;obtain⟨⟨v48,v49⟩,g50,h⟩:=AB h;refine⟨_,_,some [],H9 g50,?_⟩;obtain⟨⟨v51,v52,v53⟩,g54,h⟩:=AB h;refine⟨_,_,some [],PK g54,?_⟩;obtain⟨⟨v55,v56⟩,g57,h⟩:=AB h;refine⟨_,_,some [],M9 g57,?_⟩;revert h;refine AD (fun (v58,v59)=>⟨X::X::yr 2 0::dd 6 (yr 9 0::yO 204 JAD.toD v13::yb v12::y0 v42::yi v43::yr 14 0::yi v46::yr 16 0::yi v49::yr 18 0::y6 v52::yb v53::y6 v55::yb v56::dd 62 (AV.tup [yO 203 JAD.toD v59,yb v58]::dd 119 ([]))),N::N::yB JAH.zv::nn 6 (yA1 (-1) false (0:UInt64) (0:UInt64) (-1) (-1) (-1)::nn 4 (yB (JAB.av v45)::N::yB (JAB.av v48)::N::yB (Addr.av v51)::nn 184 (yR 73 4 JAD.toD v59::yR 73 4 JAD.toD v13::nn 64 ([]))))⟩) ?_ ?_
 ·intro k60 h;(conv=>whnf);refine inl Tryz.f60 205 (by kernel_rfl) (by kernel_rfl) ⟨rfl,?_⟩;(conv=>whnf);refine .go ?_;revert h;refine AD (fun v61=>⟨dd 6 (yO 211 JAD.toD v61::dd 57 ([])),N::N::yB JAH.zv::nn 6 (yA1 (-1) false (0:UInt64) (0:UInt64) (-1) (-1) (-1)::nn 4 (yB (JAB.av v45)::N::yB (JAB.av v48)::N::yB (Addr.av v51)::nn 185 (yR 73 4 JAD.toD v13::nn 6 (yR 73 4 JAD.toD v61::nn 57 ([])))))⟩) ?_ ?_
  ·intro k62 h;revert h;refine Ab (fun (v63,v64)=>⟨y1 v63::dd 5 (yO 211 JAD.toD v64::yi 4::dd 56 ([])),N::N::yB JAH.zv::nn 6 (yA1 (-1) false (0:UInt64) (0:UInt64) (-1) (-1) (-1)::nn 4 (yB (JAB.av v45)::N::yB (JAB.av v48)::N::yB (Addr.av v51)::nn 185 (yR 73 4 JAD.toD v13::nn 6 (yR 73 4 JAD.toD v64::nn 57 ([])))))⟩) ?_ ?_
   ·exact wk
   rintro next65 ⟨v63,v64⟩ K66 h hK67;refine⟨v63.length,X10 _,?_⟩;(conv=>whnf);refine .go ?_;refine sJ h (fun h=>?_) fun h=>AA wk h;(conv=>whnf);refine .go ?_;obtain⟨v68,g69,h⟩:=AB h;refine⟨AL (f:=D.u8) g69,D.u8 v68,AM (f:=D.u8) g69,rfl,?_⟩;refine⟨_,A3 v68,?_⟩;refine⟨_,rfl,?_⟩;refine⟨by decide,_,rfl,?_⟩;revert h;refine AD (fun v70=>⟨y1 v63::dd 5 (yO 211 JAD.toD v64::yi 4::yi (v68.toNat:Int)::AV.d (D.i (AK (Int.tdiv (AK ((v68.toNat:Int) + 7)) 8)))::dd 25 (yb v70::dd 28 ([]))),N::N::yB JAH.zv::nn 6 (yA1 (-1) false (0:UInt64) (0:UInt64) (-1) (-1) (-1)::nn 4 (yB (JAB.av v45)::N::yB (JAB.av v48)::N::yB (Addr.av v51)::nn 185 (yR 73 4 JAD.toD v13::nn 6 (yR 73 4 JAD.toD v64::nn 57 ([])))))⟩) ?_ ?_
   ·intro k71 h;refine⟨_,rfl,?_⟩;refine sJ h (fun h=>AA wk h) fun h=>?_;refine⟨v63.length,X10 _,?_⟩;refine⟨_,rfl,?_⟩;exact AA wk h
   rintro v70 h;(conv=>whnf);refine .go ?_;refine sJ h ?_ ?_<;>intro h
   ·exact AA (.swap 209 203 rfl rfl rfl wk) h
   refine⟨_,rfl,?_⟩;obtain⟨v72,g73,h⟩:=AB h;refine⟨BX (f:=D.u8) g73,_,BI (f:=D.u8) g73,?_⟩;obtain⟨_,g74,h⟩:=AB h;refine⟨DZ (g:=D.u8) g74,?_⟩;refine⟨_,rfl,?_⟩;obtain⟨_,g75,h⟩:=AB h;obtain⟨v76,g77,h⟩:=AB h;refine⟨SZ rfl g75 (X29 rfl) g77,D.u8 (0:UInt8),rfl,List.map D.u8 v76,Sl (f:=D.u8) g77,?_⟩;refine⟨rfl,?_⟩;obtain⟨⟨v78,v79⟩,g80,h⟩:=AB h;refine⟨_,_,none,BP g80,?_⟩;obtain⟨⟨v81,v82⟩,g83,h⟩:=AB h;refine⟨_,_,some [],FB g83,?_⟩;(conv=>whnf);refine .inl (dO ?_);refine⟨rfl,?_⟩;obtain⟨v84,g85,h⟩:=AB h;refine⟨rfl,Ae (f:=JAD.toD) (g:=JAD.toD) g85,_,Af (f:=JAD.toD) g85,?_⟩;refine⟨_,rfl,?_⟩;obtain⟨v86,g87,h⟩:=AB h;refine⟨CH (f:=D.u8) g87,_,CJ (f:=D.u8) g87,?_⟩;(conv=>whnf);refine cO ?_;exact hK67 _ _ wk h
  rintro v61 h;exact AA (.swap 211 203 rfl rfl rfl wk) h
 rintro⟨v58,v59⟩ h;obtain⟨v88,g89,h⟩:=AB h;refine⟨rfl,Ae (f:=JAD.toD) (g:=JAD.toD) g89,_,Af (f:=JAD.toD) g89,?_⟩;obtain⟨v90,g91,h⟩:=AB h;refine⟨rfl,Ae (f:=JAD.toD) (g:=JAD.toD) g91,_,Af (f:=JAD.toD) g91,?_⟩;revert h;refine AD (fun v92=>⟨X::X::yr 2 0::dd 6 (yr 9 0::X::X::y0 v42::X::yr 14 0::yi v46::yr 16 0::yi v49::yr 18 0::y6 v52::X::X::X::yO 203 JAD.toD v59::dd 111 (yb v92::dd 69 ([]))),N::N::yB JAH.zv::nn 6 (yB [yO 204 JAD.toD v88,yi (-1),AV.d (D.nil 2),yb false,yu (0:UInt64),yu (0:UInt64),yi (-1),yi (-1),yi (-1),AV.d (D.nil 2),AV.d (D.nil 3),AV.d (D.nil 3),yO 203 JAD.toD v90]::nn 4 (yB (JAB.av v45)::N::yB (JAB.av v48)::N::yB (Addr.av v51)::nn 184 (yR 73 4 JAD.toD v90::yR 73 4 JAD.toD v88::nn 64 ([]))))⟩) ?_ ?_
 ·intro k93 h;refine sJ h (fun h=>AA wk h) fun h=>?_;refine sJ h (fun h=>AA wk h) fun h=>?_;refine sJ h (fun h=>AA wk h) fun h=>?_;refine sJ h (fun h=>AA wk h) fun h=>?_;refine sJ h (fun h=>AA wk h) fun h=>?_;refine⟨v59.length,by first | exact X10 _ | rfl | (simp only[X10];omega),?_⟩;refine sJ h ?_ ?_<;>intro h
  ·refine⟨v52.length,X10 _,?_⟩;refine sJ h (fun h=>AA wk h) fun h=>?_;refine⟨v88.length,by first | exact X10 _ | rfl | (simp only[X10];omega),?_⟩;refine sJ h (fun h=>AA wk h) fun h=>?_;refine⟨v90.length,by first | exact X10 _ | rfl | (simp only[X10];omega),?_⟩;exact AA wk h
  refine⟨v88.length,by first | exact X10 _ | rfl | (simp only[X10];omega),?_⟩;refine sJ h (fun h=>AA wk h) fun h=>?_;refine⟨v90.length,by first | exact X10 _ | rfl | (simp only[X10];omega),?_⟩;exact AA wk h
 rintro v92 h;(conv=>whnf);refine .go ?_;refine sJ h ?_ ?_<;>intro h
 ·cases h;exact⟨rfl,rfl⟩
 obtain⟨⟨v94,v95⟩,g96,h⟩:=AB h;refine⟨_,_,some [],Qu g96,?_⟩;(conv=>whnf);refine .go ?_;refine sJ h ?_ ?_<;>intro h
 ·cases h;exact⟨rfl,rfl⟩
 refine⟨v90.length,by first | exact X10 _ | rfl | (simp only[X10];omega),?_⟩;(conv=>whnf);refine .go ?_;refine sJ h ?_ ?_<;>intro h
 ·refine⟨rfl,?_⟩;refine⟨rfl,?_⟩;cases h;exact⟨rfl,rfl⟩
 obtain⟨⟨v97,v98⟩,g99,h⟩:=AB h;refine⟨_,_,some [],H9 g99,?_⟩;revert h;refine AD (fun v100=>⟨X::X::yr 2 0::dd 6 (yr 9 0::dd 8 (yr 18 0::y6 v52::dd 5 (yr 25 0::dd 161 (yb v100::dd 17 ([]))))),N::N::yB JAH.zv::nn 6 (yB [yO 204 JAD.toD v88,yi (-1),AV.d (D.nil 2),yb false,yu (0:UInt64),yu (0:UInt64),yi (-1),yi (-1),yi (-1),AV.d (D.nil 2),AV.d (D.nil 3),AV.d (D.nil 3),yO 203 JAD.toD v90]::nn 8 (yB (Addr.av v51)::nn 6 (yB (JAF.av v94)::nn 177 (yR 73 4 JAD.toD v90::yR 73 4 JAD.toD v88::nn 64 ([])))))⟩) ?_ ?_
 ·intro k101 h;refine sJ h (fun h=>AA wk h) fun h=>?_;obtain⟨v102,g103,h⟩:=AB h;refine⟨_,_,some [],JM g103,?_⟩;refine sJ h (fun h=>AA wk h) fun h=>?_;obtain⟨v104,g105,h⟩:=AB h;refine⟨_,_,some [],JM g105,?_⟩;refine sJ h (fun h=>AA wk h) fun h=>?_;refine sJ h (fun h=>AA wk h) fun h=>?_;refine sJ h (fun h=>AA wk h) fun h=>?_;refine⟨v59.length,by first | exact X10 _ | rfl | (simp only[X10];omega),?_⟩;exact sJ h (fun h=>AA wk h) fun h=>AA wk h
 rintro v100 h;(conv=>whnf);refine .go ?_;refine sJ h ?_ ?_<;>intro h
 ·(conv=>whnf);refine .inl (dO ?_);refine⟨rfl,?_⟩;obtain⟨_,g106,h⟩:=AB h;refine⟨DZ (g:=JAD.toD) g106,?_⟩;refine⟨rfl,?_⟩;obtain⟨v107,g108,h⟩:=AB h;refine⟨rfl,Ae (f:=JAD.toD) (g:=JAD.toD) g108,_,Af (f:=JAD.toD) g108,?_⟩;(conv=>whnf);refine cO ?_;refine⟨rfl,?_⟩;cases h;exact⟨rfl,rfl⟩
 refine⟨v52.length,X10 _,?_⟩;revert h;refine AD (fun v109=>⟨X::X::yr 2 0::dd 6 (yr 9 0::dd 15 (yr 25 0::dd 179 ([]))),N::N::yB JAH.zv::nn 6 (yB [yO 204 JAD.toD v88,yi (-1),AV.d (D.nil 2),yb false,yu (0:UInt64),yu (0:UInt64),yi (-1),yi (-1),yi (-1),AV.d (D.nil 2),AV.d (D.nil 3),AV.d (D.nil 3),yO 203 JAD.toD v90]::nn 15 (yB (JAF.av v109)::nn 177 (yR 73 4 JAD.toD v90::yR 73 4 JAD.toD v88::nn 64 ([]))))⟩) ?_ ?_
 ·intro k110 h;exact sJ h (fun h=>AA wk h) fun h=>AA wk h
 rintro v109 h;refine⟨rfl,?_⟩;refine⟨rfl,?_⟩;cases h;exact⟨rfl,rfl⟩
theorem Qi {wl:Prop} {a0:List UInt8} {r:Bool×Bool} (h:HZ a0=some r):CallsOK (Wl wl) Tryz.prog 30 [AV.d (D.l 1 D.u8 a0)] [] (.tup [.d (D.b r.1),.d (D.b r.2)]) []:=by
 refine oK Tryz.f30 ⟨rfl,?_⟩;unfold HZ at h;refine⟨a0,rfl,?_⟩;(conv=>whnf);refine .go ?_;refine sJ h ?_ ?_<;>intro h
 ·cases h;exact⟨rfl,rfl⟩
 obtain⟨⟨v1,v2⟩,g3,h⟩:=AB h;refine⟨_,_,some [],JC g3,?_⟩;revert h;refine AD (fun v4=>⟨y1 a0::dd 48 (yb v4::dd 35 ([])),nn 85 ([])⟩) ?_ ?_
 ·intro k5 h;refine sJ h (fun h=>AA wk h) fun h=>?_;refine⟨v1.Withdraw.length,X10 _,?_⟩;refine sJ h (fun h=>AA wk h) fun h=>?_;refine⟨v1.Announce.length,X10 _,?_⟩;refine sJ h (fun h=>AA wk h) fun h=>?_;refine⟨a0.length,X10 _,?_⟩;refine sJ h (fun h=>AA wk h) fun h=>?_;obtain⟨v6,g7,h⟩:=AB h;refine⟨AL (f:=D.u8) g7,D.u8 v6,AM (f:=D.u8) g7,rfl,?_⟩;refine sJ h (fun h=>AA wk h) fun h=>?_;obtain⟨v8,g9,h⟩:=AB h;refine⟨AL (f:=D.u8) g9,D.u8 v8,AM (f:=D.u8) g9,rfl,?_⟩;exact AA wk h
 rintro v4 h;(conv=>whnf);refine .go ?_;refine sJ h ?_ ?_<;>intro h
 ·cases h;exact⟨rfl,rfl⟩
 obtain⟨v10,g11,h⟩:=AB h;refine⟨CH (f:=D.u8) g11,_,CJ (f:=D.u8) g11,?_⟩;obtain⟨⟨v12,v13,v14⟩,g15,h⟩:=AB h;refine⟨_,_,some [],H8 g15,?_⟩;obtain⟨⟨v16,v17⟩,g18,h⟩:=AB h;refine⟨_,_,some [],JV g18,?_⟩;revert h;refine AD (fun v19=>⟨dd 84 (yb v19::[]),nn 85 ([])⟩) ?_ ?_
 ·intro k20 h;refine sJ h (fun h=>AA wk h) fun h=>?_;refine⟨v13.length,X10 _,?_⟩;refine sJ h (fun h=>AA wk h) fun h=>?_;refine sJ h (fun h=>AA wk h) fun h=>?_;refine⟨v16.length,X10 _,?_⟩;refine sJ h (fun h=>AA wk h) fun h=>?_;obtain⟨v21,g22,h⟩:=AB h;refine⟨AL (f:=JAB.toD) g22,JAB.toD v21,AM (f:=JAB.toD) g22,rfl,?_⟩;exact AA wk h
 rintro v19 h;(conv=>whnf);refine .go ?_;refine sJ h ?_ ?_<;>intro h
 ·cases h;exact⟨rfl,rfl⟩
 cases h;exact⟨rfl,rfl⟩
theorem Nn {wl:Prop} {a0:JAL} {a1:JAL} {a2:JAK} {a3:Int} {a4:Int} {r:(List JAJ)} (h:E9 a0 a1 a2 a3 a4=some r):CallsOK (Wl wl) Tryz.prog 14 [AV.d (JAL.toD a0),AV.d (JAL.toD a1),AV.d (JAK.toD a2),AV.d (D.i a3),AV.d (D.i a4)] [] (.d (D.l 24 JAJ.toD r)) []:=by
 refine oK Tryz.f14 ⟨rfl,?_⟩;unfold E9 at h;(conv=>whnf);refine .inl (dO ?_);(conv=>whnf);refine cO ?_;(conv=>whnf);refine .go ?_;revert h;refine AD (fun v1=>⟨X::X::X::yi a3::X::yr 5 0::X::yr 7 0::X::X::X::yb (a0.State==3)::yb (a1.State==3)::yr 13 0::dd 14 (yb v1::dd 61 ([])),nn 5 (yB (JAL.av a0)::N::yB (JAK.av a2)::nn 5 (yA2 3 a3 a4 0 0 false (0:UInt64) (0:UInt64) 0 0 0 0 false false false 0::nn 76 ([])))⟩) ?_ ?_
 ·intro k2 h;exact sJ h (fun h=>AA wk h) fun h=>AA wk h
 rintro v1 h;(conv=>whnf);refine .go ?_;refine sJ h ?_ ?_<;>intro h
 ·(conv=>whnf);refine .inl ?_;(conv=>whnf);refine .inl ?_;refine⟨rfl,?_⟩;cases h;exact⟨rfl,rfl⟩
 revert h;refine AD (fun v3=>⟨X::X::X::yi a3::X::yr 5 0::X::yr 7 0::X::X::X::yb (a0.State==3)::X::yr 13 0::dd 23 (yb v3::dd 52 ([])),nn 5 (yB (JAL.av a0)::N::yB (JAK.av a2)::nn 5 (yA2 3 a3 a4 0 0 false (0:UInt64) (0:UInt64) 0 0 0 0 false false false 0::nn 76 ([])))⟩) ?_ ?_
 ·intro k4 h;exact sJ h (fun h=>AA wk h) fun h=>AA wk h
 rintro v3 h;(conv=>whnf);refine .go ?_;refine sJ h ?_ ?_<;>intro h
 ·revert h;refine AD (fun v5=>⟨dd 13 (yr 13 0::dd 76 ([])),nn 13 (yA2 3 a3 a4 v5 0 false (0:UInt64) (0:UInt64) 0 0 0 0 false false false 0::nn 76 ([]))⟩) ?_ ?_
  ·intro k6 h;refine sJ h (fun h=>?_) fun h=>AA wk h;obtain⟨v7,g8,h⟩:=AB h;refine⟨_,_,some [],Jv g8,?_⟩;exact AA wk h
  rintro v5 h;(conv=>whnf);refine .inl ?_;(conv=>whnf);refine .inl ?_;refine⟨rfl,?_⟩;cases h;exact⟨rfl,rfl⟩
 revert h;refine AD (fun v9=>⟨X::X::X::yi a3::X::X::X::yr 7 0::dd 5 (yr 13 0::dd 37 (yb v9::dd 38 ([]))),nn 7 (yB (JAK.av a2)::nn 5 (yA2 3 a3 a4 0 0 false (0:UInt64) (0:UInt64) 0 0 0 0 false false false 0::nn 76 ([])))⟩) ?_ ?_
 ·intro k10 h;exact sJ h (fun h=>AA wk h) fun h=>AA wk h
 rintro v9 h;(conv=>whnf);refine .go ?_;refine sJ h ?_ ?_<;>intro h
 ·(conv=>whnf);refine .inl ?_;(conv=>whnf);refine .inl ?_;refine⟨rfl,?_⟩;cases h;exact⟨rfl,rfl⟩
 obtain⟨⟨v11,v12⟩,g13,h⟩:=AB h;refine⟨_,_,some [],Qi g13,?_⟩;(conv=>whnf);refine .go ?_;refine sJ h ?_ ?_<;>intro h
 ·revert h;refine AD (fun v14=>⟨dd 16 (yr 16 0::dd 73 ([])),nn 16 (yA2 5 a3 0 v14 0 false (0:UInt64) (0:UInt64) 0 0 0 0 false false false 0::nn 73 ([]))⟩) ?_ ?_
  ·intro k15 h;exact sJ h (fun h=>AA wk h) fun h=>AA wk h
  rintro v14 h;(conv=>whnf);refine .inl ?_;(conv=>whnf);refine .inl ?_;refine⟨rfl,?_⟩;cases h;exact⟨rfl,rfl⟩
 obtain⟨⟨v16,v17⟩,g18,h⟩:=AB h;refine⟨_,_,some [],JC g18,?_⟩;revert h;refine AD (fun v19=>⟨X::X::X::yi a3::dd 9 (yr 13 0::X::X::X::yr 17 0::dd 65 (yb v19::dd 6 ([]))),nn 13 (yA2 3 a3 a4 0 0 false (0:UInt64) (0:UInt64) 0 0 0 0 false false false 0::N::N::N::yB (JAH.av v16)::nn 72 ([]))⟩) ?_ ?_
 ·intro k20 h;exact sJ h (fun h=>AA wk h) fun h=>AA wk h
 rintro v19 h;(conv=>whnf);refine .go ?_;refine sJ h ?_ ?_<;>intro h
 ·(conv=>whnf);refine .inl ?_;(conv=>whnf);refine .inl ?_;refine⟨rfl,?_⟩;cases h;exact⟨rfl,rfl⟩
 (conv=>whnf);refine .inl ?_;(conv=>whnf);refine .inl ?_;refine⟨rfl,?_⟩;cases h;exact⟨rfl,rfl⟩
end Go.AX.Q33
end
section
namespace Go.AX.Q33
open Go Go.AX Go.Proofs
set_option maxRecDepth 100000
set_option maxHeartbeats 4000000
set_option linter.unusedVariables false
theorem Md {wl:Prop} {a0:RIB} {a1:Int} {r:Bool} (h:IV a0 a1=some r):CallsOK (Wl wl) Tryz.prog 17 [AV.d (RIB.toD a0),AV.d (D.i a1)] [] (.d (D.b r)) []:=by
 refine oK Tryz.f17 ⟨rfl,?_⟩;unfold IV at h;revert h;refine AD (fun v1=>⟨dd 4 (yb v1::dd 9 ([])),nn 14 ([])⟩) ?_ ?_
 ·intro k2 h;exact sJ h (fun h=>AA wk h) fun h=>AA wk h
 rintro v1 h;cases h;exact⟨rfl,rfl⟩
theorem law33_RestartRecords_ok {wl:Prop} {a0:JAK} {a1:List Int} {a2:Int} {a3:Int} {a4:Int} {r:Bool} (h:Ce a0 a1 a2 a3 a4=some r):CallsOK (Wl wl) Tryz.prog 3 [AV.d (JAK.toD a0),AV.d (D.l 1 D.i a1),AV.d (D.i a2),AV.d (D.i a3),AV.d (D.i a4)] [] (.d (D.b r)) []:=by
 refine oK Tryz.f3 ⟨rfl,?_⟩;unfold Ce at h;refine⟨a0.Body.length,X10 _,?_⟩;(conv=>whnf);refine .go ?_;refine sJ h ?_ ?_<;>intro h
 ·obtain⟨v1,g2,h⟩:=AB h;refine⟨_,_,some [],JQ g2,?_⟩;cases h;exact⟨rfl,rfl⟩
 obtain⟨v3,g4,h⟩:=AB h;refine⟨_,_,some [23],UX g4,?_⟩;revert h;refine AD (fun _=>⟨X::X::X::yi a3::yi a4::dd 79 ([]),nn 84 ([])⟩) ?_ ?_
 ·intro k5 h;revert h;refine Ab (fun (v6,v7)=>⟨X::X::yi a2::yi a3::yi a4::yr 5 0::dd 5 (yr 23 0::yi v6::dd 71 ([])),nn 5 (yB (JAK.av a0)::nn 17 (yB (JAI.av v7)::nn 60 ([])))⟩) ?_ ?_
  ·exact wk
  rintro next8 ⟨v6,v7⟩ K9 h hK10;(conv=>whnf);refine .go ?_;refine sJ h (fun h=>?_) fun h=>AA wk h;(conv=>whnf);refine .go ?_;obtain⟨⟨v11,v12⟩,g13,h⟩:=AB h;refine⟨_,_,some [],IS g13,?_⟩;obtain⟨⟨v14,v15⟩,g16,h⟩:=AB h;refine⟨_,_,some [],IS g16,?_⟩;obtain⟨⟨v17,v18⟩,g19,h⟩:=AB h;refine⟨_,_,some [],NM g19,?_⟩;revert h;refine AD (fun v20=>⟨X::X::yi a2::yi a3::yi a4::yr 5 0::dd 5 (yr 23 0::yi v6::yr 13 0::yr 14 0::yr 15 0::dd 68 ([])),nn 5 (yB (JAK.av a0)::nn 7 (yB (JAL.av v11)::yB (JAL.av v14)::yB (JAK.av v20)::nn 7 (yB (JAI.av v18)::nn 60 ([]))))⟩) ?_ ?_
  ·intro k21 h;exact sJ h (fun h=>AA wk h) fun h=>AA wk h
  rintro v20 h;revert h;refine AD (fun v22=>⟨X::X::yi a2::yi a3::yi a4::yr 5 0::dd 5 (yr 23 0::yi v6::dd 44 (yb v22::dd 26 ([]))),nn 5 (yB (JAK.av a0)::nn 17 (yB (JAI.av v18)::nn 60 ([])))⟩) ?_ ?_
  ·intro k23 h;(conv=>whnf);refine .inl (dO ?_);obtain⟨v24,g25,h⟩:=AB h;refine⟨_,_,GK g25,.inl rfl,?_⟩;obtain⟨v26,g27,h⟩:=AB h;refine⟨_,_,Jv g27,.inl rfl,?_⟩;refine sJ h ?_ ?_<;>intro h
   ·(conv=>whnf);refine cO ?_;exact AA wk h
   obtain⟨v28,g29,h⟩:=AB h;refine⟨_,_,Hj g29,.inl rfl,?_⟩;obtain⟨v30,g31,h⟩:=AB h;refine⟨_,_,Nn g31,.inl rfl,?_⟩;obtain⟨v32,g33,h⟩:=AB h;refine⟨_,_,Q1 g33,.inl rfl,?_⟩;(conv=>whnf);refine cO ?_;exact AA wk h
  rintro v22 h;(conv=>whnf);refine .go ?_;refine sJ h ?_ ?_<;>intro h
  ·cases h;exact⟨rfl,rfl⟩
  refine⟨_,rfl,?_⟩;exact hK10 _ _ wk h
 rintro _ h;obtain⟨v34,g35,h⟩:=AB h;refine⟨_,_,some [],Hv g35,?_⟩;revert h;refine AD (fun v36=>⟨dd 10 (yb v36::dd 73 ([])),nn 84 ([])⟩) ?_ ?_
 ·intro k37 h;(conv=>whnf);refine .inl (dO ?_);obtain⟨v38,g39,h⟩:=AB h;refine⟨_,_,Hv g39,.inl rfl,?_⟩;obtain⟨v40,g41,h⟩:=AB h;refine⟨_,_,HQ g41,.inl rfl,?_⟩;obtain⟨v42,g43,h⟩:=AB h;refine⟨_,_,Hv g43,.inl rfl,?_⟩;obtain⟨v44,g45,h⟩:=AB h;refine⟨_,_,Md g45,.inl rfl,?_⟩;refine sJ h ?_ ?_<;>intro h
  ·obtain⟨v46,g47,h⟩:=AB h;refine⟨_,_,HQ g47,.inl rfl,?_⟩;obtain⟨v48,g49,h⟩:=AB h;refine⟨_,_,Md g49,.inl rfl,?_⟩;refine sJ h ?_ ?_<;>intro h
   ·obtain⟨v50,g51,h⟩:=AB h;refine⟨_,_,JQ g51,.inl rfl,?_⟩;(conv=>whnf);refine cO ?_;exact AA wk h
   (conv=>whnf);refine cO ?_;exact AA wk h
  (conv=>whnf);refine cO ?_;exact AA wk h
 rintro v36 h;cases h;exact⟨rfl,rfl⟩
end Go.AX.Q33
end
