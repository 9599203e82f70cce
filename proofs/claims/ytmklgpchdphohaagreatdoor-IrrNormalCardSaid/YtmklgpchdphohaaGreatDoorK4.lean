/-
  Texts of one proof, packed: Q20P7 Q20P8 Q20P9.
-/
import Derived.Test.YtmklgpchdphohaaGreatDoorK3
set_option linter.all false
section
namespace Go.AX.Q20
open Go Go.AX Go.Proofs
set_option maxRecDepth 100000
set_option maxHeartbeats 4000000
set_option linter.unusedVariables false
theorem slices_Index_int_int_ok {wl:Prop} {a0:List Int} {a1:Int} {r:Int} (h:slices_Index_int_int a0 a1=some r):CallsOK wl Tryz.prog 84 [AV.d (D.l 1 D.i a0),AV.d (D.i a1)] [] (.d (D.i r)) []:=by
 refine ok Tryz.f84 (by kernel_rfl) (by kernel_rfl) ⟨rfl,?_⟩;unfold slices_Index_int_int at h;refine ⟨a0.length,List.length_map _,?_⟩;revert h;refine cut_join (fun _=>⟨dd 19 ([]),nn 19 ([])⟩) ?_ ?_
 ·intro k1 h;revert h;refine loop_for 6 1 D.i rfl (fun i2 _=>⟨AV.d (D.l 1 D.i a0)::AV.d (D.i a1)::dd 4 (AV.d (D.l 1 D.i a0)::AV.d (D.i (a0.length:Int))::AV.d (D.i (i2:Int))::dd 10 ([])),nn 19 ([])⟩) ?_ ?_ ?_
  ·exact wk
  ·rintro _ K3 h;(conv=>whnf);refine .go ?_;(conv=>whnf);refine sel_f lt_f ?_;exact join_end wk h
  ·rintro next4 i2 x5 _ K3 hii2 hxi2 hwi2 h hK6;(conv=>whnf);refine .go ?_;(conv=>whnf);refine sel_t (lt_t hii2) ?_;(conv=>whnf);refine .go ?_;refine ⟨idx_b (f:=D.i) hii2,D.i x5,hxi2,rfl,?_⟩;(conv=>whnf);refine .go ?_;revert h;refine sel_if ?_ ?_<;>intro h
   ·cases h;exact ⟨rfl,rfl⟩
   ·refine ⟨_,hwi2,?_⟩;exact hK6 _ _ wk h
 ·rintro _ h;cases h;exact ⟨rfl,rfl⟩
theorem slices_Contains_int_int_ok {wl:Prop} {a0:List Int} {a1:Int} {r:Bool} (h:slices_Contains_int_int a0 a1=some r):CallsOK wl Tryz.prog 61 [AV.d (D.l 1 D.i a0),AV.d (D.i a1)] [] (.d (D.b r)) []:=by
 refine ok Tryz.f61 (by kernel_rfl) (by kernel_rfl) ⟨rfl,?_⟩;unfold slices_Contains_int_int at h;obtain ⟨v1,g2,h⟩:=bind_inv h;refine ⟨_,_,some [],slices_Index_int_int_ok g2,?_⟩;cases h;exact ⟨rfl,rfl⟩
theorem irr_Own_1_ok {wl:Prop} {a0:Object} {a1:List Int} {r:Bool×(List Int)} (h:irr_Own_1 a0 a1=some r):CallsOK wl Tryz.prog 60 [AV.d (Object.toD a0),.ref 0 0] [.box [.d ((D.l 1 D.i) a1)]] (.d (D.b r.1)) [.box [.d ((D.l 1 D.i) r.2)]]:=by
 refine ok Tryz.f60 (by kernel_rfl) (by kernel_rfl) ⟨rfl,?_⟩;unfold irr_Own_1 at h;obtain ⟨v1,g2,h⟩:=bind_inv h;refine ⟨_,_,some [],slices_Contains_int_int_ok g2,?_⟩;cases h;exact ⟨rfl,rfl⟩
theorem slices_IndexFunc_api_Object_api_Object__irr_Own_1_ok {wl:Prop} {a0:List Object} {a1c0:List Int} {r:Int×(List Int)} (h:slices_IndexFunc_api_Object_api_Object__irr_Own_1 a0 a1c0=some r):CallsOK wl Tryz.prog 83 [AV.d (D.l 6 Object.toD a0),AV.fn 60 [.ref 0 0]] [.box [.d ((D.l 1 D.i) a1c0)]] (.d (D.i r.1)) [.box [.d ((D.l 1 D.i) r.2)]]:=by
 refine ok Tryz.f83 (by kernel_rfl) (by kernel_rfl) ⟨rfl,?_⟩;unfold slices_IndexFunc_api_Object_api_Object__irr_Own_1 at h;refine ⟨a0.length,List.length_map _,?_⟩;revert h;refine cut_join (fun v1=>⟨dd 19 ([]),some (OB.box [AV.d (D.l 1 D.i v1)])::nn 19 ([])⟩) ?_ ?_
 ·intro k2 h;revert h;refine loop_for 6 6 Object.toD rfl (fun i3 v4=>⟨AV.d (D.l 6 Object.toD a0)::AV.fn 60 [AV.ref 0 0]::dd 4 (AV.d (D.l 6 Object.toD a0)::AV.d (D.i (a0.length:Int))::AV.d (D.i (i3:Int))::dd 10 ([])),some (OB.box [AV.d (D.l 1 D.i v4)])::nn 19 ([])⟩) ?_ ?_ ?_
  ·exact wk
  ·rintro v4 K5 h;(conv=>whnf);refine .go ?_;(conv=>whnf);refine sel_f lt_f ?_;exact join_end wk h
  ·rintro next6 i3 x7 v4 K5 hii3 hxi3 hwi3 h hK8;(conv=>whnf);refine .go ?_;(conv=>whnf);refine sel_t (lt_t hii3) ?_;(conv=>whnf);refine .go ?_;refine ⟨idx_b (f:=Object.toD) hii3,Object.toD x7,hxi3,rfl,?_⟩;obtain ⟨⟨v9,v10⟩,g11,h⟩:=bind_inv h;refine ⟨_,_,some [],irr_Own_1_ok g11,?_⟩;(conv=>whnf);refine .go ?_;revert h;refine sel_if ?_ ?_<;>intro h
   ·cases h;exact ⟨rfl,rfl⟩
   ·refine ⟨_,hwi3,?_⟩;exact hK8 _ _ wk h
 ·rintro v1 h;cases h;exact ⟨rfl,rfl⟩
theorem slices_IndexFunc_api_Object_api_Object_o__irr_Own_1_ok {wl:Prop} {a0:List Object} {a1c0:List Int} {r:Int×(List Int)} (h:slices_IndexFunc_api_Object_api_Object_o__irr_Own_1 a0 a1c0=some r):CallsOK wl Tryz.prog 83 [AV.own 0 (List.map Object.toD a0).length,AV.fn 60 [.ref 1 0]] [.row 55 6 (List.map Object.toD a0) false,.box [.d ((D.l 1 D.i) a1c0)]] (.d (D.i r.1)) [.row 55 6 (List.map Object.toD a0) false,.box [.d ((D.l 1 D.i) r.2)]]:=by
 refine ok Tryz.f83 (by kernel_rfl) (by kernel_rfl) ⟨rfl,?_⟩;unfold slices_IndexFunc_api_Object_api_Object_o__irr_Own_1 at h;refine ⟨a0.length,by first | exact List.length_map _ | rfl | (simp only [List.length_map];omega),?_⟩;revert h;refine cut_join (fun v1=>⟨dd 19 ([]),some (OB.row 55 6 (List.map Object.toD a0) false)::some (OB.box [AV.d (D.l 1 D.i v1)])::nn 19 ([])⟩) ?_ ?_
 ·intro k2 h;revert h;refine loop_own 0 55 6 false Object.toD rfl (fun i3 v4=>⟨AV.own 0 (List.map Object.toD a0).length::AV.fn 60 [AV.ref 1 0]::dd 4 (AV.own 0 (List.map Object.toD a0).length::AV.d (D.i (a0.length:Int))::AV.d (D.i (i3:Int))::dd 10 ([])),some (OB.row 55 6 (List.map Object.toD a0) false)::some (OB.box [AV.d (D.l 1 D.i v4)])::nn 19 ([])⟩) ?_ ?_ ?_
  ·exact wk
  ·rintro v4 K5 h;(conv=>whnf);refine .go ?_;(conv=>whnf);refine sel_f lt_f ?_;exact join_end wk h
  ·rintro next6 i3 x7 v4 K5 hii3 hxi3 hwi3 h hK8;(conv=>whnf);refine .go ?_;(conv=>whnf);refine sel_t (lt_t hii3) ?_;(conv=>whnf);refine .go ?_;refine ⟨rfl,idx_b (f:=Object.toD) hii3,?_⟩;refine ⟨rfl,Object.toD x7,hxi3,?_⟩;obtain ⟨⟨v9,v10⟩,g11,h⟩:=bind_inv h;refine ⟨_,_,some [],irr_Own_1_ok g11,?_⟩;(conv=>whnf);refine .go ?_;revert h;refine sel_if ?_ ?_<;>intro h
   ·cases h;exact ⟨rfl,rfl⟩
   ·refine ⟨_,hwi3,?_⟩;exact hK8 _ _ wk h
 ·rintro v1 h;cases h;exact ⟨rfl,rfl⟩
theorem slices_DeleteFunc_api_Object_api_Object__irr_Own_1_ok {wl:Prop} {a0:List Object} {a1c0:List Int} {r:(List Object)×(List Int)} (h:slices_DeleteFunc_api_Object_api_Object__irr_Own_1 a0 a1c0=some r):CallsOK wl Tryz.prog 58 [AV.own 0 (List.map Object.toD a0).length,AV.fn 60 [.ref 1 0]] [.row 55 6 (List.map Object.toD a0) false,.box [.d ((D.l 1 D.i) a1c0)]] (AV.own 2 (List.map Object.toD r.1).length) [.gone,.box [.d ((D.l 1 D.i) r.2)],.row 55 6 (List.map Object.toD r.1) false]:=by
 refine ok Tryz.f58 (by kernel_rfl) (by kernel_rfl) ⟨rfl,?_⟩;unfold slices_DeleteFunc_api_Object_api_Object__irr_Own_1 at h;obtain ⟨⟨v1,v2⟩,g3,h⟩:=bind_inv h;refine ⟨_,_,some [],slices_IndexFunc_api_Object_api_Object_o__irr_Own_1_ok g3,?_⟩;(conv=>whnf);refine .go ?_;revert h;refine sel_if ?_ ?_<;>intro h
 ·(conv=>whnf);refine .inr ?_;cases h;exact ⟨rfl,rfl⟩
 ·refine ⟨_,rfl,?_⟩;revert h;refine cut_join (fun (v4,v5,v6)=>⟨AV.own 0 (List.map Object.toD v5).length::dd 4 (AV.d (D.i v4)::dd 36 ([])),some (OB.row 55 6 (List.map Object.toD v5) false)::some (OB.box [AV.d (D.l 1 D.i v6)])::nn 42 ([])⟩) ?_ ?_
  ·intro k7 h;revert h;refine loop_while (fun (v8,v9,v10,v11)=>⟨AV.own 0 (List.map Object.toD v10).length::AV.fn 60 [AV.ref 1 0]::X::X::X::AV.d (D.i v8)::AV.d (D.i v9)::dd 35 ([]),some (OB.row 55 6 (List.map Object.toD v10) false)::some (OB.box [AV.d (D.l 1 D.i v11)])::nn 42 ([])⟩) ?_ ?_
   ·exact wk
   rintro next12 ⟨v8,v9,v10,v11⟩ K13 h hK14;refine ⟨v10.length,by first | exact List.length_map _ | rfl | (simp only [List.length_map];omega),?_⟩;(conv=>whnf);refine .go ?_;revert h;refine sel_if ?_ ?_<;>intro h
   ·(conv=>whnf);refine .go ?_;obtain ⟨v15,g16,h⟩:=bind_inv h;refine ⟨rfl,geti_b (f:=Object.toD) g16,?_⟩;refine ⟨rfl,Object.toD v15,(geti_d (f:=Object.toD) g16),?_⟩;obtain ⟨⟨v17,v18⟩,g19,h⟩:=bind_inv h;refine ⟨_,_,some [],irr_Own_1_ok g19,?_⟩;revert h;refine cut_join (fun (v20,v21)=>⟨AV.own 0 (List.map Object.toD v21).length::AV.fn 60 [AV.ref 1 0]::X::X::X::AV.d (D.i v20)::AV.d (D.i v9)::dd 35 ([]),some (OB.row 55 6 (List.map Object.toD v21) false)::some (OB.box [AV.d (D.l 1 D.i v18)])::nn 42 ([])⟩) ?_ ?_
    ·intro k22 h;revert h;refine sel_if ?_ ?_<;>intro h
     ·obtain ⟨v23,g24,h⟩:=bind_inv h;refine ⟨rfl,geti_b (f:=Object.toD) g24,?_⟩;obtain ⟨v25,g26,h⟩:=bind_inv h;have g26l:=seti_len g26;refine ⟨rfl,rfl,Object.toD v23,(geti_d (f:=Object.toD) g24),?_⟩;refine ⟨_,seti_z (f:=Object.toD) g26,?_⟩;refine ⟨_,rfl,?_⟩;exact join_end wk h
     ·exact join_end wk h
    ·rintro ⟨v20,v21⟩ h;refine ⟨_,rfl,?_⟩;exact hK14 _ _ wk h
   ·exact join_end wk h
  ·rintro ⟨v4,v5,v6⟩ h;(conv=>whnf);refine .inr (.inl ?_);obtain ⟨_,g27,h⟩:=bind_inv h;have g223c:=chk_inv g27;refine ⟨view_b0 (f:=Object.toD) g27,rfl,(Int.toNat v4),(Int.toNat (v5.length:Int) - Int.toNat v4),rfl,(by rw [List.length_map]),?_⟩;refine ⟨(by first | rfl | (simp only [List.length_map,List.length_set];omega) | (simp only [List.length_map,List.length_set,List.length_append,List.length_take,List.length_drop,List.length_replicate];omega)),Object.toD (⟨(⟨(⟨false,(0:UInt64),(0:UInt64)⟩:Addr),0⟩:Prefix),0,0⟩:Object),rfl,List.map Object.toD (List.take (Int.toNat v4) v5 ++ List.replicate (Int.toNat (v5.length:Int) - Int.toNat v4) (⟨(⟨(⟨false,(0:UInt64),(0:UInt64)⟩:Addr),0⟩:Prefix),0,0⟩:Object) ++ List.drop ((Int.toNat v4) + (Int.toNat (v5.length:Int) - Int.toNat v4)) v5),clear_z,?_⟩;(conv=>whnf);refine .inr (.inr ?_);obtain ⟨v28,g29,h⟩:=bind_inv h;refine ⟨move_b (f:=Object.toD) g29,(by first | rfl | (simp only [List.length_map];omega) | (simp only [List.length_map,List.length_set,List.length_append,List.length_take,List.length_drop,List.length_replicate];omega)),_,part_z (f:=Object.toD) g29,?_⟩;(conv=>whnf);refine .inl ?_;(conv=>whnf);refine .inr ?_;cases h;exact ⟨rfl,rfl⟩
theorem irr_Own_ok {wl:Prop} {a0:Registry} {a1:List Int} {r:(List Object)} (h:irr_Own a0 a1=some r):CallsOK wl Tryz.prog 27 [AV.d (Registry.toD a0),AV.d (D.l 1 D.i a1)] [] (.d (D.l 6 Object.toD r)) []:=by
 refine ok Tryz.f27 (by kernel_rfl) (by kernel_rfl) ⟨rfl,?_⟩;unfold irr_Own at h;obtain ⟨v1,g2,h⟩:=bind_inv h;refine ⟨_,_,some [7],slices_Clone_api_Object_api_Object_ok g2,?_⟩;obtain ⟨⟨v3,v4⟩,g5,h⟩:=bind_inv h;refine ⟨_,_,some [9],slices_DeleteFunc_api_Object_api_Object__irr_Own_1_ok g5,?_⟩;refine ⟨rfl,?_⟩;obtain ⟨v6,g7,h⟩:=bind_inv h;refine ⟨_,_,some [],irr_Ordered_ok g7,?_⟩;cases h;exact ⟨rfl,rfl⟩
theorem law20_IrrMore_ok {a0:List Int} {a1:List Int} {a2:Int} {r:Bool} (h:law20_IrrMore a0 a1 a2=some r):CallsOK True Tryz.prog 6 [AV.d (D.l 1 D.i a0),AV.d (D.l 1 D.i a1),AV.d (D.i a2)] [] (.d (D.b r)) []:=by
 refine ok Tryz.f6 (by kernel_rfl) (by kernel_rfl) ⟨rfl,?_⟩;unfold law20_IrrMore at h;obtain ⟨v1,g2,h⟩:=bind_inv h;refine ⟨_,_,some [15],make_New_ok g2,?_⟩;obtain ⟨⟨v3,v4⟩,g5,h⟩:=bind_inv h;refine ⟨_,_,some [],make_Deck_Registry_ok g5,?_⟩;obtain ⟨v6,g7,h⟩:=bind_inv h;refine ⟨_,_,some [19],make_New_ok g7,?_⟩;obtain ⟨⟨v8,v9⟩,g10,h⟩:=bind_inv h;refine ⟨_,_,some [],make_Deck_Registry_ok g10,?_⟩;obtain ⟨⟨v11,v12⟩,g13,h⟩:=bind_inv h;refine ⟨_,_,some [],make_Deck_Prefix_ok g13,?_⟩;revert h;refine cut_join (fun (v14,v15)=>⟨X::X::AV.d (D.i a2)::dd 4 (AV.ref 15 0::AV.ref 8 0::AV.ref 9 0::AV.ref 10 0::dd 20 (AV.d (D.b v14)::dd 54 ([]))),nn 8 (some (OB.box (Registry.av v3))::some (OB.box (Registry.av v8))::some (OB.box (Prefix.av v11))::nn 4 (some (OB.box (Deck.av v15))::nn 70 ([])))⟩) ?_ ?_
 ·intro k16 h;refine ⟨v3.Objects.length,List.length_map _,?_⟩;revert h;refine sel_if ?_ ?_<;>intro h
  ·obtain ⟨⟨v17,v18⟩,g19,h⟩:=bind_inv h;refine ⟨_,_,some [],make_Deck_Next_ok g19,?_⟩;exact join_end wk h
  ·exact join_end wk h
 ·rintro ⟨v14,v15⟩ h;revert h;refine cut_join (fun v20=>⟨X::X::AV.d (D.i a2)::dd 5 (AV.ref 8 0::AV.ref 9 0::AV.ref 10 0::dd 75 ([])),nn 8 (some (OB.box (Registry.av v3))::some (OB.box (Registry.av v8))::some (OB.box (Prefix.av v20))::nn 75 ([]))⟩) ?_ ?_
  ·intro k21 h;revert h;refine sel_if ?_ ?_<;>intro h
   ·(conv=>whnf);refine dOB (by kernel_rfl) ?_;refine ⟨v3.Objects.length,List.length_map _,?_⟩;obtain ⟨⟨v22,v23⟩,g24,h⟩:=bind_inv h;refine ⟨_,_,make_Deck_Next_ok g24,.inl rfl,?_⟩;obtain ⟨v25,g26,h⟩:=bind_inv h;refine ⟨geti_b (f:=Object.toD) g26,Object.toD v25,geti_d (f:=Object.toD) g26,rfl,?_⟩;(conv=>whnf);refine cOB (by kernel_rfl) ?_;exact join_end wk h
   ·exact join_end wk h
  ·rintro v20 h;obtain ⟨v27,g28,h⟩:=bind_inv h;refine ⟨_,_,some [],make_Mod_ok g28,?_⟩;refine ⟨_,rfl,?_⟩;obtain ⟨v29,g30,h⟩:=bind_inv h;refine ⟨_,_,some [],irr_Permits_ok g30,?_⟩;(conv=>whnf);refine dOB (by kernel_rfl) ?_;obtain ⟨_,g31,h⟩:=bind_inv h;refine ⟨apnd_b0 (g:=Object.toD) g31,?_⟩;obtain ⟨v32,g33,h⟩:=bind_inv h;refine ⟨rfl,apnd_b (f:=Object.toD) (g:=Object.toD) g33,_,apnd_z (f:=Object.toD) g33,?_⟩;refine ⟨rfl,?_⟩;obtain ⟨v34,g35,h⟩:=bind_inv h;refine ⟨_,_,irr_Permits_ok g35,.inl rfl,?_⟩;(conv=>whnf);refine cOB (by kernel_rfl) ?_;(conv=>whnf);refine dOB (by kernel_rfl) ?_;refine ⟨rfl,?_⟩;obtain ⟨v36,g37,h⟩:=bind_inv h;refine ⟨_,_,irr_Own_ok g37,.inl rfl,?_⟩;obtain ⟨v38,g39,h⟩:=bind_inv h;refine ⟨_,_,irr_Permits_ok g39,.inl rfl,?_⟩;(conv=>whnf);refine cOB (by kernel_rfl) ?_;revert h;refine cut_join (fun v40=>⟨dd 6 (AV.d (D.b v40)::dd 79 ([])),nn 86 ([])⟩) ?_ ?_
   ·intro k41 h;revert h;refine sel_if ?_ ?_<;>intro h
    ·revert h;refine sel_if ?_ ?_<;>intro h
     ·obtain ⟨v42,g43,h⟩:=bind_inv h;refine ⟨_,_,some [],irr_Permits_ok g43,?_⟩;revert h;refine sel_if ?_ ?_<;>intro h
      ·obtain ⟨v44,g45,h⟩:=bind_inv h;refine ⟨_,_,some [],law20_awake_ok g45,?_⟩;exact join_end wk h
      ·exact join_end wk h
     ·exact join_end wk h
    ·revert h;refine sel_if ?_ ?_<;>intro h
     ·revert h;refine sel_if ?_ ?_<;>intro h
      ·obtain ⟨v46,g47,h⟩:=bind_inv h;refine ⟨_,_,some [],irr_Permits_ok g47,?_⟩;revert h;refine sel_if ?_ ?_<;>intro h
       ·obtain ⟨v48,g49,h⟩:=bind_inv h;refine ⟨_,_,some [],law20_awake_ok g49,?_⟩;exact join_end wk h
       ·exact join_end wk h
      ·exact join_end wk h
     ·exact join_end wk h
   ·rintro v40 h;cases h;exact ⟨rfl,rfl⟩
theorem ref20_SameObjects_ok {wl:Prop} {a0:List Object} {a1:List Object} {r:Bool} (h:ref20_SameObjects a0 a1=some r):CallsOK wl Tryz.prog 28 [AV.d (D.l 6 Object.toD a0),AV.d (D.l 6 Object.toD a1)] [] (.d (D.b r)) []:=by
 refine ok Tryz.f28 (by kernel_rfl) (by kernel_rfl) ⟨rfl,?_⟩;unfold ref20_SameObjects at h;refine ⟨a0.length,List.length_map _,?_⟩;refine ⟨a1.length,List.length_map _,?_⟩;(conv=>whnf);refine .go ?_;revert h;refine sel_if ?_ ?_<;>intro h
 ·cases h;exact ⟨rfl,rfl⟩
 ·refine ⟨a0.length,List.length_map _,?_⟩;revert h;refine cut_join (fun _=>⟨dd 26 ([]),nn 26 ([])⟩) ?_ ?_
  ·intro k1 h;revert h;refine loop_for 12 6 Object.toD rfl (fun i2 _=>⟨X::AV.d (D.l 6 Object.toD a1)::dd 10 (AV.d (D.l 6 Object.toD a0)::AV.d (D.i (a0.length:Int))::AV.d (D.i (i2:Int))::dd 11 ([])),nn 26 ([])⟩) ?_ ?_ ?_
   ·exact wk
   ·rintro _ K3 h;(conv=>whnf);refine .go ?_;(conv=>whnf);refine sel_f lt_f ?_;exact join_end wk h
   ·rintro next4 i2 x5 _ K3 hii2 hxi2 hwi2 h hK6;(conv=>whnf);refine .go ?_;(conv=>whnf);refine sel_t (lt_t hii2) ?_;(conv=>whnf);refine .go ?_;refine ⟨idx_b (f:=Object.toD) hii2,Object.toD x5,hxi2,rfl,?_⟩;(conv=>whnf);refine dOB (by kernel_rfl) ?_;obtain ⟨v7,g8,h⟩:=bind_inv h;refine ⟨geti_b (f:=Object.toD) g8,Object.toD v7,geti_d (f:=Object.toD) g8,rfl,?_⟩;(conv=>whnf);refine cOB (by kernel_rfl) ?_;(conv=>whnf);refine .go ?_;revert h;refine sel_if ?_ ?_<;>intro h
    ·cases h;exact ⟨rfl,rfl⟩
    ·refine ⟨_,hwi2,?_⟩;exact hK6 _ _ wk h
  ·rintro _ h;cases h;exact ⟨rfl,rfl⟩
theorem ref20_has_ok {wl:Prop} {a0:List Int} {a1:Int} {r:Bool} (h:ref20_has a0 a1=some r):CallsOK wl Tryz.prog 62 [AV.d (D.l 1 D.i a0),AV.d (D.i a1)] [] (.d (D.b r)) []:=by
 refine ok Tryz.f62 (by kernel_rfl) (by kernel_rfl) ⟨rfl,?_⟩;unfold ref20_has at h;refine ⟨a0.length,List.length_map _,?_⟩;revert h;refine cut_join (fun _=>⟨dd 17 ([]),nn 17 ([])⟩) ?_ ?_
 ·intro k1 h;revert h;refine loop_for 7 1 D.i rfl (fun i2 _=>⟨X::AV.d (D.i a1)::dd 5 (AV.d (D.l 1 D.i a0)::AV.d (D.i (a0.length:Int))::AV.d (D.i (i2:Int))::dd 7 ([])),nn 17 ([])⟩) ?_ ?_ ?_
  ·exact wk
  ·rintro _ K3 h;(conv=>whnf);refine .go ?_;(conv=>whnf);refine sel_f lt_f ?_;exact join_end wk h
  ·rintro next4 i2 x5 _ K3 hii2 hxi2 hwi2 h hK6;(conv=>whnf);refine .go ?_;(conv=>whnf);refine sel_t (lt_t hii2) ?_;(conv=>whnf);refine .go ?_;refine ⟨idx_b (f:=D.i) hii2,D.i x5,hxi2,rfl,?_⟩;(conv=>whnf);refine .go ?_;revert h;refine sel_if ?_ ?_<;>intro h
   ·cases h;exact ⟨rfl,rfl⟩
   ·refine ⟨_,hwi2,?_⟩;exact hK6 _ _ wk h
 ·rintro _ h;cases h;exact ⟨rfl,rfl⟩
theorem ref01_Cmp_ok {wl:Prop} {a0:Addr} {a1:Addr} {r:Int} (h:ref01_Cmp a0 a1=some r):CallsOK wl Tryz.prog 138 [AV.d (Addr.toD a0),AV.d (Addr.toD a1)] [] (.d (D.i r)) []:=by
 refine ok Tryz.f138 (by kernel_rfl) (by kernel_rfl) ⟨rfl,?_⟩;unfold ref01_Cmp at h;(conv=>whnf);refine .go ?_;(conv=>whnf);refine .go ?_;revert h;refine sel_if ?_ ?_<;>intro h
 ·cases h;exact ⟨rfl,rfl⟩
 ·(conv=>whnf);refine .go ?_;revert h;refine sel_if ?_ ?_<;>intro h
  ·(conv=>whnf);refine .go ?_;revert h;refine sel_if ?_ ?_<;>intro h
   ·cases h;exact ⟨rfl,rfl⟩
   ·cases h;exact ⟨rfl,rfl⟩
  ·revert h;refine cut_join (fun v1=>⟨dd 17 (AV.d (D.b v1)::dd 19 ([])),nn 37 ([])⟩) ?_ ?_
   ·intro k2 h;revert h;refine sel_if ?_ ?_<;>intro h
    ·exact join_end wk h
    ·revert h;refine sel_if ?_ ?_<;>intro h
     ·exact join_end wk h
     ·exact join_end wk h
   ·rintro v1 h;(conv=>whnf);refine .go ?_;revert h;refine sel_if ?_ ?_<;>intro h
    ·cases h;exact ⟨rfl,rfl⟩
    ·cases h;exact ⟨rfl,rfl⟩
theorem ref02_Cmp_ok {wl:Prop} {a0:Prefix} {a1:Prefix} {r:Int} (h:ref02_Cmp a0 a1=some r):CallsOK wl Tryz.prog 100 [AV.d (Prefix.toD a0),AV.d (Prefix.toD a1)] [] (.d (D.i r)) []:=by
 refine ok Tryz.f100 (by kernel_rfl) (by kernel_rfl) ⟨rfl,?_⟩;unfold ref02_Cmp at h;obtain ⟨v1,g2,h⟩:=bind_inv h;refine ⟨_,_,some [],ref01_Cmp_ok g2,?_⟩;(conv=>whnf);refine .go ?_;revert h;refine sel_if ?_ ?_<;>intro h
 ·cases h;exact ⟨rfl,rfl⟩
 ·(conv=>whnf);refine .go ?_;(conv=>whnf);refine .go ?_;revert h;refine sel_if ?_ ?_<;>intro h
  ·cases h;exact ⟨rfl,rfl⟩
  ·(conv=>whnf);refine .go ?_;revert h;refine sel_if ?_ ?_<;>intro h
   ·cases h;exact ⟨rfl,rfl⟩
   ·cases h;exact ⟨rfl,rfl⟩
theorem ref20_Cmp_ok {wl:Prop} {a0:Object} {a1:Object} {r:Int} (h:ref20_Cmp a0 a1=some r):CallsOK wl Tryz.prog 85 [AV.d (Object.toD a0),AV.d (Object.toD a1)] [] (.d (D.i r)) []:=by
 refine ok Tryz.f85 (by kernel_rfl) (by kernel_rfl) ⟨rfl,?_⟩;unfold ref20_Cmp at h;obtain ⟨v1,g2,h⟩:=bind_inv h;refine ⟨_,_,some [],ref02_Cmp_ok g2,?_⟩;(conv=>whnf);refine .go ?_;revert h;refine sel_if ?_ ?_<;>intro h
 ·cases h;exact ⟨rfl,rfl⟩
 ·(conv=>whnf);refine .go ?_;revert h;refine cut_join (fun v3=>⟨X::X::AV.ref 2 0::AV.ref 3 0::dd 10 (AV.d (D.b v3)::dd 23 ([])),N::N::some (OB.box (Object.av a0))::some (OB.box (Object.av a1))::nn 34 ([])⟩) ?_ ?_
  ·intro k4 h;revert h;refine sel_if ?_ ?_<;>intro h
   ·exact join_end wk h
   ·revert h;refine sel_if ?_ ?_<;>intro h
    ·exact join_end wk h
    ·exact join_end wk h
  ·rintro v3 h;(conv=>whnf);refine .go ?_;revert h;refine sel_if ?_ ?_<;>intro h
   ·cases h;exact ⟨rfl,rfl⟩
   ·(conv=>whnf);refine .go ?_;revert h;refine sel_if ?_ ?_<;>intro h
    ·cases h;exact ⟨rfl,rfl⟩
    ·cases h;exact ⟨rfl,rfl⟩
theorem ref20_Sorted_ok {wl:Prop} {a0:List Object} {r:(List Object)} (h:ref20_Sorted a0=some r):CallsOK wl Tryz.prog 63 [AV.d (D.l 6 Object.toD a0)] [] (.d (D.l 6 Object.toD r)) []:=by
 refine ok Tryz.f63 (by kernel_rfl) (by kernel_rfl) ⟨rfl,?_⟩;unfold ref20_Sorted at h;refine ⟨a0.length,List.length_map _,?_⟩;revert h;refine cut_join (fun v1=>⟨X::X::X::AV.own 3 (List.map Object.toD v1).length::dd 49 ([]),N::N::N::some (OB.row 55 6 (List.map Object.toD v1) false)::nn 49 ([])⟩) ?_ ?_
 ·intro k2 h;revert h;refine loop_for 7 6 Object.toD rfl (fun i3 v4=>⟨X::X::X::AV.own 3 (List.map Object.toD v4).length::X::X::X::AV.d (D.l 6 Object.toD a0)::AV.d (D.i (a0.length:Int))::AV.d (D.i (i3:Int))::dd 43 ([]),N::N::N::some (OB.row 55 6 (List.map Object.toD v4) false)::nn 49 ([])⟩) ?_ ?_ ?_
  ·exact wk
  ·rintro v4 K5 h;(conv=>whnf);refine .go ?_;(conv=>whnf);refine sel_f lt_f ?_;exact join_end wk h
  ·rintro next6 i3 x7 v4 K5 hii3 hxi3 hwi3 h hK8;(conv=>whnf);refine .go ?_;(conv=>whnf);refine sel_t (lt_t hii3) ?_;revert h;refine cut_join (fun v9=>⟨X::X::X::AV.own 3 (List.map Object.toD v9).length::X::X::X::AV.d (D.l 6 Object.toD a0)::AV.d (D.i (a0.length:Int))::AV.d (D.i (i3:Int))::dd 43 ([]),N::N::N::some (OB.row 55 6 (List.map Object.toD v9) false)::nn 49 ([])⟩) ?_ ?_
   ·intro k10 h;refine ⟨idx_b (f:=Object.toD) hii3,Object.toD x7,hxi3,rfl,?_⟩;revert h;refine cut_join (fun v11=>⟨X::X::X::AV.own 3 (List.map Object.toD v4).length::X::AV.ref 5 0::AV.d (D.i v11)::AV.d (D.l 6 Object.toD a0)::AV.d (D.i (a0.length:Int))::AV.d (D.i (i3:Int))::dd 43 ([]),N::N::N::some (OB.row 55 6 (List.map Object.toD v4) false)::N::some (OB.box (Object.av x7))::nn 47 ([])⟩) ?_ ?_
    ·intro k12 h;revert h;refine loop_while (fun v13=>⟨X::X::X::AV.own 3 (List.map Object.toD v4).length::X::AV.ref 5 0::AV.d (D.i v13)::AV.d (D.l 6 Object.toD a0)::AV.d (D.i (a0.length:Int))::AV.d (D.i (i3:Int))::dd 43 ([]),N::N::N::some (OB.row 55 6 (List.map Object.toD v4) false)::N::some (OB.box (Object.av x7))::nn 47 ([])⟩) ?_ ?_
     ·exact wk
     rintro next14 v13 K15 h hK16;revert h;refine cut_join (fun v17=>⟨X::X::X::AV.own 3 (List.map Object.toD v4).length::X::AV.ref 5 0::AV.d (D.i v13)::AV.d (D.l 6 Object.toD a0)::AV.d (D.i (a0.length:Int))::AV.d (D.i (i3:Int))::dd 15 (AV.d (D.b v17)::dd 27 ([])),N::N::N::some (OB.row 55 6 (List.map Object.toD v4) false)::N::some (OB.box (Object.av x7))::nn 47 ([])⟩) ?_ ?_
     ·intro k18 h;(conv=>whnf);refine dOB (by kernel_rfl) ?_;refine ⟨v4.length,by first | exact List.length_map _ | rfl | (simp only [List.length_map];omega),?_⟩;revert h;refine sel_if ?_ ?_<;>intro h
      ·obtain ⟨v19,g20,h⟩:=bind_inv h;refine ⟨rfl,geti_b (f:=Object.toD) g20,?_⟩;refine ⟨rfl,Object.toD v19,(geti_d (f:=Object.toD) g20),?_⟩;obtain ⟨v21,g22,h⟩:=bind_inv h;refine ⟨_,_,ref20_Cmp_ok g22,.inl rfl,?_⟩;(conv=>whnf);refine cOB (by kernel_rfl) ?_;exact join_end wk h
      ·(conv=>whnf);refine cOB (by kernel_rfl) ?_;exact join_end wk h
     ·rintro v17 h;(conv=>whnf);refine .go ?_;revert h;refine sel_if ?_ ?_<;>intro h
      ·(conv=>whnf);refine .go ?_;refine ⟨_,rfl,?_⟩;exact hK16 _ _ wk h
      ·exact join_end wk h
    ·rintro v11 h;revert h;refine cut_join (fun v23=>⟨X::X::X::AV.own 3 (List.map Object.toD v4).length::X::AV.ref 5 0::AV.d (D.i v11)::AV.d (D.l 6 Object.toD a0)::AV.d (D.i (a0.length:Int))::AV.d (D.i (i3:Int))::dd 29 (AV.d (D.b v23)::dd 13 ([])),N::N::N::some (OB.row 55 6 (List.map Object.toD v4) false)::N::some (OB.box (Object.av x7))::nn 47 ([])⟩) ?_ ?_
     ·intro k24 h;(conv=>whnf);refine dOB (by kernel_rfl) ?_;refine ⟨v4.length,by first | exact List.length_map _ | rfl | (simp only [List.length_map];omega),?_⟩;revert h;refine sel_if ?_ ?_<;>intro h
      ·obtain ⟨v25,g26,h⟩:=bind_inv h;refine ⟨rfl,geti_b (f:=Object.toD) g26,?_⟩;refine ⟨rfl,Object.toD v25,(geti_d (f:=Object.toD) g26),?_⟩;(conv=>whnf);refine cOB (by kernel_rfl) ?_;exact join_end wk h
      ·(conv=>whnf);refine cOB (by kernel_rfl) ?_;exact join_end wk h
     ·rintro v23 h;(conv=>whnf);refine .go ?_;revert h;refine sel_if ?_ ?_<;>intro h
      ·exact join_end wk h
      ·(conv=>whnf);refine dOB (by kernel_rfl) ?_;(conv=>whnf);refine .inr (.inl ?_);obtain ⟨_,g27,h⟩:=bind_inv h;have g1084c:=chk_inv g27;refine ⟨view_b (f:=Object.toD) g27,rfl,(Int.toNat 0),(Int.toNat v11 - Int.toNat 0),rfl,rfl,?_⟩;refine ⟨(by first | rfl | (simp only [List.length_map,List.length_set];omega) | (simp only [List.length_map,List.length_set,List.length_append,List.length_take,List.length_drop,List.length_replicate];omega)),List.map Object.toD (List.take (Int.toNat v11 - Int.toNat 0) (List.drop (Int.toNat 0) v4)),view_z,?_⟩;obtain ⟨_,g28,h⟩:=bind_inv h;refine ⟨apnd_b0 (g:=Object.toD) g28,?_⟩;refine ⟨rfl,?_⟩;obtain ⟨v29,g30,h⟩:=bind_inv h;refine ⟨rfl,apnd_b (f:=Object.toD) (g:=Object.toD) g30,_,apnd_z (f:=Object.toD) g30,?_⟩;(conv=>whnf);refine .inr (.inl ?_);obtain ⟨_,g31,h⟩:=bind_inv h;have g1090c:=chk_inv g31;refine ⟨view_b0 (f:=Object.toD) g31,rfl,(Int.toNat v11),(Int.toNat (v4.length:Int) - Int.toNat v11),rfl,(by rw [List.length_map]),?_⟩;refine ⟨(by first | rfl | (simp only [List.length_map,List.length_set];omega) | (simp only [List.length_map,List.length_set,List.length_append,List.length_take,List.length_drop,List.length_replicate];omega)),List.map Object.toD (List.take (Int.toNat (v4.length:Int) - Int.toNat v11) (List.drop (Int.toNat v11) v4)),view_z,?_⟩;obtain ⟨v32,g33,h⟩:=bind_inv h;refine ⟨rfl,apnd_b (f:=Object.toD) (g:=Object.toD) g33,_,apnd_z (f:=Object.toD) g33,?_⟩;(conv=>whnf);refine cOB (by kernel_rfl) ?_;exact join_end (.swap 43 3 rfl rfl rfl wk) h
   ·rintro v9 h;refine ⟨_,hwi3,?_⟩;exact hK8 _ _ wk h
 ·rintro v1 h;(conv=>whnf);refine .inl ?_;(conv=>whnf);refine .inl ?_;refine ⟨rfl,?_⟩;cases h;exact ⟨rfl,rfl⟩
theorem ref20_Own_ok {wl:Prop} {a0:Registry} {a1:List Int} {r:(List Object)} (h:ref20_Own a0 a1=some r):CallsOK wl Tryz.prog 29 [AV.d (Registry.toD a0),AV.d (D.l 1 D.i a1)] [] (.d (D.l 6 Object.toD r)) []:=by
 refine ok Tryz.f29 (by kernel_rfl) (by kernel_rfl) ⟨rfl,?_⟩;unfold ref20_Own at h;refine ⟨a0.Objects.length,List.length_map _,?_⟩;revert h;refine cut_join (fun v1=>⟨dd 5 (AV.own 5 (List.map Object.toD v1).length::dd 20 ([])),nn 5 (some (OB.row 55 6 (List.map Object.toD v1) false)::nn 20 ([]))⟩) ?_ ?_
 ·intro k2 h;revert h;refine loop_for 9 6 Object.toD rfl (fun i3 v4=>⟨X::AV.d (D.l 1 D.i a1)::X::X::X::AV.own 5 (List.map Object.toD v4).length::X::X::X::AV.d (D.l 6 Object.toD a0.Objects)::AV.d (D.i (a0.Objects.length:Int))::AV.d (D.i (i3:Int))::dd 14 ([]),nn 5 (some (OB.row 55 6 (List.map Object.toD v4) false)::nn 20 ([]))⟩) ?_ ?_ ?_
  ·exact wk
  ·rintro v4 K5 h;(conv=>whnf);refine .go ?_;(conv=>whnf);refine sel_f lt_f ?_;exact join_end wk h
  ·rintro next6 i3 x7 v4 K5 hii3 hxi3 hwi3 h hK8;(conv=>whnf);refine .go ?_;(conv=>whnf);refine sel_t (lt_t hii3) ?_;(conv=>whnf);refine .go ?_;refine ⟨idx_b (f:=Object.toD) hii3,Object.toD x7,hxi3,rfl,?_⟩;obtain ⟨v9,g10,h⟩:=bind_inv h;refine ⟨_,_,some [],ref20_has_ok g10,?_⟩;revert h;refine cut_join (fun v11=>⟨X::AV.d (D.l 1 D.i a1)::X::X::X::AV.own 5 (List.map Object.toD v11).length::X::X::X::AV.d (D.l 6 Object.toD a0.Objects)::AV.d (D.i (a0.Objects.length:Int))::AV.d (D.i (i3:Int))::dd 14 ([]),nn 5 (some (OB.row 55 6 (List.map Object.toD v11) false)::nn 20 ([]))⟩) ?_ ?_
   ·intro k12 h;revert h;refine sel_if ?_ ?_<;>intro h
    ·refine ⟨rfl,?_⟩;obtain ⟨v13,g14,h⟩:=bind_inv h;refine ⟨rfl,apnd_b (f:=Object.toD) (g:=Object.toD) g14,_,apnd_z (f:=Object.toD) g14,?_⟩;exact join_end wk h
    ·exact join_end wk h
   ·rintro v11 h;refine ⟨_,hwi3,?_⟩;exact hK8 _ _ wk h
 ·rintro v1 h;refine ⟨rfl,?_⟩;obtain ⟨v15,g16,h⟩:=bind_inv h;refine ⟨_,_,some [],ref20_Sorted_ok g16,?_⟩;cases h;exact ⟨rfl,rfl⟩
theorem ref20_Permits_ok {wl:Prop} {a0:List Object} {a1:Prefix} {a2:Int} {r:Int} (h:ref20_Permits a0 a1 a2=some r):CallsOK wl Tryz.prog 30 [AV.d (D.l 6 Object.toD a0),AV.d (Prefix.toD a1),AV.d (D.i a2)] [] (.d (D.i r)) []:=by
 refine ok Tryz.f30 (by kernel_rfl) (by kernel_rfl) ⟨rfl,?_⟩;unfold ref20_Permits at h;obtain ⟨v1,g2,h⟩:=bind_inv h;refine ⟨_,_,some [],ref02_Valid_ok g2,?_⟩;(conv=>whnf);refine .go ?_;revert h;refine sel_if ?_ ?_<;>intro h
 ·cases h;exact ⟨rfl,rfl⟩
 ·refine ⟨a0.length,List.length_map _,?_⟩;revert h;refine cut_join (fun v3=>⟨dd 7 (AV.d (D.i v3)::dd 32 ([])),nn 40 ([])⟩) ?_ ?_
  ·intro k4 h;revert h;refine loop_for 13 6 Object.toD rfl (fun i5 v6=>⟨X::X::AV.d (D.i a2)::X::AV.ref 4 0::X::X::AV.d (D.i v6)::dd 5 (AV.d (D.l 6 Object.toD a0)::AV.d (D.i (a0.length:Int))::AV.d (D.i (i5:Int))::dd 24 ([])),nn 4 (some (OB.box (Prefix.av a1))::nn 35 ([]))⟩) ?_ ?_ ?_
   ·exact wk
   ·rintro v6 K7 h;(conv=>whnf);refine .go ?_;(conv=>whnf);refine sel_f lt_f ?_;exact join_end wk h
   ·rintro next8 i5 x9 v6 K7 hii5 hxi5 hwi5 h hK10;(conv=>whnf);refine .go ?_;(conv=>whnf);refine sel_t (lt_t hii5) ?_;(conv=>whnf);refine .go ?_;refine ⟨idx_b (f:=Object.toD) hii5,Object.toD x9,hxi5,rfl,?_⟩;(conv=>whnf);refine .go ?_;revert h;refine cut_join (fun v11=>⟨X::X::AV.d (D.i a2)::X::AV.ref 4 0::X::X::AV.d (D.i v11)::dd 5 (AV.d (D.l 6 Object.toD a0)::AV.d (D.i (a0.length:Int))::AV.d (D.i (i5:Int))::dd 24 ([])),nn 4 (some (OB.box (Prefix.av a1))::nn 35 ([]))⟩) ?_ ?_
    ·intro k12 h;revert h;refine sel_if ?_ ?_<;>intro h
     ·exact join_end wk h
     ·obtain ⟨v13,g14,h⟩:=bind_inv h;refine ⟨_,_,some [],ref02_Covers_ok g14,?_⟩;revert h;refine cut_join (fun v15=>⟨X::X::AV.d (D.i a2)::X::AV.ref 4 0::X::X::AV.d (D.i v15)::dd 5 (AV.d (D.l 6 Object.toD a0)::AV.d (D.i (a0.length:Int))::AV.d (D.i (i5:Int))::dd 24 ([])),nn 4 (some (OB.box (Prefix.av a1))::nn 35 ([]))⟩) ?_ ?_
      ·intro k16 h;revert h;refine sel_if ?_ ?_<;>intro h
       ·revert h;refine cut_join (fun v17=>⟨X::X::AV.d (D.i a2)::X::AV.ref 4 0::X::X::AV.d (D.i v17)::dd 5 (AV.d (D.l 6 Object.toD a0)::AV.d (D.i (a0.length:Int))::AV.d (D.i (i5:Int))::dd 24 ([])),nn 4 (some (OB.box (Prefix.av a1))::nn 35 ([]))⟩) ?_ ?_
        ·intro k18 h;revert h;refine sel_if ?_ ?_<;>intro h
         ·exact join_end wk h
         ·exact join_end wk h
        ·rintro v17 h;exact join_end wk h
       ·(conv=>whnf);refine .go ?_;revert h;refine sel_if ?_ ?_<;>intro h
        ·exact join_end wk h
        ·cases h;exact ⟨rfl,rfl⟩
      ·rintro v15 h;exact join_end wk h
    ·rintro v11 h;refine ⟨_,hwi5,?_⟩;exact hK10 _ _ wk h
  ·rintro v3 h;cases h;exact ⟨rfl,rfl⟩
end Go.AX.Q20
end
section
namespace Go.AX.Q20
open Go Go.AX Go.Proofs
set_option maxRecDepth 100000
set_option maxHeartbeats 4000000
set_option linter.unusedVariables false
theorem ref20_Normal_ok {wl:Prop} {a0:List Object} {r:(List Object)} (h:ref20_Normal a0=some r):CallsOK wl Tryz.prog 31 [AV.d (D.l 6 Object.toD a0)] [] (.d (D.l 6 Object.toD r)) []:=by
 refine ok Tryz.f31 (by kernel_rfl) (by kernel_rfl) ⟨rfl,?_⟩;unfold ref20_Normal at h;obtain ⟨v1,g2,h⟩:=bind_inv h;refine ⟨_,_,some [],ref20_Sorted_ok g2,?_⟩;refine ⟨v1.length,List.length_map _,?_⟩;revert h;refine cut_join (fun v3=>⟨X::X::X::AV.own 3 (List.map Object.toD v3).length::dd 56 ([]),N::N::N::some (OB.row 55 6 (List.map Object.toD v3) false)::nn 56 ([])⟩) ?_ ?_
 ·intro k4 h;revert h;refine loop_for 12 6 Object.toD rfl (fun i5 v6=>⟨X::X::X::AV.own 3 (List.map Object.toD v6).length::AV.d (D.l 6 Object.toD v1)::dd 7 (AV.d (D.l 6 Object.toD v1)::AV.d (D.i (v1.length:Int))::AV.d (D.i (i5:Int))::dd 45 ([])),N::N::N::some (OB.row 55 6 (List.map Object.toD v6) false)::nn 56 ([])⟩) ?_ ?_ ?_
  ·exact wk
  ·rintro v6 K7 h;(conv=>whnf);refine .go ?_;(conv=>whnf);refine sel_f lt_f ?_;exact join_end wk h
  ·rintro next8 i5 x9 v6 K7 hii5 hxi5 hwi5 h hK10;(conv=>whnf);refine .go ?_;(conv=>whnf);refine sel_t (lt_t hii5) ?_;revert h;refine cut_join (fun v11=>⟨X::X::X::AV.own 3 (List.map Object.toD v11).length::AV.d (D.l 6 Object.toD v1)::dd 7 (AV.d (D.l 6 Object.toD v1)::AV.d (D.i (v1.length:Int))::AV.d (D.i (i5:Int))::dd 45 ([])),N::N::N::some (OB.row 55 6 (List.map Object.toD v11) false)::nn 56 ([])⟩) ?_ ?_
   ·intro k12 h;refine ⟨idx_b (f:=Object.toD) hii5,Object.toD x9,hxi5,rfl,?_⟩;refine ⟨v1.length,List.length_map _,?_⟩;revert h;refine cut_join (fun v13=>⟨X::X::X::AV.own 3 (List.map Object.toD v6).length::AV.d (D.l 6 Object.toD v1)::X::AV.ref 6 0::AV.d (D.b v13)::dd 4 (AV.d (D.l 6 Object.toD v1)::AV.d (D.i (v1.length:Int))::AV.d (D.i (i5:Int))::dd 45 ([])),N::N::N::some (OB.row 55 6 (List.map Object.toD v6) false)::N::N::some (OB.box (Object.av x9))::nn 53 ([])⟩) ?_ ?_
    ·intro k14 h;revert h;refine loop_for 18 6 Object.toD rfl (fun i15 v16=>⟨X::X::X::AV.own 3 (List.map Object.toD v6).length::AV.d (D.l 6 Object.toD v1)::X::AV.ref 6 0::AV.d (D.b v16)::dd 4 (AV.d (D.l 6 Object.toD v1)::AV.d (D.i (v1.length:Int))::AV.d (D.i (i5:Int))::X::X::X::AV.d (D.l 6 Object.toD v1)::AV.d (D.i (v1.length:Int))::AV.d (D.i (i15:Int))::dd 39 ([])),N::N::N::some (OB.row 55 6 (List.map Object.toD v6) false)::N::N::some (OB.box (Object.av x9))::nn 53 ([])⟩) ?_ ?_ ?_
     ·exact wk
     ·rintro v16 K17 h;(conv=>whnf);refine .go ?_;(conv=>whnf);refine sel_f lt_f ?_;exact join_end wk h
     ·rintro next18 i15 x19 v16 K17 hii15 hxi15 hwi15 h hK20;(conv=>whnf);refine .go ?_;(conv=>whnf);refine sel_t (lt_t hii15) ?_;(conv=>whnf);refine .go ?_;refine ⟨idx_b (f:=Object.toD) hii15,Object.toD x19,hxi15,rfl,?_⟩;revert h;refine cut_join (fun v21=>⟨X::X::X::AV.own 3 (List.map Object.toD v6).length::AV.d (D.l 6 Object.toD v1)::X::AV.ref 6 0::AV.d (D.b v21)::dd 4 (AV.d (D.l 6 Object.toD v1)::AV.d (D.i (v1.length:Int))::AV.d (D.i (i5:Int))::X::X::X::AV.d (D.l 6 Object.toD v1)::AV.d (D.i (v1.length:Int))::AV.d (D.i (i15:Int))::dd 39 ([])),N::N::N::some (OB.row 55 6 (List.map Object.toD v6) false)::N::N::some (OB.box (Object.av x9))::nn 53 ([])⟩) ?_ ?_
      ·intro k22 h;revert h;refine sel_if ?_ ?_<;>intro h
       ·exact join_end wk h
       ·revert h;refine sel_if ?_ ?_<;>intro h
        ·revert h;refine sel_if ?_ ?_<;>intro h
         ·obtain ⟨v23,g24,h⟩:=bind_inv h;refine ⟨_,_,some [],ref02_Covers_ok g24,?_⟩;revert h;refine sel_if ?_ ?_<;>intro h
          ·exact join_end wk h
          ·exact join_end wk h
         ·exact join_end wk h
        ·exact join_end wk h
      ·rintro v21 h;refine ⟨_,hwi15,?_⟩;exact hK20 _ _ wk h
    ·rintro v13 h;revert h;refine cut_join (fun v25=>⟨X::X::X::AV.own 3 (List.map Object.toD v25).length::AV.d (D.l 6 Object.toD v1)::dd 7 (AV.d (D.l 6 Object.toD v1)::AV.d (D.i (v1.length:Int))::AV.d (D.i (i5:Int))::dd 45 ([])),N::N::N::some (OB.row 55 6 (List.map Object.toD v25) false)::nn 56 ([])⟩) ?_ ?_
     ·intro k26 h;revert h;refine sel_if ?_ ?_<;>intro h
      ·refine ⟨rfl,?_⟩;obtain ⟨v27,g28,h⟩:=bind_inv h;refine ⟨rfl,apnd_b (f:=Object.toD) (g:=Object.toD) g28,_,apnd_z (f:=Object.toD) g28,?_⟩;exact join_end wk h
      ·exact join_end wk h
     ·rintro v25 h;exact join_end wk h
   ·rintro v11 h;refine ⟨_,hwi5,?_⟩;exact hK10 _ _ wk h
 ·rintro v3 h;(conv=>whnf);refine .inl ?_;(conv=>whnf);refine .inl ?_;refine ⟨rfl,?_⟩;cases h;exact ⟨rfl,rfl⟩
theorem law20_IrrObjects_ok {a0:List Int} {a1:List Int} {a2:Prefix} {a3:Int} {r:Bool} (h:law20_IrrObjects a0 a1 a2 a3=some r):CallsOK True Tryz.prog 7 [AV.d (D.l 1 D.i a0),AV.d (D.l 1 D.i a1),AV.d (Prefix.toD a2),AV.d (D.i a3)] [] (.d (D.b r)) []:=by
 refine ok Tryz.f7 (by kernel_rfl) (by kernel_rfl) ⟨rfl,?_⟩;unfold law20_IrrObjects at h;refine ⟨a1.length,List.length_map _,?_⟩;(conv=>whnf);refine .go ?_;revert h;refine sel_if ?_ ?_<;>intro h
 ·obtain ⟨v1,g2,h⟩:=bind_inv h;refine ⟨_,_,some [],law20_awake_ok g2,?_⟩;cases h;exact ⟨rfl,rfl⟩
 ·obtain ⟨v3,g4,h⟩:=bind_inv h;refine ⟨_,_,some [27],make_New_ok g4,?_⟩;obtain ⟨⟨v5,v6⟩,g7,h⟩:=bind_inv h;refine ⟨_,_,some [],make_Deck_Registry_ok g7,?_⟩;obtain ⟨⟨v8,v9⟩,g10,h⟩:=bind_inv h;refine ⟨_,_,some [],make_Deck_Prefix_ok g10,?_⟩;revert h;refine cut_join (fun (v11,v12)=>⟨X::AV.d (D.l 1 D.i a1)::X::AV.d (D.i a3)::X::X::AV.ref 6 0::X::X::AV.ref 27 0::AV.ref 10 0::AV.ref 11 0::dd 28 (AV.d (D.b v11)::dd 96 ([])),nn 6 (some (OB.box (Prefix.av a2))::N::N::N::some (OB.box (Registry.av v5))::some (OB.box (Prefix.av v8))::nn 15 (some (OB.box (Deck.av v12))::nn 109 ([])))⟩) ?_ ?_
  ·intro k13 h;refine ⟨v5.Objects.length,List.length_map _,?_⟩;revert h;refine sel_if ?_ ?_<;>intro h
   ·obtain ⟨⟨v14,v15⟩,g16,h⟩:=bind_inv h;refine ⟨_,_,some [],make_Deck_Next_ok g16,?_⟩;exact join_end wk h
   ·exact join_end wk h
  ·rintro ⟨v11,v12⟩ h;revert h;refine cut_join (fun v17=>⟨X::AV.d (D.l 1 D.i a1)::X::AV.d (D.i a3)::X::X::AV.ref 6 0::X::X::X::AV.ref 10 0::AV.ref 11 0::dd 125 ([]),nn 6 (some (OB.box (Prefix.av a2))::N::N::N::some (OB.box (Registry.av v5))::some (OB.box (Prefix.av v17))::nn 125 ([]))⟩) ?_ ?_
   ·intro k18 h;revert h;refine sel_if ?_ ?_<;>intro h
    ·(conv=>whnf);refine dOB (by kernel_rfl) ?_;refine ⟨v5.Objects.length,List.length_map _,?_⟩;obtain ⟨⟨v19,v20⟩,g21,h⟩:=bind_inv h;refine ⟨_,_,make_Deck_Next_ok g21,.inl rfl,?_⟩;obtain ⟨v22,g23,h⟩:=bind_inv h;refine ⟨geti_b (f:=Object.toD) g23,Object.toD v22,geti_d (f:=Object.toD) g23,rfl,?_⟩;(conv=>whnf);refine cOB (by kernel_rfl) ?_;(conv=>whnf);refine dOB (by kernel_rfl) ?_;obtain ⟨⟨v24,v25⟩,g26,h⟩:=bind_inv h;refine ⟨_,_,make_Deck_Next_ok g26,.inl rfl,?_⟩;refine ⟨_,rfl,?_⟩;refine ⟨_,rfl,?_⟩;refine ⟨_,rfl,?_⟩;obtain ⟨⟨v27,v28⟩,g29,h⟩:=bind_inv h;refine ⟨_,_,ref02_Make_ok g29,.inl rfl,?_⟩;(conv=>whnf);refine cOB (by kernel_rfl) ?_;exact join_end wk h
    ·exact join_end wk h
   ·rintro v17 h;refine ⟨a1.length,List.length_map _,?_⟩;obtain ⟨_,g30,h⟩:=bind_inv h;refine ⟨make_b g30 (Nat.le_of_ble_eq_true rfl),D.i 0,rfl,(List.map D.i (List.replicate (Int.toNat (a1.length:Int)) 0)),List.map_replicate.symm,?_⟩;refine ⟨a1.length,List.length_map _,?_⟩;revert h;refine cut_join (fun v31=>⟨X::AV.d (D.l 1 D.i a1)::X::AV.d (D.i a3)::X::X::AV.ref 6 0::X::X::X::AV.ref 10 0::AV.ref 11 0::X::AV.own 66 (List.map D.i v31).length::dd 123 ([]),nn 6 (some (OB.box (Prefix.av a2))::N::N::N::some (OB.box (Registry.av v5))::some (OB.box (Prefix.av v17))::nn 54 (some (OB.row 3 1 (List.map D.i v31) false)::nn 70 ([])))⟩) ?_ ?_
    ·intro k32 h;revert h;refine loop_for 67 1 D.i rfl (fun i33 v34=>⟨X::AV.d (D.l 1 D.i a1)::X::AV.d (D.i a3)::X::X::AV.ref 6 0::X::X::X::AV.ref 10 0::AV.ref 11 0::X::AV.own 66 (List.map D.i v34).length::dd 53 (AV.d (D.l 1 D.i a1)::AV.d (D.i (a1.length:Int))::AV.d (D.i (i33:Int))::dd 67 ([])),nn 6 (some (OB.box (Prefix.av a2))::N::N::N::some (OB.box (Registry.av v5))::some (OB.box (Prefix.av v17))::nn 54 (some (OB.row 3 1 (List.map D.i v34) false)::nn 70 ([])))⟩) ?_ ?_ ?_
     ·exact wk
     ·rintro v34 K35 h;(conv=>whnf);refine .go ?_;(conv=>whnf);refine sel_f lt_f ?_;exact join_end wk h
     ·rintro next36 i33 x37 v34 K35 hii33 hxi33 hwi33 h hK38;(conv=>whnf);refine .go ?_;(conv=>whnf);refine sel_t (lt_t hii33) ?_;(conv=>whnf);refine .go ?_;refine ⟨idx_b (f:=D.i) hii33,D.i x37,hxi33,rfl,?_⟩;obtain ⟨v39,g40,h⟩:=bind_inv h;refine ⟨_,_,some [],make_Mod_ok g40,?_⟩;obtain ⟨v41,g42,h⟩:=bind_inv h;refine ⟨rfl,geti_b (f:=D.i) g42,?_⟩;obtain ⟨v43,g44,h⟩:=bind_inv h;have g44l:=seti_len g44;refine ⟨rfl,rfl,D.i v41,(geti_d (f:=D.i) g42),?_⟩;refine ⟨_,seti_z (f:=D.i) g44,?_⟩;refine ⟨_,hwi33,?_⟩;exact hK38 _ _ wk h
    ·rintro v31 h;refine ⟨rfl,?_⟩;refine ⟨([a1,v31]:List (List Int)).length,by first | exact List.length_map _ | rfl | (simp only [List.length_map];omega),?_⟩;revert h;refine cut_join (fun _=>⟨X::X::X::AV.d (D.i a3)::X::X::AV.ref 6 0::X::X::X::AV.ref 10 0::AV.ref 11 0::dd 125 ([]),nn 6 (some (OB.box (Prefix.av a2))::N::N::N::some (OB.box (Registry.av v5))::some (OB.box (Prefix.av v17))::nn 125 ([]))⟩) ?_ ?_
     ·intro k45 h;revert h;refine loop_own 82 26 1 false (D.l 1 D.i) rfl (fun i46 _=>⟨X::X::X::AV.d (D.i a3)::X::X::AV.ref 6 0::X::X::X::AV.ref 10 0::AV.ref 11 0::dd 70 (AV.own 82 (List.map (D.l 1 D.i) ([a1,v31]:List (List Int))).length::AV.d (D.i (([a1,v31]:List (List Int)).length:Int))::AV.d (D.i (i46:Int))::dd 52 ([])),nn 6 (some (OB.box (Prefix.av a2))::N::N::N::some (OB.box (Registry.av v5))::some (OB.box (Prefix.av v17))::nn 70 (some (OB.row 26 1 (List.map (D.l 1 D.i) ([a1,v31]:List (List Int))) false)::nn 54 ([])))⟩) ?_ ?_ ?_
      ·exact wk
      ·rintro _ K47 h;(conv=>whnf);refine .go ?_;exact join_end wk h
      ·rintro next48 i46 x49 _ K47 hii46 hxi46 hwi46 h hK50;(conv=>whnf);refine .go ?_;(conv=>whnf);refine sel_t (lt_t hii46) ?_;(conv=>whnf);refine .go ?_;refine ⟨rfl,idx_b (f:=(D.l 1 D.i)) hii46,?_⟩;refine ⟨rfl,(D.l 1 D.i) x49,hxi46,?_⟩;(conv=>whnf);refine dOB (by kernel_rfl) ?_;obtain ⟨v51,g52,h⟩:=bind_inv h;refine ⟨_,_,irr_Own_ok g52,.inl rfl,?_⟩;obtain ⟨v53,g54,h⟩:=bind_inv h;refine ⟨_,_,ref20_Own_ok g54,.inl rfl,?_⟩;obtain ⟨v55,g56,h⟩:=bind_inv h;refine ⟨_,_,ref20_SameObjects_ok g56,.inl rfl,?_⟩;(conv=>whnf);refine cOB (by kernel_rfl) ?_;(conv=>whnf);refine .go ?_;revert h;refine sel_if ?_ ?_<;>intro h
       ·cases h;exact ⟨rfl,rfl⟩
       ·refine ⟨_,hwi46,?_⟩;exact hK50 _ _ wk h
     ·rintro _ h;refine ⟨([a2,v17]:List Prefix).length,by first | exact List.length_map _ | rfl | (simp only [List.length_map];omega),?_⟩;revert h;refine cut_join (fun _=>⟨dd 10 (AV.ref 10 0::dd 126 ([])),nn 10 (some (OB.box (Registry.av v5))::nn 126 ([]))⟩) ?_ ?_
      ·intro k57 h;revert h;refine loop_own 99 51 4 false Prefix.toD rfl (fun i58 _=>⟨X::X::X::AV.d (D.i a3)::dd 6 (AV.ref 10 0::dd 88 (AV.own 99 (List.map Prefix.toD ([a2,v17]:List Prefix)).length::AV.d (D.i (([a2,v17]:List Prefix).length:Int))::AV.d (D.i (i58:Int))::dd 35 ([]))),nn 10 (some (OB.box (Registry.av v5))::nn 88 (some (OB.row 51 4 (List.map Prefix.toD ([a2,v17]:List Prefix)) false)::nn 37 ([])))⟩) ?_ ?_ ?_
       ·exact wk
       ·rintro _ K59 h;(conv=>whnf);refine .go ?_;exact join_end wk h
       ·rintro next60 i58 x61 _ K59 hii58 hxi58 hwi58 h hK62;(conv=>whnf);refine .go ?_;(conv=>whnf);refine sel_t (lt_t hii58) ?_;revert h;refine cut_join (fun _=>⟨X::X::X::AV.d (D.i a3)::dd 6 (AV.ref 10 0::dd 88 (AV.own 99 (List.map Prefix.toD ([a2,v17]:List Prefix)).length::AV.d (D.i (([a2,v17]:List Prefix).length:Int))::AV.d (D.i (i58:Int))::dd 35 ([]))),nn 10 (some (OB.box (Registry.av v5))::nn 88 (some (OB.row 51 4 (List.map Prefix.toD ([a2,v17]:List Prefix)) false)::nn 37 ([])))⟩) ?_ ?_
        ·intro k63 h;refine ⟨rfl,idx_b (f:=Prefix.toD) hii58,?_⟩;refine ⟨rfl,Prefix.toD x61,hxi58,?_⟩;obtain ⟨v64,g65,h⟩:=bind_inv h;refine ⟨_,_,some [],make_Mod_ok g65,?_⟩;refine ⟨([a3,v64]:List Int).length,by first | exact List.length_map _ | rfl | (simp only [List.length_map];omega),?_⟩;revert h;refine cut_join (fun _=>⟨X::X::X::AV.d (D.i a3)::dd 6 (AV.ref 10 0::dd 88 (AV.own 99 (List.map Prefix.toD ([a2,v17]:List Prefix)).length::AV.d (D.i (([a2,v17]:List Prefix).length:Int))::AV.d (D.i (i58:Int))::dd 35 ([]))),nn 10 (some (OB.box (Registry.av v5))::nn 88 (some (OB.row 51 4 (List.map Prefix.toD ([a2,v17]:List Prefix)) false)::nn 37 ([])))⟩) ?_ ?_
         ·intro k66 h;revert h;refine loop_own 108 3 1 false D.i rfl (fun i67 _=>⟨X::X::X::AV.d (D.i a3)::dd 6 (AV.ref 10 0::dd 8 (AV.ref 19 0::dd 79 (AV.own 99 (List.map Prefix.toD ([a2,v17]:List Prefix)).length::AV.d (D.i (([a2,v17]:List Prefix).length:Int))::AV.d (D.i (i58:Int))::dd 6 (AV.own 108 (List.map D.i ([a3,v64]:List Int)).length::AV.d (D.i (([a3,v64]:List Int).length:Int))::AV.d (D.i (i67:Int))::dd 26 ([]))))),nn 10 (some (OB.box (Registry.av v5))::nn 8 (some (OB.box (Prefix.av x61))::nn 79 (some (OB.row 51 4 (List.map Prefix.toD ([a2,v17]:List Prefix)) false)::nn 8 (some (OB.row 3 1 (List.map D.i ([a3,v64]:List Int)) false)::nn 28 ([])))))⟩) ?_ ?_ ?_
          ·exact wk
          ·rintro _ K68 h;(conv=>whnf);refine .go ?_;exact join_end wk h
          ·rintro next69 i67 x70 _ K68 hii67 hxi67 hwi67 h hK71;(conv=>whnf);refine .go ?_;(conv=>whnf);refine sel_t (lt_t hii67) ?_;(conv=>whnf);refine .go ?_;refine ⟨rfl,idx_b (f:=D.i) hii67,?_⟩;refine ⟨rfl,D.i x70,hxi67,?_⟩;(conv=>whnf);refine dOB (by kernel_rfl) ?_;obtain ⟨v72,g73,h⟩:=bind_inv h;refine ⟨_,_,irr_Permits_ok g73,.inl rfl,?_⟩;obtain ⟨v74,g75,h⟩:=bind_inv h;refine ⟨_,_,ref20_Permits_ok g75,.inl rfl,?_⟩;(conv=>whnf);refine cOB (by kernel_rfl) ?_;(conv=>whnf);refine .go ?_;revert h;refine sel_if ?_ ?_<;>intro h
           ·cases h;exact ⟨rfl,rfl⟩
           ·refine ⟨_,hwi67,?_⟩;exact hK71 _ _ wk h
         ·rintro _ h;exact join_end wk h
        ·rintro _ h;refine ⟨_,hwi58,?_⟩;exact hK62 _ _ wk h
      ·rintro _ h;revert h;refine cut_join (fun v76=>⟨dd 8 (AV.d (D.b v76)::dd 128 ([])),nn 137 ([])⟩) ?_ ?_
       ·intro k77 h;(conv=>whnf);refine dOB (by kernel_rfl) ?_;obtain ⟨v78,g79,h⟩:=bind_inv h;refine ⟨_,_,irr_Normal_ok g79,.inl rfl,?_⟩;obtain ⟨v80,g81,h⟩:=bind_inv h;refine ⟨_,_,ref20_Normal_ok g81,.inl rfl,?_⟩;obtain ⟨v82,g83,h⟩:=bind_inv h;refine ⟨_,_,ref20_SameObjects_ok g83,.inl rfl,?_⟩;revert h;refine sel_if ?_ ?_<;>intro h
        ·obtain ⟨v84,g85,h⟩:=bind_inv h;refine ⟨_,_,law20_awake_ok g85,.inl rfl,?_⟩;(conv=>whnf);refine cOB (by kernel_rfl) ?_;exact join_end wk h
        ·(conv=>whnf);refine cOB (by kernel_rfl) ?_;exact join_end wk h
       ·rintro v76 h;cases h;exact ⟨rfl,rfl⟩
theorem irr_Permitted_ok {a0:Registry} {a1:Int} {a2:ByteArray} {a3:Prefix} {a4:Int} {r:Int} (h:irr_Permitted a0 a1 a2 a3 a4=some r):CallsOK True Tryz.prog 32 [AV.d (Registry.toD a0),AV.d (D.i a1),AV.d (D.s a2),AV.d (Prefix.toD a3),AV.d (D.i a4)] [] (.d (D.i r)) []:=by
 refine ok Tryz.f32 (by kernel_rfl) (by kernel_rfl) ⟨rfl,?_⟩;unfold irr_Permitted at h;obtain ⟨v1,g2,h⟩:=bind_inv h;refine ⟨_,_,some [],irr_Valid_ok g2,?_⟩;(conv=>whnf);refine .go ?_;revert h;refine sel_if ?_ ?_<;>intro h
 ·cases h;exact ⟨rfl,rfl⟩
 ·revert h;refine cut_join (fun v3=>⟨dd 4 (AV.d (D.i a4)::AV.ref 5 0::X::X::AV.ref 8 0::X::X::AV.own 19 (List.map D.i v3).length::dd 33 ([])),nn 5 (some (OB.box (Registry.av a0))::N::N::some (OB.box (Prefix.av a3))::nn 10 (some (OB.row 3 1 (List.map D.i v3) false)::nn 25 ([])))⟩) ?_ ?_
  ·intro k4 h;revert h;refine sel_if ?_ ?_<;>intro h
   ·obtain ⟨⟨v5,v6,v7⟩,g8,h⟩:=bind_inv h;refine ⟨_,_,some [],irr_Expand_ok g8,?_⟩;(conv=>whnf);refine .go ?_;revert h;refine sel_if ?_ ?_<;>intro h
    ·cases h;exact ⟨rfl,rfl⟩
    ·obtain ⟨v9,g10,h⟩:=bind_inv h;refine ⟨rfl,apnd_b (f:=D.i) (g:=D.i) g10,_,apnd_z (f:=D.i) g10,?_⟩;exact join_end wk h
   ·exact join_end wk h
  ·rintro v3 h;refine ⟨rfl,?_⟩;obtain ⟨v11,g12,h⟩:=bind_inv h;refine ⟨_,_,none,slices_Contains_int_int_ok g12,?_⟩;(conv=>whnf);refine .go ?_;revert h;refine sel_if ?_ ?_<;>intro h
   ·cases h;exact ⟨rfl,rfl⟩
   ·(conv=>whnf);refine dOB (by kernel_rfl) ?_;refine ⟨rfl,?_⟩;obtain ⟨v13,g14,h⟩:=bind_inv h;refine ⟨_,_,irr_Own_ok g14,.inl rfl,?_⟩;obtain ⟨v15,g16,h⟩:=bind_inv h;refine ⟨_,_,irr_Permits_ok g16,.inl rfl,?_⟩;(conv=>whnf);refine cOB (by kernel_rfl) ?_;cases h;exact ⟨rfl,rfl⟩
theorem ref20_Permitted_ok {wl:Prop} {a0:Registry} {a1:Int} {a2:ByteArray} {a3:Prefix} {a4:Int} {r:Int} (h:ref20_Permitted a0 a1 a2 a3 a4=some r):CallsOK wl Tryz.prog 33 [AV.d (Registry.toD a0),AV.d (D.i a1),AV.d (D.s a2),AV.d (Prefix.toD a3),AV.d (D.i a4)] [] (.d (D.i r)) []:=by
 refine ok Tryz.f33 (by kernel_rfl) (by kernel_rfl) ⟨rfl,?_⟩;unfold ref20_Permitted at h;obtain ⟨v1,g2,h⟩:=bind_inv h;refine ⟨_,_,some [],ref20_Valid_ok g2,?_⟩;(conv=>whnf);refine .go ?_;revert h;refine sel_if ?_ ?_<;>intro h
 ·cases h;exact ⟨rfl,rfl⟩
 ·revert h;refine cut_join (fun v3=>⟨dd 4 (AV.d (D.i a4)::AV.ref 5 0::X::X::AV.ref 8 0::X::X::AV.own 19 (List.map D.i v3).length::dd 33 ([])),nn 5 (some (OB.box (Registry.av a0))::N::N::some (OB.box (Prefix.av a3))::nn 10 (some (OB.row 3 1 (List.map D.i v3) false)::nn 25 ([])))⟩) ?_ ?_
  ·intro k4 h;revert h;refine sel_if ?_ ?_<;>intro h
   ·obtain ⟨⟨v5,v6,v7⟩,g8,h⟩:=bind_inv h;refine ⟨_,_,some [],ref20_Expand_ok g8,?_⟩;(conv=>whnf);refine .go ?_;revert h;refine sel_if ?_ ?_<;>intro h
    ·cases h;exact ⟨rfl,rfl⟩
    ·obtain ⟨v9,g10,h⟩:=bind_inv h;refine ⟨rfl,apnd_b (f:=D.i) (g:=D.i) g10,_,apnd_z (f:=D.i) g10,?_⟩;exact join_end wk h
   ·exact join_end wk h
  ·rintro v3 h;refine ⟨rfl,?_⟩;obtain ⟨v11,g12,h⟩:=bind_inv h;refine ⟨_,_,none,ref20_has_ok g12,?_⟩;(conv=>whnf);refine .go ?_;revert h;refine sel_if ?_ ?_<;>intro h
   ·cases h;exact ⟨rfl,rfl⟩
   ·(conv=>whnf);refine dOB (by kernel_rfl) ?_;refine ⟨rfl,?_⟩;obtain ⟨v13,g14,h⟩:=bind_inv h;refine ⟨_,_,ref20_Own_ok g14,.inl rfl,?_⟩;obtain ⟨v15,g16,h⟩:=bind_inv h;refine ⟨_,_,ref20_Permits_ok g16,.inl rfl,?_⟩;(conv=>whnf);refine cOB (by kernel_rfl) ?_;cases h;exact ⟨rfl,rfl⟩
end Go.AX.Q20
end
section
namespace Go.AX.Q20
open Go Go.AX Go.Proofs
set_option maxRecDepth 100000
set_option maxHeartbeats 4000000
set_option linter.unusedVariables false
theorem law20_IrrPermitted_ok {a0:Registry} {a1:List Int} {a2:Int} {a3:Int} {a4:Int} {a5:Int} {r:Bool} (h:law20_IrrPermitted a0 a1 a2 a3 a4 a5=some r):CallsOK True Tryz.prog 8 [AV.d (Registry.toD a0),AV.d (D.l 1 D.i a1),AV.d (D.i a2),AV.d (D.i a3),AV.d (D.i a4),AV.d (D.i a5)] [] (.d (D.b r)) []:=by
 refine ok Tryz.f8 (by kernel_rfl) (by kernel_rfl) ⟨rfl,?_⟩;unfold law20_IrrPermitted at h;obtain ⟨v1,g2,h⟩:=bind_inv h;refine ⟨_,_,some [],law20_light_ok g2,?_⟩;(conv=>whnf);refine .go ?_;revert h;refine sel_if ?_ ?_<;>intro h
 ·obtain ⟨v3,g4,h⟩:=bind_inv h;refine ⟨_,_,some [],law20_awake_ok g4,?_⟩;cases h;exact ⟨rfl,rfl⟩
 ·obtain ⟨v5,g6,h⟩:=bind_inv h;refine ⟨_,_,some [27],make_New_ok g6,?_⟩;obtain ⟨⟨v7,v8⟩,g9,h⟩:=bind_inv h;refine ⟨_,_,some [],make_Deck_Registry_ok g9,?_⟩;obtain ⟨⟨v10,v11⟩,g12,h⟩:=bind_inv h;refine ⟨_,_,some [],make_Deck_Prefix_ok g12,?_⟩;revert h;refine cut_join (fun (v13,v14)=>⟨X::X::AV.d (D.i a2)::AV.d (D.i a3)::AV.d (D.i a4)::AV.d (D.i a5)::AV.ref 6 0::dd 6 (AV.ref 27 0::AV.ref 14 0::AV.ref 15 0::dd 24 (AV.d (D.b v13)::dd 63 ([]))),nn 6 (some (OB.box (Registry.av a0))::nn 7 (some (OB.box (Registry.av v7))::some (OB.box (Prefix.av v10))::nn 11 (some (OB.box (Deck.av v14))::nn 76 ([]))))⟩) ?_ ?_
  ·intro k15 h;refine ⟨v7.Objects.length,List.length_map _,?_⟩;revert h;refine sel_if ?_ ?_<;>intro h
   ·obtain ⟨⟨v16,v17⟩,g18,h⟩:=bind_inv h;refine ⟨_,_,some [],make_Deck_Next_ok g18,?_⟩;exact join_end wk h
   ·exact join_end wk h
  ·rintro ⟨v13,v14⟩ h;revert h;refine cut_join (fun v19=>⟨X::X::AV.d (D.i a2)::AV.d (D.i a3)::AV.d (D.i a4)::AV.d (D.i a5)::AV.ref 6 0::dd 7 (AV.ref 14 0::AV.ref 15 0::dd 88 ([])),nn 6 (some (OB.box (Registry.av a0))::nn 7 (some (OB.box (Registry.av v7))::some (OB.box (Prefix.av v19))::nn 88 ([])))⟩) ?_ ?_
   ·intro k20 h;revert h;refine sel_if ?_ ?_<;>intro h
    ·(conv=>whnf);refine dOB (by kernel_rfl) ?_;refine ⟨v7.Objects.length,List.length_map _,?_⟩;obtain ⟨⟨v21,v22⟩,g23,h⟩:=bind_inv h;refine ⟨_,_,make_Deck_Next_ok g23,.inl rfl,?_⟩;obtain ⟨v24,g25,h⟩:=bind_inv h;refine ⟨geti_b (f:=Object.toD) g25,Object.toD v24,geti_d (f:=Object.toD) g25,rfl,?_⟩;(conv=>whnf);refine cOB (by kernel_rfl) ?_;exact join_end wk h
    ·exact join_end wk h
   ·rintro v19 h;(conv=>whnf);refine dOB (by kernel_rfl) ?_;obtain ⟨v26,g27,h⟩:=bind_inv h;refine ⟨_,_,law20_bent_ok g27,.inl rfl,?_⟩;refine ⟨([a0,v7,v26]:List Registry).length,by first | exact List.length_map _ | rfl | (simp only [List.length_map];omega),?_⟩;(conv=>whnf);refine cOB (by kernel_rfl) ?_;revert h;refine cut_join (fun _=>⟨dd 104 ([]),nn 104 ([])⟩) ?_ ?_
    ·intro k28 h;revert h;refine loop_own 57 25 2 false Registry.toD rfl (fun i29 _=>⟨X::X::AV.d (D.i a2)::AV.d (D.i a3)::dd 11 (AV.ref 15 0::dd 41 (AV.own 57 (List.map Registry.toD ([a0,v7,v26]:List Registry)).length::AV.d (D.i (([a0,v7,v26]:List Registry).length:Int))::AV.d (D.i (i29:Int))::dd 44 ([]))),nn 15 (some (OB.box (Prefix.av v19))::nn 41 (some (OB.row 25 2 (List.map Registry.toD ([a0,v7,v26]:List Registry)) false)::nn 46 ([])))⟩) ?_ ?_ ?_
     ·exact wk
     ·rintro _ K30 h;(conv=>whnf);refine .go ?_;exact join_end wk h
     ·rintro next31 i29 x32 _ K30 hii29 hxi29 hwi29 h hK33;(conv=>whnf);refine .go ?_;(conv=>whnf);refine sel_t (lt_t hii29) ?_;revert h;refine cut_join (fun _=>⟨X::X::AV.d (D.i a2)::AV.d (D.i a3)::dd 11 (AV.ref 15 0::dd 41 (AV.own 57 (List.map Registry.toD ([a0,v7,v26]:List Registry)).length::AV.d (D.i (([a0,v7,v26]:List Registry).length:Int))::AV.d (D.i (i29:Int))::dd 44 ([]))),nn 15 (some (OB.box (Prefix.av v19))::nn 41 (some (OB.row 25 2 (List.map Registry.toD ([a0,v7,v26]:List Registry)) false)::nn 46 ([])))⟩) ?_ ?_
      ·intro k34 h;refine ⟨rfl,idx_b (f:=Registry.toD) hii29,?_⟩;refine ⟨rfl,Registry.toD x32,hxi29,?_⟩;refine ⟨([(ByteArray.mk (List.toArray List.nil)),(ByteArray.mk (List.toArray (List.cons 65 (List.cons 83 (List.cons 45 (List.cons 65 List.nil)))))),(ByteArray.mk (List.toArray (List.cons 65 (List.cons 83 (List.cons 45 (List.cons 66 List.nil)))))),(ByteArray.mk (List.toArray (List.cons 65 (List.cons 83 (List.cons 45 (List.cons 90 List.nil))))))]:List ByteArray).length,by first | exact List.length_map _ | rfl | (simp only [List.length_map];omega),?_⟩;revert h;refine cut_join (fun _=>⟨X::X::AV.d (D.i a2)::AV.d (D.i a3)::dd 11 (AV.ref 15 0::dd 41 (AV.own 57 (List.map Registry.toD ([a0,v7,v26]:List Registry)).length::AV.d (D.i (([a0,v7,v26]:List Registry).length:Int))::AV.d (D.i (i29:Int))::dd 44 ([]))),nn 15 (some (OB.box (Prefix.av v19))::nn 41 (some (OB.row 25 2 (List.map Registry.toD ([a0,v7,v26]:List Registry)) false)::nn 46 ([])))⟩) ?_ ?_
       ·intro k35 h;revert h;refine loop_own 63 9 1 false D.s rfl (fun i36 _=>⟨X::X::AV.d (D.i a2)::AV.d (D.i a3)::dd 11 (AV.ref 15 0::X::AV.ref 17 0::dd 39 (AV.own 57 (List.map Registry.toD ([a0,v7,v26]:List Registry)).length::AV.d (D.i (([a0,v7,v26]:List Registry).length:Int))::AV.d (D.i (i29:Int))::X::X::X::AV.own 63 (List.map D.s ([(ByteArray.mk (List.toArray List.nil)),(ByteArray.mk (List.toArray (List.cons 65 (List.cons 83 (List.cons 45 (List.cons 65 List.nil)))))),(ByteArray.mk (List.toArray (List.cons 65 (List.cons 83 (List.cons 45 (List.cons 66 List.nil)))))),(ByteArray.mk (List.toArray (List.cons 65 (List.cons 83 (List.cons 45 (List.cons 90 List.nil))))))]:List ByteArray)).length::AV.d (D.i (([(ByteArray.mk (List.toArray List.nil)),(ByteArray.mk (List.toArray (List.cons 65 (List.cons 83 (List.cons 45 (List.cons 65 List.nil)))))),(ByteArray.mk (List.toArray (List.cons 65 (List.cons 83 (List.cons 45 (List.cons 66 List.nil)))))),(ByteArray.mk (List.toArray (List.cons 65 (List.cons 83 (List.cons 45 (List.cons 90 List.nil))))))]:List ByteArray).length:Int))::AV.d (D.i (i36:Int))::dd 38 ([]))),nn 15 (some (OB.box (Prefix.av v19))::N::some (OB.box (Registry.av x32))::nn 39 (some (OB.row 25 2 (List.map Registry.toD ([a0,v7,v26]:List Registry)) false)::nn 5 (some (OB.row 9 1 (List.map D.s ([(ByteArray.mk (List.toArray List.nil)),(ByteArray.mk (List.toArray (List.cons 65 (List.cons 83 (List.cons 45 (List.cons 65 List.nil)))))),(ByteArray.mk (List.toArray (List.cons 65 (List.cons 83 (List.cons 45 (List.cons 66 List.nil)))))),(ByteArray.mk (List.toArray (List.cons 65 (List.cons 83 (List.cons 45 (List.cons 90 List.nil))))))]:List ByteArray)) false)::nn 40 ([]))))⟩) ?_ ?_ ?_
        ·exact wk
        ·rintro _ K37 h;(conv=>whnf);refine .go ?_;exact join_end wk h
        ·rintro next38 i36 x39 _ K37 hii36 hxi36 hwi36 h hK40;(conv=>whnf);refine .go ?_;(conv=>whnf);refine sel_t (lt_t hii36) ?_;revert h;refine cut_join (fun _=>⟨X::X::AV.d (D.i a2)::AV.d (D.i a3)::dd 11 (AV.ref 15 0::X::AV.ref 17 0::dd 39 (AV.own 57 (List.map Registry.toD ([a0,v7,v26]:List Registry)).length::AV.d (D.i (([a0,v7,v26]:List Registry).length:Int))::AV.d (D.i (i29:Int))::X::X::X::AV.own 63 (List.map D.s ([(ByteArray.mk (List.toArray List.nil)),(ByteArray.mk (List.toArray (List.cons 65 (List.cons 83 (List.cons 45 (List.cons 65 List.nil)))))),(ByteArray.mk (List.toArray (List.cons 65 (List.cons 83 (List.cons 45 (List.cons 66 List.nil)))))),(ByteArray.mk (List.toArray (List.cons 65 (List.cons 83 (List.cons 45 (List.cons 90 List.nil))))))]:List ByteArray)).length::AV.d (D.i (([(ByteArray.mk (List.toArray List.nil)),(ByteArray.mk (List.toArray (List.cons 65 (List.cons 83 (List.cons 45 (List.cons 65 List.nil)))))),(ByteArray.mk (List.toArray (List.cons 65 (List.cons 83 (List.cons 45 (List.cons 66 List.nil)))))),(ByteArray.mk (List.toArray (List.cons 65 (List.cons 83 (List.cons 45 (List.cons 90 List.nil))))))]:List ByteArray).length:Int))::AV.d (D.i (i36:Int))::dd 38 ([]))),nn 15 (some (OB.box (Prefix.av v19))::N::some (OB.box (Registry.av x32))::nn 39 (some (OB.row 25 2 (List.map Registry.toD ([a0,v7,v26]:List Registry)) false)::nn 5 (some (OB.row 9 1 (List.map D.s ([(ByteArray.mk (List.toArray List.nil)),(ByteArray.mk (List.toArray (List.cons 65 (List.cons 83 (List.cons 45 (List.cons 65 List.nil)))))),(ByteArray.mk (List.toArray (List.cons 65 (List.cons 83 (List.cons 45 (List.cons 66 List.nil)))))),(ByteArray.mk (List.toArray (List.cons 65 (List.cons 83 (List.cons 45 (List.cons 90 List.nil))))))]:List ByteArray)) false)::nn 40 ([]))))⟩) ?_ ?_
         ·intro k41 h;refine ⟨rfl,idx_b (f:=D.s) hii36,?_⟩;refine ⟨rfl,D.s x39,hxi36,?_⟩;obtain ⟨v42,g43,h⟩:=bind_inv h;refine ⟨_,_,some [],make_Mod_ok g43,?_⟩;obtain ⟨v44,g45,h⟩:=bind_inv h;refine ⟨_,_,some [],make_Mod_ok g45,?_⟩;refine ⟨([(⟨a2,a3⟩:A2_Int),(⟨v42,v44⟩:A2_Int)]:List A2_Int).length,by first | exact List.length_map _ | rfl | (simp only [List.length_map];omega),?_⟩;revert h;refine cut_join (fun _=>⟨X::X::AV.d (D.i a2)::AV.d (D.i a3)::dd 11 (AV.ref 15 0::X::AV.ref 17 0::dd 39 (AV.own 57 (List.map Registry.toD ([a0,v7,v26]:List Registry)).length::AV.d (D.i (([a0,v7,v26]:List Registry).length:Int))::AV.d (D.i (i29:Int))::X::X::X::AV.own 63 (List.map D.s ([(ByteArray.mk (List.toArray List.nil)),(ByteArray.mk (List.toArray (List.cons 65 (List.cons 83 (List.cons 45 (List.cons 65 List.nil)))))),(ByteArray.mk (List.toArray (List.cons 65 (List.cons 83 (List.cons 45 (List.cons 66 List.nil)))))),(ByteArray.mk (List.toArray (List.cons 65 (List.cons 83 (List.cons 45 (List.cons 90 List.nil))))))]:List ByteArray)).length::AV.d (D.i (([(ByteArray.mk (List.toArray List.nil)),(ByteArray.mk (List.toArray (List.cons 65 (List.cons 83 (List.cons 45 (List.cons 65 List.nil)))))),(ByteArray.mk (List.toArray (List.cons 65 (List.cons 83 (List.cons 45 (List.cons 66 List.nil)))))),(ByteArray.mk (List.toArray (List.cons 65 (List.cons 83 (List.cons 45 (List.cons 90 List.nil))))))]:List ByteArray).length:Int))::AV.d (D.i (i36:Int))::dd 38 ([]))),nn 15 (some (OB.box (Prefix.av v19))::N::some (OB.box (Registry.av x32))::nn 39 (some (OB.row 25 2 (List.map Registry.toD ([a0,v7,v26]:List Registry)) false)::nn 5 (some (OB.row 9 1 (List.map D.s ([(ByteArray.mk (List.toArray List.nil)),(ByteArray.mk (List.toArray (List.cons 65 (List.cons 83 (List.cons 45 (List.cons 65 List.nil)))))),(ByteArray.mk (List.toArray (List.cons 65 (List.cons 83 (List.cons 45 (List.cons 66 List.nil)))))),(ByteArray.mk (List.toArray (List.cons 65 (List.cons 83 (List.cons 45 (List.cons 90 List.nil))))))]:List ByteArray)) false)::nn 40 ([]))))⟩) ?_ ?_
          ·intro k46 h;revert h;refine loop_own 77 66 2 false A2_Int.toD rfl (fun i47 _=>⟨X::X::AV.d (D.i a2)::AV.d (D.i a3)::dd 11 (AV.ref 15 0::X::AV.ref 17 0::X::AV.d (D.s x39)::dd 37 (AV.own 57 (List.map Registry.toD ([a0,v7,v26]:List Registry)).length::AV.d (D.i (([a0,v7,v26]:List Registry).length:Int))::AV.d (D.i (i29:Int))::X::X::X::AV.own 63 (List.map D.s ([(ByteArray.mk (List.toArray List.nil)),(ByteArray.mk (List.toArray (List.cons 65 (List.cons 83 (List.cons 45 (List.cons 65 List.nil)))))),(ByteArray.mk (List.toArray (List.cons 65 (List.cons 83 (List.cons 45 (List.cons 66 List.nil)))))),(ByteArray.mk (List.toArray (List.cons 65 (List.cons 83 (List.cons 45 (List.cons 90 List.nil))))))]:List ByteArray)).length::AV.d (D.i (([(ByteArray.mk (List.toArray List.nil)),(ByteArray.mk (List.toArray (List.cons 65 (List.cons 83 (List.cons 45 (List.cons 65 List.nil)))))),(ByteArray.mk (List.toArray (List.cons 65 (List.cons 83 (List.cons 45 (List.cons 66 List.nil)))))),(ByteArray.mk (List.toArray (List.cons 65 (List.cons 83 (List.cons 45 (List.cons 90 List.nil))))))]:List ByteArray).length:Int))::AV.d (D.i (i36:Int))::dd 11 (AV.own 77 (List.map A2_Int.toD ([(⟨a2,a3⟩:A2_Int),(⟨v42,v44⟩:A2_Int)]:List A2_Int)).length::AV.d (D.i (([(⟨a2,a3⟩:A2_Int),(⟨v42,v44⟩:A2_Int)]:List A2_Int).length:Int))::AV.d (D.i (i47:Int))::dd 24 ([])))),nn 15 (some (OB.box (Prefix.av v19))::N::some (OB.box (Registry.av x32))::nn 39 (some (OB.row 25 2 (List.map Registry.toD ([a0,v7,v26]:List Registry)) false)::nn 5 (some (OB.row 9 1 (List.map D.s ([(ByteArray.mk (List.toArray List.nil)),(ByteArray.mk (List.toArray (List.cons 65 (List.cons 83 (List.cons 45 (List.cons 65 List.nil)))))),(ByteArray.mk (List.toArray (List.cons 65 (List.cons 83 (List.cons 45 (List.cons 66 List.nil)))))),(ByteArray.mk (List.toArray (List.cons 65 (List.cons 83 (List.cons 45 (List.cons 90 List.nil))))))]:List ByteArray)) false)::nn 13 (some (OB.row 66 2 (List.map A2_Int.toD ([(⟨a2,a3⟩:A2_Int),(⟨v42,v44⟩:A2_Int)]:List A2_Int)) false)::nn 26 ([])))))⟩) ?_ ?_ ?_
           ·exact wk
           ·rintro _ K48 h;(conv=>whnf);refine .go ?_;exact join_end wk h
           ·rintro next49 i47 x50 _ K48 hii47 hxi47 hwi47 h hK51;(conv=>whnf);refine .go ?_;(conv=>whnf);refine sel_t (lt_t hii47) ?_;(conv=>whnf);refine .go ?_;refine ⟨rfl,idx_b (f:=A2_Int.toD) hii47,?_⟩;refine ⟨rfl,A2_Int.toD x50,hxi47,?_⟩;(conv=>whnf);refine dOB (by kernel_rfl) ?_;(conv=>whnf);refine .inl ⟨by decide,?_⟩;(conv=>whnf);refine .inl ⟨by decide,?_⟩;obtain ⟨v52,g53,h⟩:=bind_inv h;refine ⟨_,_,irr_Permitted_ok g53,.inl rfl,?_⟩;(conv=>whnf);refine .inl ⟨by decide,?_⟩;(conv=>whnf);refine .inl ⟨by decide,?_⟩;obtain ⟨v54,g55,h⟩:=bind_inv h;refine ⟨_,_,ref20_Permitted_ok g55,.inl rfl,?_⟩;(conv=>whnf);refine cOB (by kernel_rfl) ?_;(conv=>whnf);refine .go ?_;revert h;refine sel_if ?_ ?_<;>intro h
            ·cases h;exact ⟨rfl,rfl⟩
            ·refine ⟨_,hwi47,?_⟩;exact hK51 _ _ wk h
          ·rintro _ h;exact join_end wk h
         ·rintro _ h;refine ⟨_,hwi36,?_⟩;exact hK40 _ _ wk h
       ·rintro _ h;exact join_end wk h
      ·rintro _ h;refine ⟨_,hwi29,?_⟩;exact hK33 _ _ wk h
    ·rintro _ h;obtain ⟨v56,g57,h⟩:=bind_inv h;refine ⟨_,_,some [],law20_awake_ok g57,?_⟩;cases h;exact ⟨rfl,rfl⟩
end Go.AX.Q20
end
