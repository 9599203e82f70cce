/-
  Texts of one proof, packed: Q33P6 Q33P7 Q33P8 Q33P9 Q33P10 Q33P11 Q33P12 Q33P13 Q33P14 Q33P15 Q33P17 Q33P18 Q33P19.
-/
import Derived.Test.YtdljbnbckcecdaaGreatDoorK3
import Derived.Test.YtdljbnbckcecdaaGreatDoorK4
set_option linter.all false
section
namespace Go.AX.Q33
open Go Go.AX Go.Proofs
set_option maxRecDepth 100000
set_option maxHeartbeats 4000000
set_option linter.unusedVariables false
theorem update_get_ok {wl:Prop} {a0:List UInt8} {r:Int} (h:update_get a0=some r):CallsOK (Wl wl) Tryz.prog 97 [AV.d (D.l 1 D.u8 a0)] [] (.d (D.i r)) []:=by
 refine ok Tryz.f97 (by kernel_rfl) (by kernel_rfl) ⟨rfl,?_⟩;unfold update_get at h;(conv=>whnf);refine .inl (dOB (by kernel_rfl) ?_);obtain ⟨v1,g2,h⟩:=bind_inv h;refine ⟨geti_b (f:=D.u8) g2,D.u8 v1,geti_d (f:=D.u8) g2,rfl,?_⟩;refine ⟨_,i64_of_u8 v1,?_⟩;refine ⟨by decide,_,rfl,?_⟩;obtain ⟨v3,g4,h⟩:=bind_inv h;refine ⟨geti_b (f:=D.u8) g4,D.u8 v3,geti_d (f:=D.u8) g4,rfl,?_⟩;refine ⟨_,i64_of_u8 v3,?_⟩;refine ⟨_,rfl,?_⟩;(conv=>whnf);refine cOB (by kernel_rfl) ?_;cases h;exact ⟨rfl,rfl⟩
theorem update_cut_ok {wl:Prop} {a0:List UInt8} {r:(List UInt8)×(List UInt8)×Bool} (h:update_cut a0=some r):CallsOK (Wl wl) Tryz.prog 131 [AV.d (D.l 1 D.u8 a0)] [] (.tup [.d (D.l 1 D.u8 r.1),.d (D.l 1 D.u8 r.2.1),.d (D.b r.2.2)]) []:=by
 refine ok Tryz.f131 (by kernel_rfl) (by kernel_rfl) ⟨rfl,?_⟩;unfold update_cut at h;revert h;refine cut_join (fun v1=>⟨AV.d (D.l 1 D.u8 a0)::dd 15 (AV.d (D.b v1)::dd 9 ([])),nn 26 ([])⟩) ?_ ?_
 ·intro k2 h;refine ⟨a0.length,List.length_map _,?_⟩;revert h;refine sel_if ?_ ?_<;>intro h
  ·exact join_end wk h
  ·refine ⟨a0.length,List.length_map _,?_⟩;refine ⟨_,rfl,?_⟩;obtain ⟨v3,g4,h⟩:=bind_inv h;refine ⟨_,_,some [],update_get_ok g4,?_⟩;exact join_end wk h
 ·rintro v1 h;(conv=>whnf);refine .go ?_;revert h;refine sel_if ?_ ?_<;>intro h
  ·(conv=>whnf);refine .inl ?_;refine ⟨rfl,?_⟩;(conv=>whnf);refine .inl ?_;refine ⟨rfl,?_⟩;cases h;exact ⟨rfl,rfl⟩
  ·obtain ⟨v5,g6,h⟩:=bind_inv h;refine ⟨_,_,some [],update_get_ok g6,?_⟩;refine ⟨_,rfl,?_⟩;(conv=>whnf);refine .inl (dOB (by kernel_rfl) ?_);obtain ⟨v7,g8,h⟩:=bind_inv h;refine ⟨part_b (f:=D.u8) g8,_,part_z (f:=D.u8) g8,?_⟩;obtain ⟨v9,g10,h⟩:=bind_inv h;refine ⟨part_b0 (f:=D.u8) g10,_,part_z0 (f:=D.u8) g10,?_⟩;(conv=>whnf);refine cOB (by kernel_rfl) ?_;cases h;exact ⟨rfl,rfl⟩
theorem attribute_Split_ok {wl:Prop} {a0:List UInt8} {r:(List Unknown)×Int} (h:attribute_Split a0=some r):CallsOK (Wl wl) Tryz.prog 132 [AV.d (D.l 1 D.u8 a0)] [] (.tup [.d (D.l 3 Unknown.toD r.1),.d (D.i r.2)]) []:=by
 refine ok Tryz.f132 (by kernel_rfl) (by kernel_rfl) ⟨rfl,?_⟩;unfold attribute_Split at h;revert h;refine cut_join (fun v1=>⟨dd 4 (AV.own 4 (List.map Unknown.toD v1).length::dd 53 ([])),nn 4 (some (OB.row 144 3 (List.map Unknown.toD v1) .no)::nn 53 ([]))⟩) ?_ ?_
 ·intro k2 h;revert h;refine loop_while (fun (v3,v4)=>⟨AV.d (D.l 1 D.u8 v3)::X::X::X::AV.own 4 (List.map Unknown.toD v4).length::dd 53 ([]),nn 4 (some (OB.row 144 3 (List.map Unknown.toD v4) .no)::nn 53 ([]))⟩) ?_ ?_
  ·exact wk
  rintro next5 ⟨v3,v4⟩ K6 h hK7;refine ⟨v3.length,List.length_map _,?_⟩;(conv=>whnf);refine .go ?_;revert h;refine sel_if ?_ ?_<;>intro h
  ·(conv=>whnf);refine .go ?_;obtain ⟨v8,g9,h⟩:=bind_inv h;refine ⟨geti_b (f:=D.u8) g9,D.u8 v8,geti_d (f:=D.u8) g9,rfl,?_⟩;refine ⟨_,u8_wrap _,?_⟩;revert h;refine cut_join (fun v10=>⟨AV.d (D.l 1 D.u8 v3)::X::X::X::AV.own 4 (List.map Unknown.toD v4).length::AV.d (D.i v10)::dd 52 ([]),nn 4 (some (OB.row 144 3 (List.map Unknown.toD v4) .no)::nn 53 ([]))⟩) ?_ ?_
   ·intro k11 h;revert h;refine sel_if ?_ ?_<;>intro h
    ·exact join_end wk h
    ·exact join_end wk h
   ·rintro v10 h;revert h;refine cut_join (fun v12=>⟨AV.d (D.l 1 D.u8 v3)::X::X::X::AV.own 4 (List.map Unknown.toD v4).length::AV.d (D.i v10)::dd 23 (AV.d (D.b v12)::dd 28 ([])),nn 4 (some (OB.row 144 3 (List.map Unknown.toD v4) .no)::nn 53 ([]))⟩) ?_ ?_
    ·intro k13 h;refine ⟨v3.length,List.length_map _,?_⟩;revert h;refine sel_if ?_ ?_<;>intro h
     ·exact join_end wk h
     ·refine ⟨v3.length,List.length_map _,?_⟩;refine ⟨_,rfl,?_⟩;obtain ⟨v14,g15,h⟩:=bind_inv h;refine ⟨part_b (f:=D.u8) g15,_,part_z (f:=D.u8) g15,?_⟩;obtain ⟨v16,g17,h⟩:=bind_inv h;refine ⟨_,_,some [],attribute_get_ok g17,?_⟩;exact join_end wk h
    ·rintro v12 h;(conv=>whnf);refine .go ?_;revert h;refine sel_if ?_ ?_<;>intro h
     ·(conv=>whnf);refine .inl ?_;refine ⟨rfl,?_⟩;cases h;exact ⟨rfl,rfl⟩
     ·obtain ⟨v18,g19,h⟩:=bind_inv h;refine ⟨part_b (f:=D.u8) g19,_,part_z (f:=D.u8) g19,?_⟩;obtain ⟨v20,g21,h⟩:=bind_inv h;refine ⟨_,_,some [],attribute_get_ok g21,?_⟩;refine ⟨_,rfl,?_⟩;(conv=>whnf);refine .inl (dOB (by kernel_rfl) ?_);obtain ⟨v22,g23,h⟩:=bind_inv h;refine ⟨geti_b (f:=D.u8) g23,D.u8 v22,geti_d (f:=D.u8) g23,rfl,?_⟩;refine ⟨_,u8_wrap _,?_⟩;refine ⟨_,i64_of_u8 (toU8 ((BitVec.ofInt 8 (v22.toNat:Int) &&& BitVec.ofInt 8 224).toNat:Int)),?_⟩;obtain ⟨v24,g25,h⟩:=bind_inv h;refine ⟨geti_b (f:=D.u8) g25,D.u8 v24,geti_d (f:=D.u8) g25,rfl,?_⟩;refine ⟨_,i64_of_u8 v24,?_⟩;obtain ⟨v26,g27,h⟩:=bind_inv h;refine ⟨part_b (f:=D.u8) g27,_,part_z (f:=D.u8) g27,?_⟩;obtain ⟨_,g28,h⟩:=bind_inv h;refine ⟨apnd_b0 (g:=D.u8) g28,?_⟩;(conv=>whnf);refine .inl ?_;refine ⟨rfl,?_⟩;refine ⟨rfl,?_⟩;obtain ⟨v29,g30,h⟩:=bind_inv h;refine ⟨rfl,apnd_b (f:=Unknown.toD) (g:=Unknown.toD) g30,_,apnd_z (f:=Unknown.toD) g30,?_⟩;(conv=>whnf);refine cOB (by kernel_rfl) ?_;obtain ⟨v31,g32,h⟩:=bind_inv h;refine ⟨part_b0 (f:=D.u8) g32,_,part_z0 (f:=D.u8) g32,?_⟩;exact hK7 _ _ wk h
  ·exact join_end wk h
 ·rintro v1 h;(conv=>whnf);refine .inl ?_;refine ⟨rfl,?_⟩;cases h;exact ⟨rfl,rfl⟩
theorem addr_Valid_ok {wl:Prop} {a0:Addr} {r:Bool} (h:addr_Valid a0=some r):CallsOK (Wl wl) Tryz.prog 196 [AV.d (Addr.toD a0)] [] (.d (D.b r)) []:=by
 refine ok Tryz.f196 (by kernel_rfl) (by kernel_rfl) ⟨rfl,?_⟩;unfold addr_Valid at h;revert h;refine cut_join (fun v1=>⟨X::X::AV.d (D.b v1)::dd 12 ([]),nn 15 ([])⟩) ?_ ?_
 ·intro k2 h;revert h;refine sel_if ?_ ?_<;>intro h
  ·exact join_end wk h
  ·revert h;refine sel_if ?_ ?_<;>intro h
   ·exact join_end wk h
   ·exact join_end wk h
 ·rintro v1 h;cases h;exact ⟨rfl,rfl⟩
theorem prefix_width_ok {wl:Prop} {a0:Addr} {r:Int} (h:prefix_width a0=some r):CallsOK (Wl wl) Tryz.prog 197 [AV.d (Addr.toD a0)] [] (.d (D.i r)) []:=by
 refine ok Tryz.f197 (by kernel_rfl) (by kernel_rfl) ⟨rfl,?_⟩;unfold prefix_width at h;(conv=>whnf);refine .go ?_;revert h;refine sel_if ?_ ?_<;>intro h
 ·cases h;exact ⟨rfl,rfl⟩
 ·cases h;exact ⟨rfl,rfl⟩
theorem prefix_masks_ok {wl:Prop} {a0:Int} {r:UInt64×UInt64} (h:prefix_masks a0=some r):CallsOK (Wl wl) Tryz.prog 221 [AV.d (D.i a0)] [] (.tup [.d (D.u64 r.1),.d (D.u64 r.2)]) []:=by
 refine ok Tryz.f221 (by kernel_rfl) (by kernel_rfl) ⟨rfl,?_⟩;unfold prefix_masks at h;(conv=>whnf);refine .go ?_;revert h;refine sel_if ?_ ?_<;>intro h
 ·refine ⟨_,rfl,?_⟩;refine ⟨_,u64_wrap _,?_⟩;refine ⟨Int.natCast_nonneg _,_,u64_wrap _,?_⟩;refine ⟨_,u64_wrap _,?_⟩;cases h;exact ⟨rfl,rfl⟩
 ·refine ⟨_,u64_wrap _,?_⟩;refine ⟨Int.natCast_nonneg _,_,u64_wrap _,?_⟩;refine ⟨_,u64_wrap _,?_⟩;cases h;exact ⟨rfl,rfl⟩
theorem prefix_first_ok {wl:Prop} {a0:Addr} {a1:Int} {r:Addr} (h:prefix_first a0 a1=some r):CallsOK (Wl wl) Tryz.prog 198 [AV.d (Addr.toD a0),AV.d (D.i a1)] [] (.d (Addr.toD r)) []:=by
 refine ok Tryz.f198 (by kernel_rfl) (by kernel_rfl) ⟨rfl,?_⟩;unfold prefix_first at h;obtain ⟨v1,g2,h⟩:=bind_inv h;refine ⟨_,_,some [],prefix_width_ok g2,?_⟩;refine ⟨_,rfl,?_⟩;obtain ⟨⟨v3,v4⟩,g5,h⟩:=bind_inv h;refine ⟨_,_,some [],prefix_masks_ok g5,?_⟩;refine ⟨_,u64_wrap _,?_⟩;refine ⟨_,u64_wrap _,?_⟩;cases h;exact ⟨rfl,rfl⟩
theorem prefix_Make_ok {wl:Prop} {a0:Addr} {a1:Int} {r:Prefix×Int} (h:prefix_Make a0 a1=some r):CallsOK (Wl wl) Tryz.prog 173 [AV.d (Addr.toD a0),AV.d (D.i a1)] [] (.tup [.d (Prefix.toD r.1),.d (D.i r.2)]) []:=by
 refine ok Tryz.f173 (by kernel_rfl) (by kernel_rfl) ⟨rfl,?_⟩;unfold prefix_Make at h;(conv=>whnf);refine .go ?_;obtain ⟨v1,g2,h⟩:=bind_inv h;refine ⟨_,_,some [],addr_Valid_ok g2,?_⟩;(conv=>whnf);refine .go ?_;revert h;refine sel_if ?_ ?_<;>intro h
 ·cases h;exact ⟨rfl,rfl⟩
 ·revert h;refine cut_join (fun v3=>⟨X::AV.d (D.i a1)::AV.ref 2 0::X::AV.ref 4 0::dd 6 (AV.d (D.b v3)::dd 14 ([])),N::N::some (OB.box (Addr.av a0))::N::some (OB.box Prefix.zv)::nn 21 ([])⟩) ?_ ?_
  ·intro k4 h;revert h;refine sel_if ?_ ?_<;>intro h
   ·exact join_end wk h
   ·obtain ⟨v5,g6,h⟩:=bind_inv h;refine ⟨_,_,some [],prefix_width_ok g6,?_⟩;exact join_end wk h
  ·rintro v3 h;(conv=>whnf);refine .go ?_;revert h;refine sel_if ?_ ?_<;>intro h
   ·cases h;exact ⟨rfl,rfl⟩
   ·obtain ⟨v7,g8,h⟩:=bind_inv h;refine ⟨_,_,some [],prefix_first_ok g8,?_⟩;cases h;exact ⟨rfl,rfl⟩
theorem update_prefixes_ok {wl:Prop} {a0:List UInt8} {a1:Bool} {r:(List Prefix)×Bool} (h:update_prefixes a0 a1=some r):CallsOK (Wl wl) Tryz.prog 134 [AV.d (D.l 1 D.u8 a0),AV.d (D.b a1)] [] (.tup [.d (D.l 4 Prefix.toD r.1),.d (D.b r.2)]) []:=by
 refine ok Tryz.f134 (by kernel_rfl) (by kernel_rfl) ⟨rfl,?_⟩;unfold update_prefixes at h;revert h;refine cut_join (fun v1=>⟨AV.d (D.l 1 D.u8 a0)::dd 5 (AV.d (D.i v1)::dd 58 ([])),nn 65 ([])⟩) ?_ ?_
 ·intro k2 h;revert h;refine sel_if ?_ ?_<;>intro h
  ·exact join_end wk h
  ·exact join_end wk h
 ·rintro v1 h;revert h;refine cut_join (fun v3=>⟨dd 7 (AV.own 7 (List.map Prefix.toD v3).length::dd 57 ([])),nn 7 (some (OB.row 73 4 (List.map Prefix.toD v3) .no)::nn 57 ([]))⟩) ?_ ?_
  ·intro k4 h;revert h;refine loop_while (fun (v5,v6)=>⟨AV.d (D.l 1 D.u8 v5)::dd 5 (AV.d (D.i v1)::AV.own 7 (List.map Prefix.toD v6).length::dd 57 ([])),nn 7 (some (OB.row 73 4 (List.map Prefix.toD v6) .no)::nn 57 ([]))⟩) ?_ ?_
   ·exact wk
   rintro next7 ⟨v5,v6⟩ K8 h hK9;refine ⟨v5.length,List.length_map _,?_⟩;(conv=>whnf);refine .go ?_;revert h;refine sel_if ?_ ?_<;>intro h
   ·(conv=>whnf);refine .go ?_;obtain ⟨v10,g11,h⟩:=bind_inv h;refine ⟨geti_b (f:=D.u8) g11,D.u8 v10,geti_d (f:=D.u8) g11,rfl,?_⟩;refine ⟨_,i64_of_u8 v10,?_⟩;refine ⟨_,rfl,?_⟩;refine ⟨by decide,_,rfl,?_⟩;revert h;refine cut_join (fun v12=>⟨AV.d (D.l 1 D.u8 v5)::dd 5 (AV.d (D.i v1)::AV.own 7 (List.map Prefix.toD v6).length::AV.d (D.i (v10.toNat:Int))::AV.d (D.i (i64w (Int.tdiv (i64w ((v10.toNat:Int) + 7)) 8)))::dd 25 (AV.d (D.b v12)::dd 29 ([]))),nn 7 (some (OB.row 73 4 (List.map Prefix.toD v6) .no)::nn 57 ([]))⟩) ?_ ?_
    ·intro k13 h;revert h;refine sel_if ?_ ?_<;>intro h
     ·exact join_end wk h
     ·refine ⟨v5.length,List.length_map _,?_⟩;refine ⟨_,rfl,?_⟩;exact join_end wk h
    ·rintro v12 h;(conv=>whnf);refine .go ?_;revert h;refine sel_if ?_ ?_<;>intro h
     ·(conv=>whnf);refine .inl ?_;refine ⟨rfl,?_⟩;cases h;exact ⟨rfl,rfl⟩
     ·refine ⟨by decide,_,rfl,?_⟩;obtain ⟨_,g14,h⟩:=bind_inv h;refine ⟨make_b g14 (Nat.le_of_ble_eq_true rfl),D.u8 (0:UInt8),rfl,(List.map D.u8 (List.replicate (Int.toNat (i64w (Int.tdiv v1 8))) (0:UInt8))),List.map_replicate.symm,?_⟩;refine ⟨_,rfl,?_⟩;obtain ⟨v15,g16,h⟩:=bind_inv h;refine ⟨part_b (f:=D.u8) g16,_,part_z (f:=D.u8) g16,?_⟩;refine ⟨rfl,List.map D.u8 (cpy (List.replicate (Int.toNat (i64w (Int.tdiv v1 8))) (0:UInt8)) 0 (List.replicate (Int.toNat (i64w (Int.tdiv v1 8))) (0:UInt8)).length v15),cpy_z0,(min v15.length (List.replicate (Int.toNat (i64w (Int.tdiv v1 8))) (0:UInt8)).length),cpy_n0,?_⟩;refine ⟨(by first | rfl | (simp only [List.length_map];omega) | (simp only [cpy,List.length_map,List.length_set,List.length_append,List.length_take,List.length_drop,List.length_replicate];omega)),?_⟩;obtain ⟨⟨v17,v18⟩,g19,h⟩:=bind_inv h;refine ⟨_,_,none,addr_FromBytes_ok g19,?_⟩;obtain ⟨⟨v20,v21⟩,g22,h⟩:=bind_inv h;refine ⟨_,_,some [],prefix_Make_ok g22,?_⟩;(conv=>whnf);refine .inl (dOB (by kernel_rfl) ?_);refine ⟨rfl,?_⟩;obtain ⟨v23,g24,h⟩:=bind_inv h;refine ⟨rfl,apnd_b (f:=Prefix.toD) (g:=Prefix.toD) g24,_,apnd_z (f:=Prefix.toD) g24,?_⟩;refine ⟨_,rfl,?_⟩;obtain ⟨v25,g26,h⟩:=bind_inv h;refine ⟨part_b0 (f:=D.u8) g26,_,part_z0 (f:=D.u8) g26,?_⟩;(conv=>whnf);refine cOB (by kernel_rfl) ?_;exact hK9 _ _ wk h
   ·exact join_end wk h
  ·rintro v3 h;(conv=>whnf);refine .inl ?_;refine ⟨rfl,?_⟩;cases h;exact ⟨rfl,rfl⟩
theorem bytes_HasPrefix_ok {wl:Prop} {a0:List UInt8} {a1:List UInt8} {r:Bool} (h:bytes_HasPrefix a0 a1=some r):CallsOK (Wl wl) Tryz.prog 195 [AV.d (D.l 1 D.u8 a0),AV.d (D.l 1 D.u8 a1)] [] (.d (D.b r)) []:=by
 refine ok Tryz.f195 (by kernel_rfl) (by kernel_rfl) ⟨rfl,?_⟩;unfold bytes_HasPrefix at h;revert h;refine cut_join (fun v1=>⟨dd 4 (AV.d (D.b v1)::dd 13 ([])),nn 18 ([])⟩) ?_ ?_
 ·intro k2 h;refine ⟨a0.length,List.length_map _,?_⟩;refine ⟨a1.length,List.length_map _,?_⟩;revert h;refine sel_if ?_ ?_<;>intro h
  ·refine ⟨a1.length,List.length_map _,?_⟩;obtain ⟨v3,g4,h⟩:=bind_inv h;refine ⟨part_b (f:=D.u8) g4,_,part_z (f:=D.u8) g4,?_⟩;obtain ⟨v5,g6,h⟩:=bind_inv h;refine ⟨_,_,some [],bytes_Equal_ok g6,?_⟩;exact join_end wk h
  ·exact join_end wk h
 ·rintro v1 h;cases h;exact ⟨rfl,rfl⟩
theorem bytes_CutPrefix_ok {wl:Prop} {a0:List UInt8} {a1:List UInt8} {r:(List UInt8)×Bool} (h:bytes_CutPrefix a0 a1=some r):CallsOK (Wl wl) Tryz.prog 171 [AV.d (D.l 1 D.u8 a0),AV.d (D.l 1 D.u8 a1)] [] (.tup [.d (D.l 1 D.u8 r.1),.d (D.b r.2)]) []:=by
 refine ok Tryz.f171 (by kernel_rfl) (by kernel_rfl) ⟨rfl,?_⟩;unfold bytes_CutPrefix at h;obtain ⟨v1,g2,h⟩:=bind_inv h;refine ⟨_,_,some [],bytes_HasPrefix_ok g2,?_⟩;(conv=>whnf);refine .go ?_;revert h;refine sel_if ?_ ?_<;>intro h
 ·cases h;exact ⟨rfl,rfl⟩
 ·refine ⟨a1.length,List.length_map _,?_⟩;obtain ⟨v3,g4,h⟩:=bind_inv h;refine ⟨part_b0 (f:=D.u8) g4,_,part_z0 (f:=D.u8) g4,?_⟩;cases h;exact ⟨rfl,rfl⟩
theorem update_parts_special_ok {wl:Prop} {a0:update_parts} {r:Bool×update_parts} (h:update_parts_special a0=some r):CallsOK (Wl wl) Tryz.prog 133 [.ref 0 0] [.box (update_parts.av a0)] (.d (D.b r.1)) [.box (update_parts.av r.2)]:=by
 refine ok Tryz.f133 (by kernel_rfl) (by kernel_rfl) ⟨rfl,?_⟩;unfold update_parts_special at h;refine ⟨a0.attrs.length,List.length_map _,?_⟩;revert h;refine cut_join (fun (v1,v2)=>⟨X::X::X::AV.mp 10::dd 91 ([]),some (OB.box (update_parts.av v1))::nn 9 (some (OB.map 3 3 (entsD D.i D.i v2))::nn 85 ([]))⟩) ?_ ?_
 ·intro k3 h;revert h;refine loop_for 13 3 Unknown.toD rfl (fun i4 (v5,v6)=>⟨AV.ref 0 0::X::X::AV.mp 10::dd 9 (AV.d (D.l 3 Unknown.toD a0.attrs)::AV.d (D.i (a0.attrs.length:Int))::AV.d (D.i (i4:Int))::dd 79 ([])),some (OB.box (update_parts.av v5))::nn 9 (some (OB.map 3 3 (entsD D.i D.i v6))::nn 85 ([]))⟩) ?_ ?_ ?_
  ·exact wk
  ·rintro ⟨v5,v6⟩ K7 h;(conv=>whnf);refine .go ?_;(conv=>whnf);refine sel_f lt_f ?_;exact join_end wk h
  ·rintro next8 i4 x9 ⟨v5,v6⟩ K7 hii4 hxi4 hwi4 h hK10;(conv=>whnf);refine .go ?_;(conv=>whnf);refine sel_t (lt_t hii4) ?_;(conv=>whnf);refine .go ?_;refine ⟨idx_b (f:=Unknown.toD) hii4,Unknown.toD x9,hxi4,rfl,?_⟩;obtain ⟨v11,g12,h⟩:=bind_inv h;refine ⟨_,mapGet_ok (ek:=D.i) (ev:=D.i) (l:=v6) (k:=x9.Type_) keyEq_i,D.i v11,mget_dg (z:=0) rfl g12,_,rfl,?_⟩;refine ⟨_,rfl,?_⟩;refine ⟨_,mapSet_ok (ek:=D.i) (ev:=D.i) (l:=v6) (k:=x9.Type_) (v:=(i64w (v11 + 1))) keyEq_i,?_⟩;refine ⟨rfl,?_⟩;obtain ⟨⟨v13,v14⟩,g15,h⟩:=bind_inv h;refine ⟨_,_,some [],bytes_CutPrefix_ok g15,?_⟩;(conv=>whnf);refine .go ?_;revert h;refine cut_join (fun (v16,v17)=>⟨AV.ref 0 0::X::X::AV.mp 10::dd 4 (AV.d (D.b v16)::dd 4 (AV.d (D.l 3 Unknown.toD a0.attrs)::AV.d (D.i (a0.attrs.length:Int))::AV.d (D.i (i4:Int))::dd 79 ([]))),some (OB.box (update_parts.av v17))::nn 9 (some (OB.map 3 3 (entsD D.i D.i (mset v6 x9.Type_ (i64w (v11 + 1)))))::nn 85 ([]))⟩) ?_ ?_
   ·intro k18 h;revert h;refine sel_if ?_ ?_<;>intro h
    ·revert h;refine cut_join (fun v19=>⟨AV.ref 0 0::X::X::AV.mp 10::X::X::AV.d (D.l 1 D.u8 v13)::dd 6 (AV.d (D.l 3 Unknown.toD a0.attrs)::AV.d (D.i (a0.attrs.length:Int))::AV.d (D.i (i4:Int))::dd 38 (AV.d (D.b v19)::dd 40 ([]))),some (OB.box (update_parts.av v5))::nn 9 (some (OB.map 3 3 (entsD D.i D.i (mset v6 x9.Type_ (i64w (v11 + 1)))))::nn 85 ([]))⟩) ?_ ?_
     ·intro k20 h;revert h;refine sel_if ?_ ?_<;>intro h
      ·exact join_end wk h
      ·refine ⟨v13.length,List.length_map _,?_⟩;revert h;refine sel_if ?_ ?_<;>intro h
       ·exact join_end wk h
       ·obtain ⟨v21,g22,h⟩:=bind_inv h;refine ⟨geti_b (f:=D.u8) g22,D.u8 v21,geti_d (f:=D.u8) g22,rfl,?_⟩;revert h;refine sel_if ?_ ?_<;>intro h
        ·exact join_end wk h
        ·obtain ⟨v23,g24,h⟩:=bind_inv h;refine ⟨geti_b (f:=D.u8) g24,D.u8 v23,geti_d (f:=D.u8) g24,rfl,?_⟩;exact join_end wk h
     ·rintro v19 h;(conv=>whnf);refine .go ?_;revert h;refine sel_if ?_ ?_<;>intro h
      ·cases h;exact ⟨rfl,rfl⟩
      ·obtain ⟨v25,g26,h⟩:=bind_inv h;refine ⟨part_b (f:=D.u8) g26,_,part_z (f:=D.u8) g26,?_⟩;obtain ⟨⟨v27,v28⟩,g29,h⟩:=bind_inv h;refine ⟨_,_,some [],addr_FromBytes_ok g29,?_⟩;obtain ⟨v30,g31,h⟩:=bind_inv h;refine ⟨part_b0 (f:=D.u8) g31,_,part_z0 (f:=D.u8) g31,?_⟩;obtain ⟨⟨v32,v33⟩,g34,h⟩:=bind_inv h;refine ⟨_,_,some [],update_prefixes_ok g34,?_⟩;exact join_end wk h
    ·revert h;refine cut_join (fun (v35,v36)=>⟨AV.ref 0 0::X::X::AV.mp 10::dd 4 (AV.d (D.b v35)::dd 4 (AV.d (D.l 3 Unknown.toD a0.attrs)::AV.d (D.i (a0.attrs.length:Int))::AV.d (D.i (i4:Int))::dd 79 ([]))),some (OB.box [AV.d (D.l 3 Unknown.toD v5.attrs),AV.d (D.b v5.next.V6),AV.d (D.u64 v5.next.Hi),AV.d (D.u64 v5.next.Lo),AV.d (D.l 4 Prefix.toD v5.gone4),AV.d (D.l 4 Prefix.toD v36),AV.d (D.l 4 Prefix.toD v5.new4),AV.d (D.l 4 Prefix.toD v5.new6)])::nn 9 (some (OB.map 3 3 (entsD D.i D.i (mset v6 x9.Type_ (i64w (v11 + 1)))))::nn 85 ([]))⟩) ?_ ?_
     ·intro k37 h;revert h;refine sel_if ?_ ?_<;>intro h
      ·revert h;refine cut_join (fun (v38,v39)=>⟨AV.ref 0 0::X::X::AV.mp 10::dd 4 (AV.d (D.b v38)::dd 4 (AV.d (D.l 3 Unknown.toD a0.attrs)::AV.d (D.i (a0.attrs.length:Int))::AV.d (D.i (i4:Int))::dd 79 ([]))),some (OB.box [AV.d (D.l 3 Unknown.toD v5.attrs),AV.d (D.b v5.next.V6),AV.d (D.u64 v5.next.Hi),AV.d (D.u64 v5.next.Lo),AV.d (D.l 4 Prefix.toD v5.gone4),AV.d (D.l 4 Prefix.toD v39),AV.d (D.l 4 Prefix.toD v5.new4),AV.d (D.l 4 Prefix.toD v5.new6)])::nn 9 (some (OB.map 3 3 (entsD D.i D.i (mset v6 x9.Type_ (i64w (v11 + 1)))))::nn 85 ([]))⟩) ?_ ?_
       ·intro k40 h;revert h;refine sel_if ?_ ?_<;>intro h
        ·obtain ⟨⟨v41,v42⟩,g43,h⟩:=bind_inv h;refine ⟨_,_,some [],update_prefixes_ok g43,?_⟩;exact join_end wk h
        ·exact join_end wk h
       ·rintro ⟨v38,v39⟩ h;exact join_end wk h
      ·exact join_end wk h
     ·rintro ⟨v35,v36⟩ h;exact join_end wk h
   ·rintro ⟨v16,v17⟩ h;(conv=>whnf);refine .go ?_;revert h;refine sel_if ?_ ?_<;>intro h
    ·cases h;exact ⟨rfl,rfl⟩
    ·refine ⟨_,hwi4,?_⟩;exact hK10 _ _ wk h
 ·rintro ⟨v1,v2⟩ h;revert h;refine cut_join (fun v44=>⟨X::X::AV.d (D.b v44)::dd 92 ([]),some (OB.box (update_parts.av v1))::nn 95 ([])⟩) ?_ ?_
  ·intro k45 h;obtain ⟨v46,g47,h⟩:=bind_inv h;refine ⟨_,mapGet_ok (ek:=D.i) (ev:=D.i) (l:=v2) (k:=14) keyEq_i,D.i v46,mget_dg (z:=0) rfl g47,_,rfl,?_⟩;revert h;refine sel_if ?_ ?_<;>intro h
   ·obtain ⟨v48,g49,h⟩:=bind_inv h;refine ⟨_,mapGet_ok (ek:=D.i) (ev:=D.i) (l:=v2) (k:=15) keyEq_i,D.i v48,mget_dg (z:=0) rfl g49,_,rfl,?_⟩;exact join_end wk h
   ·exact join_end wk h
  ·rintro v44 h;cases h;exact ⟨rfl,rfl⟩
theorem update_parts_read_ok {wl:Prop} {a0:update_parts} {a1:List UInt8} {r:Bool×update_parts} (h:update_parts_read a0 a1=some r):CallsOK (Wl wl) Tryz.prog 96 [.ref 0 0,AV.d (D.l 1 D.u8 a1)] [.box (update_parts.av a0)] (.d (D.b r.1)) [.box (update_parts.av r.2)]:=by
 refine ok Tryz.f96 (by kernel_rfl) (by kernel_rfl) ⟨rfl,?_⟩;unfold update_parts_read at h;obtain ⟨⟨v1,v2,v3⟩,g4,h⟩:=bind_inv h;refine ⟨_,_,some [],update_cut_ok g4,?_⟩;(conv=>whnf);refine .go ?_;revert h;refine sel_if ?_ ?_<;>intro h
 ·cases h;exact ⟨rfl,rfl⟩
 ·obtain ⟨⟨v5,v6,v7⟩,g8,h⟩:=bind_inv h;refine ⟨_,_,some [],update_cut_ok g8,?_⟩;(conv=>whnf);refine .go ?_;revert h;refine sel_if ?_ ?_<;>intro h
  ·cases h;exact ⟨rfl,rfl⟩
  ·obtain ⟨⟨v9,v10⟩,g11,h⟩:=bind_inv h;refine ⟨_,_,some [],attribute_Split_ok g11,?_⟩;revert h;refine cut_join (fun (v12,v13)=>⟨AV.ref 0 0::AV.d (D.l 1 D.u8 v6)::X::X::X::AV.d (D.l 1 D.u8 v1)::dd 34 (AV.d (D.b v12)::dd 76 ([])),some (OB.box (update_parts.av v13))::nn 117 ([])⟩) ?_ ?_
   ·intro k14 h;revert h;refine sel_if ?_ ?_<;>intro h
    ·exact join_end wk h
    ·obtain ⟨⟨v15,v16⟩,g17,h⟩:=bind_inv h;refine ⟨_,_,some [],update_parts_special_ok g17,?_⟩;exact join_end wk h
   ·rintro ⟨v12,v13⟩ h;(conv=>whnf);refine .go ?_;revert h;refine sel_if ?_ ?_<;>intro h
    ·cases h;exact ⟨rfl,rfl⟩
    ·obtain ⟨⟨v18,v19⟩,g20,h⟩:=bind_inv h;refine ⟨_,_,some [],update_prefixes_ok g20,?_⟩;obtain ⟨⟨v21,v22⟩,g23,h⟩:=bind_inv h;refine ⟨_,_,some [],update_prefixes_ok g23,?_⟩;revert h;refine cut_join (fun v24=>⟨AV.ref 0 0::dd 105 (AV.d (D.b v24)::dd 10 ([])),some (OB.box [AV.d (D.l 3 Unknown.toD v13.attrs),AV.d (D.b v13.next.V6),AV.d (D.u64 v13.next.Hi),AV.d (D.u64 v13.next.Lo),AV.d (D.l 4 Prefix.toD v18),AV.d (D.l 4 Prefix.toD v13.gone6),AV.d (D.l 4 Prefix.toD v21),AV.d (D.l 4 Prefix.toD v13.new6)])::nn 117 ([])⟩) ?_ ?_
     ·intro k25 h;(conv=>whnf);refine .inl (dOB (by kernel_rfl) ?_);revert h;refine sel_if ?_ ?_<;>intro h
      ·(conv=>whnf);refine cOB (by kernel_rfl) ?_;exact join_end wk h
      ·revert h;refine sel_if ?_ ?_<;>intro h
       ·(conv=>whnf);refine cOB (by kernel_rfl) ?_;exact join_end wk h
       ·refine ⟨v21.length,List.length_map _,?_⟩;revert h;refine sel_if ?_ ?_<;>intro h
        ·refine ⟨v13.new6.length,List.length_map _,?_⟩;revert h;refine sel_if ?_ ?_<;>intro h
         ·(conv=>whnf);refine cOB (by kernel_rfl) ?_;exact join_end wk h
         ·refine ⟨v18.length,List.length_map _,?_⟩;refine ⟨v13.gone6.length,List.length_map _,?_⟩;refine ⟨_,rfl,?_⟩;revert h;refine sel_if ?_ ?_<;>intro h
          ·(conv=>whnf);refine cOB (by kernel_rfl) ?_;exact join_end wk h
          ·refine ⟨v21.length,List.length_map _,?_⟩;refine ⟨v13.new6.length,List.length_map _,?_⟩;refine ⟨_,rfl,?_⟩;(conv=>whnf);refine cOB (by kernel_rfl) ?_;exact join_end wk h
        ·refine ⟨v18.length,List.length_map _,?_⟩;refine ⟨v13.gone6.length,List.length_map _,?_⟩;refine ⟨_,rfl,?_⟩;revert h;refine sel_if ?_ ?_<;>intro h
         ·(conv=>whnf);refine cOB (by kernel_rfl) ?_;exact join_end wk h
         ·refine ⟨v21.length,List.length_map _,?_⟩;refine ⟨v13.new6.length,List.length_map _,?_⟩;refine ⟨_,rfl,?_⟩;(conv=>whnf);refine cOB (by kernel_rfl) ?_;exact join_end wk h
     ·rintro v24 h;(conv=>whnf);refine .go ?_;revert h;refine sel_if ?_ ?_<;>intro h
      ·cases h;exact ⟨rfl,rfl⟩
      ·obtain ⟨⟨v26,v27⟩,g28,h⟩:=bind_inv h;refine ⟨_,_,some [],attribute_Read_ok g28,?_⟩;cases h;exact ⟨rfl,rfl⟩
theorem update_parts_there_1_ok {wl:Prop} {a0:Unknown} {a1:Int} {r:Bool×Int} (h:update_parts_there_1 a0 a1=some r):CallsOK (Wl wl) Tryz.prog 136 [AV.d (Unknown.toD a0),.ref 0 0] [.box [.d (D.i a1)]] (.d (D.b r.1)) [.box [.d (D.i r.2)]]:=by
 refine ok Tryz.f136 (by kernel_rfl) (by kernel_rfl) ⟨rfl,?_⟩;unfold update_parts_there_1 at h;cases h;exact ⟨rfl,rfl⟩
theorem slices_IndexFunc_api_Unknown_api_Unknown__update_parts_there_1_ok {wl:Prop} {a0:List Unknown} {a1c0:Int} {r:Int×Int} (h:slices_IndexFunc_api_Unknown_api_Unknown__update_parts_there_1 a0 a1c0=some r):CallsOK (Wl wl) Tryz.prog 174 [AV.d (D.l 3 Unknown.toD a0),AV.fn 136 [.ref 0 0]] [.box [.d (D.i a1c0)]] (.d (D.i r.1)) [.box [.d (D.i r.2)]]:=by
 refine ok Tryz.f174 (by kernel_rfl) (by kernel_rfl) ⟨rfl,?_⟩;unfold slices_IndexFunc_api_Unknown_api_Unknown__update_parts_there_1 at h;refine ⟨a0.length,List.length_map _,?_⟩;revert h;refine cut_join (fun v1=>⟨dd 19 ([]),some (OB.box [AV.d (D.i v1)])::nn 19 ([])⟩) ?_ ?_
 ·intro k2 h;revert h;refine loop_for 6 3 Unknown.toD rfl (fun i3 v4=>⟨AV.d (D.l 3 Unknown.toD a0)::AV.fn 136 [AV.ref 0 0]::dd 4 (AV.d (D.l 3 Unknown.toD a0)::AV.d (D.i (a0.length:Int))::AV.d (D.i (i3:Int))::dd 10 ([])),some (OB.box [AV.d (D.i v4)])::nn 19 ([])⟩) ?_ ?_ ?_
  ·exact wk
  ·rintro v4 K5 h;(conv=>whnf);refine .go ?_;(conv=>whnf);refine sel_f lt_f ?_;exact join_end wk h
  ·rintro next6 i3 x7 v4 K5 hii3 hxi3 hwi3 h hK8;(conv=>whnf);refine .go ?_;(conv=>whnf);refine sel_t (lt_t hii3) ?_;(conv=>whnf);refine .go ?_;refine ⟨idx_b (f:=Unknown.toD) hii3,Unknown.toD x7,hxi3,rfl,?_⟩;obtain ⟨⟨v9,v10⟩,g11,h⟩:=bind_inv h;refine ⟨_,_,some [],update_parts_there_1_ok g11,?_⟩;(conv=>whnf);refine .go ?_;revert h;refine sel_if ?_ ?_<;>intro h
   ·cases h;exact ⟨rfl,rfl⟩
   ·refine ⟨_,hwi3,?_⟩;exact hK8 _ _ wk h
 ·rintro v1 h;cases h;exact ⟨rfl,rfl⟩
theorem slices_ContainsFunc_api_Unknown_api_Unknown__update_parts_there_1_ok {wl:Prop} {a0:List Unknown} {a1c0:Int} {r:Bool×Int} (h:slices_ContainsFunc_api_Unknown_api_Unknown__update_parts_there_1 a0 a1c0=some r):CallsOK (Wl wl) Tryz.prog 135 [AV.d (D.l 3 Unknown.toD a0),AV.fn 136 [.ref 0 0]] [.box [.d (D.i a1c0)]] (.d (D.b r.1)) [.box [.d (D.i r.2)]]:=by
 refine ok Tryz.f135 (by kernel_rfl) (by kernel_rfl) ⟨rfl,?_⟩;unfold slices_ContainsFunc_api_Unknown_api_Unknown__update_parts_there_1 at h;obtain ⟨⟨v1,v2⟩,g3,h⟩:=bind_inv h;refine ⟨_,_,some [],slices_IndexFunc_api_Unknown_api_Unknown__update_parts_there_1_ok g3,?_⟩;cases h;exact ⟨rfl,rfl⟩
theorem update_parts_there_ok {wl:Prop} {a0:update_parts} {a1:Int} {r:Bool×update_parts} (h:update_parts_there a0 a1=some r):CallsOK (Wl wl) Tryz.prog 98 [.ref 0 0,AV.d (D.i a1)] [.box (update_parts.av a0)] (.d (D.b r.1)) [.box (update_parts.av r.2)]:=by
 refine ok Tryz.f98 (by kernel_rfl) (by kernel_rfl) ⟨rfl,?_⟩;unfold update_parts_there at h;obtain ⟨⟨v1,v2⟩,g3,h⟩:=bind_inv h;refine ⟨_,_,some [],slices_ContainsFunc_api_Unknown_api_Unknown__update_parts_there_1_ok g3,?_⟩;cases h;exact ⟨rfl,rfl⟩
theorem update_Ends_ok {wl:Prop} {a0:List UInt8} {r:Bool×Bool} (h:update_Ends a0=some r):CallsOK (Wl wl) Tryz.prog 56 [AV.d (D.l 1 D.u8 a0)] [] (.tup [.d (D.b r.1),.d (D.b r.2)]) []:=by
 refine ok Tryz.f56 (by kernel_rfl) (by kernel_rfl) ⟨rfl,?_⟩;unfold update_Ends at h;obtain ⟨_,g1,h⟩:=bind_inv h;refine ⟨make_b g1 (Nat.le_of_ble_eq_true rfl),D.u8 (0:UInt8),rfl,(List.map D.u8 (List.replicate (Int.toNat 4) (0:UInt8))),List.map_replicate.symm,?_⟩;refine ⟨rfl,?_⟩;obtain ⟨v2,g3,h⟩:=bind_inv h;refine ⟨_,_,none,bytes_Equal_ok g3,?_⟩;(conv=>whnf);refine .go ?_;revert h;refine sel_if ?_ ?_<;>intro h
 ·cases h;exact ⟨rfl,rfl⟩
 ·revert h;refine cut_join (fun v4=>⟨dd 48 (AV.d (D.b v4)::[]),nn 49 ([])⟩) ?_ ?_
  ·intro k5 h;obtain ⟨⟨v6,v7⟩,g8,h⟩:=bind_inv h;refine ⟨_,_,some [],(update_parts_read_ok g8).box1 ⟨.inr ⟨_,rfl,rfl⟩,.inl rfl,.inl rfl,.inl rfl,.inr ⟨_,rfl,rfl⟩,.inr ⟨_,rfl,rfl⟩,.inr ⟨_,rfl,rfl⟩,.inr ⟨_,rfl,rfl⟩,True.intro⟩,?_⟩;revert h;refine sel_if ?_ ?_<;>intro h
   ·exact join_end wk h
   ·refine ⟨a0.length,List.length_map _,?_⟩;obtain ⟨v9,g10,h⟩:=bind_inv h;refine ⟨part_b0 (f:=D.u8) g10,_,part_z0 (f:=D.u8) g10,?_⟩;obtain ⟨v11,g12,h⟩:=bind_inv h;refine ⟨_,_,some [],update_get_ok g12,?_⟩;refine ⟨_,rfl,?_⟩;revert h;refine sel_if ?_ ?_<;>intro h
    ·exact join_end wk h
    ·refine ⟨v7.attrs.length,List.length_map _,?_⟩;revert h;refine sel_if ?_ ?_<;>intro h
     ·exact join_end wk h
     ·obtain ⟨⟨v13,v14⟩,g15,h⟩:=bind_inv h;refine ⟨_,_,some [],update_parts_there_ok g15,?_⟩;revert h;refine sel_if ?_ ?_<;>intro h
      ·exact join_end wk h
      ·obtain ⟨v16,g17,h⟩:=bind_inv h;refine ⟨_,_,some [],update_get_ok g17,?_⟩;revert h;refine sel_if ?_ ?_<;>intro h
       ·exact join_end wk h
       ·refine ⟨v14.gone6.length,List.length_map _,?_⟩;exact join_end wk h
  ·rintro v4 h;(conv=>whnf);refine .go ?_;revert h;refine sel_if ?_ ?_<;>intro h
   ·cases h;exact ⟨rfl,rfl⟩
   ·cases h;exact ⟨rfl,rfl⟩
end Go.AX.Q33
end
section
namespace Go.AX.Q33
open Go Go.AX Go.Proofs
set_option maxRecDepth 100000
set_option maxHeartbeats 4000000
set_option linter.unusedVariables false
theorem slices_Concat_api_Prefix_api_Prefix_ok {wl:Prop} {a0:List (List Prefix)} {r:(List Prefix)} (h:slices_Concat_api_Prefix_api_Prefix a0=some r):CallsOK (Wl wl) Tryz.prog 99 [AV.d (D.l 1 (D.l 4 Prefix.toD) a0)] [] (AV.own 0 (List.map Prefix.toD r).length) [.row 73 4 (List.map Prefix.toD r) .no]:=by
 refine okx 27 Tryz.f99 (by kernel_rfl) (by kernel_rfl) ⟨rfl,?_⟩;unfold slices_Concat_api_Prefix_api_Prefix at h;refine ⟨a0.length,List.length_map _,?_⟩;revert h;refine cut_join (fun v1=>⟨AV.d (D.l 1 (D.l 4 Prefix.toD) a0)::X::X::AV.d (D.i v1)::dd 32 ([]),nn 63 ([])⟩) ?_ ?_
 ·intro k2 h;revert h;refine loop_for 9 1 (D.l 4 Prefix.toD) rfl (fun i3 v4=>⟨AV.d (D.l 1 (D.l 4 Prefix.toD) a0)::X::X::AV.d (D.i v4)::dd 5 (AV.d (D.l 1 (D.l 4 Prefix.toD) a0)::AV.d (D.i (a0.length:Int))::AV.d (D.i (i3:Int))::dd 24 ([])),nn 63 ([])⟩) ?_ ?_ ?_
  ·exact wk
  ·rintro v4 K5 h;(conv=>whnf);refine .go ?_;(conv=>whnf);refine sel_f lt_f ?_;exact join_end wk h
  ·rintro next6 i3 x7 v4 K5 hii3 hxi3 hwi3 h hK8;(conv=>whnf);refine .go ?_;(conv=>whnf);refine sel_t (lt_t hii3) ?_;(conv=>whnf);refine .go ?_;refine ⟨idx_b (f:=(D.l 4 Prefix.toD)) hii3,(D.l 4 Prefix.toD) x7,hxi3,rfl,?_⟩;refine ⟨x7.length,List.length_map _,?_⟩;refine ⟨_,rfl,?_⟩;(conv=>whnf);refine .go ?_;revert h;refine sel_if ?_ ?_<;>intro h
   ·exact nomatch h
   ·refine ⟨_,hwi3,?_⟩;exact hK8 _ _ wk h
 ·rintro v1 h;revert h;refine cut_join (fun v9=>⟨AV.d (D.l 1 (D.l 4 Prefix.toD) a0)::dd 23 (AV.own 35 (List.map Prefix.toD v9).length::dd 11 ([])),nn 35 (some (OB.row 73 4 (List.map Prefix.toD v9) .no)::nn 27 ([]))⟩) ?_ ?_
  ·intro k10 h;(conv=>whnf);refine inl Tryz.f137 36 (by kernel_rfl) (by kernel_rfl) ⟨rfl,?_⟩;(conv=>whnf);refine .go ?_;revert h;refine sel_if ?_ ?_<;>intro h
   ·exact nomatch h
   ·refine ⟨_,rfl,?_⟩;refine ⟨_,rfl,?_⟩;revert h;refine cut_join (fun v11=>⟨AV.own 61 (List.map Prefix.toD v11).length::dd 26 ([]),nn 61 (some (OB.row 73 4 (List.map Prefix.toD v11) .no)::N::[])⟩) ?_ ?_
    ·intro k12 h;revert h;refine sel_if ?_ ?_<;>intro h
     ·(conv=>whnf);refine .inr ?_;refine ⟨⟨rfl,rfl⟩,?_⟩;obtain ⟨_,g13,h⟩:=bind_inv h;refine ⟨zap_b g13 (Nat.le_of_ble_eq_true rfl),Prefix.toD (⟨(⟨false,(0:UInt64),(0:UInt64)⟩:Addr),0⟩:Prefix),rfl,(List.map Prefix.toD (List.replicate (Int.toNat (i64w (v1 - (i64w (0 - 0))))) (⟨(⟨false,(0:UInt64),(0:UInt64)⟩:Addr),0⟩:Prefix))),List.map_replicate.symm,?_⟩;(conv=>whnf);refine .inr (.inr ?_);obtain ⟨v14,g15,h⟩:=bind_inv h;refine ⟨move_b (f:=Prefix.toD) g15,rfl,_,part_z (f:=Prefix.toD) g15,?_⟩;exact join_end wk h
     ·exact join_end wk h
    ·rintro v11 h;exact join_end (.swap 61 35 rfl rfl rfl wk) h
  ·rintro v9 h;refine ⟨a0.length,List.length_map _,?_⟩;revert h;refine cut_join (fun v16=>⟨dd 6 (AV.own 35 (List.map Prefix.toD v16).length::dd 29 ([])),nn 35 (some (OB.row 73 4 (List.map Prefix.toD v16) .no)::nn 27 ([]))⟩) ?_ ?_
   ·intro k17 h;revert h;refine loop_for 25 1 (D.l 4 Prefix.toD) rfl (fun i18 v19=>⟨dd 6 (AV.own 35 (List.map Prefix.toD v19).length::dd 18 (AV.d (D.l 1 (D.l 4 Prefix.toD) a0)::AV.d (D.i (a0.length:Int))::AV.d (D.i (i18:Int))::dd 8 ([]))),nn 35 (some (OB.row 73 4 (List.map Prefix.toD v19) .no)::nn 27 ([]))⟩) ?_ ?_ ?_
    ·exact wk
    ·rintro v19 K20 h;(conv=>whnf);refine .go ?_;(conv=>whnf);refine sel_f lt_f ?_;exact join_end wk h
    ·rintro next21 i18 x22 v19 K20 hii18 hxi18 hwi18 h hK23;(conv=>whnf);refine .go ?_;(conv=>whnf);refine sel_t (lt_t hii18) ?_;(conv=>whnf);refine .go ?_;refine ⟨idx_b (f:=(D.l 4 Prefix.toD)) hii18,(D.l 4 Prefix.toD) x22,hxi18,rfl,?_⟩;obtain ⟨v24,g25,h⟩:=bind_inv h;refine ⟨rfl,apnd_b (f:=Prefix.toD) (g:=Prefix.toD) g25,_,apnd_z (f:=Prefix.toD) g25,?_⟩;refine ⟨_,hwi18,?_⟩;exact hK23 _ _ wk h
   ·rintro v16 h;(conv=>whnf);refine .inl ?_;(conv=>whnf);refine .inr ?_;cases h;exact ⟨rfl,rfl⟩
theorem update_parts_faulty_1_ok {wl:Prop} {a0:Unknown} {r:Bool} (h:update_parts_faulty_1 a0=some r):CallsOK (Wl wl) Tryz.prog 147 [AV.d (Unknown.toD a0)] [] (.d (D.b r)) []:=by
 refine ok Tryz.f147 (by kernel_rfl) (by kernel_rfl) ⟨rfl,?_⟩;unfold update_parts_faulty_1 at h;revert h;refine cut_join (fun v1=>⟨X::X::AV.d (D.b v1)::dd 14 ([]),nn 17 ([])⟩) ?_ ?_
 ·intro k2 h;revert h;refine sel_if ?_ ?_<;>intro h
  ·refine ⟨_,rfl,?_⟩;exact join_end wk h
  ·revert h;refine sel_if ?_ ?_<;>intro h
   ·refine ⟨_,rfl,?_⟩;exact join_end wk h
   ·exact join_end wk h
 ·rintro v1 h;cases h;exact ⟨rfl,rfl⟩
theorem slices_IndexFunc_api_Unknown_api_Unknown__update_parts_faulty_1_ok {wl:Prop} {a0:List Unknown} {r:Int} (h:slices_IndexFunc_api_Unknown_api_Unknown__update_parts_faulty_1 a0=some r):CallsOK (Wl wl) Tryz.prog 174 [AV.d (D.l 3 Unknown.toD a0),AV.fn 147 []] [] (.d (D.i r)) []:=by
 refine ok Tryz.f174 (by kernel_rfl) (by kernel_rfl) ⟨rfl,?_⟩;unfold slices_IndexFunc_api_Unknown_api_Unknown__update_parts_faulty_1 at h;refine ⟨a0.length,List.length_map _,?_⟩;revert h;refine cut_join (fun _=>⟨dd 19 ([]),nn 19 ([])⟩) ?_ ?_
 ·intro k1 h;revert h;refine loop_for 6 3 Unknown.toD rfl (fun i2 _=>⟨AV.d (D.l 3 Unknown.toD a0)::AV.fn 147 []::dd 4 (AV.d (D.l 3 Unknown.toD a0)::AV.d (D.i (a0.length:Int))::AV.d (D.i (i2:Int))::dd 10 ([])),nn 19 ([])⟩) ?_ ?_ ?_
  ·exact wk
  ·rintro _ K3 h;(conv=>whnf);refine .go ?_;(conv=>whnf);refine sel_f lt_f ?_;exact join_end wk h
  ·rintro next4 i2 x5 _ K3 hii2 hxi2 hwi2 h hK6;(conv=>whnf);refine .go ?_;(conv=>whnf);refine sel_t (lt_t hii2) ?_;(conv=>whnf);refine .go ?_;refine ⟨idx_b (f:=Unknown.toD) hii2,Unknown.toD x5,hxi2,rfl,?_⟩;obtain ⟨v7,g8,h⟩:=bind_inv h;refine ⟨_,_,some [],update_parts_faulty_1_ok g8,?_⟩;(conv=>whnf);refine .go ?_;revert h;refine sel_if ?_ ?_<;>intro h
   ·cases h;exact ⟨rfl,rfl⟩
   ·refine ⟨_,hwi2,?_⟩;exact hK6 _ _ wk h
 ·rintro _ h;cases h;exact ⟨rfl,rfl⟩
theorem slices_ContainsFunc_api_Unknown_api_Unknown__update_parts_faulty_1_ok {wl:Prop} {a0:List Unknown} {r:Bool} (h:slices_ContainsFunc_api_Unknown_api_Unknown__update_parts_faulty_1 a0=some r):CallsOK (Wl wl) Tryz.prog 135 [AV.d (D.l 3 Unknown.toD a0),AV.fn 147 []] [] (.d (D.b r)) []:=by
 refine ok Tryz.f135 (by kernel_rfl) (by kernel_rfl) ⟨rfl,?_⟩;unfold slices_ContainsFunc_api_Unknown_api_Unknown__update_parts_faulty_1 at h;obtain ⟨v1,g2,h⟩:=bind_inv h;refine ⟨_,_,some [],slices_IndexFunc_api_Unknown_api_Unknown__update_parts_faulty_1_ok g2,?_⟩;cases h;exact ⟨rfl,rfl⟩
theorem update_parts_faulty_ok {wl:Prop} {a0:update_parts} {a1:Attrs} {a2:Int} {r:Bool×update_parts} (h:update_parts_faulty a0 a1 a2=some r):CallsOK (Wl wl) Tryz.prog 102 [.ref 0 0,AV.d (Attrs.toD a1),AV.d (D.i a2)] [.box (update_parts.av a0)] (.d (D.b r.1)) [.box (update_parts.av r.2)]:=by
 refine ok Tryz.f102 (by kernel_rfl) (by kernel_rfl) ⟨rfl,?_⟩;unfold update_parts_faulty at h;revert h;refine cut_join (fun (v1,v2)=>⟨dd 6 (AV.d (D.b v1)::dd 35 ([])),some (OB.box (update_parts.av v2))::nn 42 ([])⟩) ?_ ?_
 ·intro k3 h;revert h;refine sel_if ?_ ?_<;>intro h
  ·exact join_end wk h
  ·obtain ⟨v4,g5,h⟩:=bind_inv h;refine ⟨_,_,some [],slices_ContainsFunc_api_Unknown_api_Unknown__update_parts_faulty_1_ok g5,?_⟩;revert h;refine sel_if ?_ ?_<;>intro h
   ·exact join_end wk h
   ·obtain ⟨⟨v6,v7⟩,g8,h⟩:=bind_inv h;refine ⟨_,_,some [],update_parts_there_ok g8,?_⟩;revert h;refine sel_if ?_ ?_<;>intro h
    ·exact join_end wk h
    ·obtain ⟨⟨v9,v10⟩,g11,h⟩:=bind_inv h;refine ⟨_,_,some [],update_parts_there_ok g11,?_⟩;revert h;refine sel_if ?_ ?_<;>intro h
     ·exact join_end wk h
     ·refine ⟨v10.new4.length,List.length_map _,?_⟩;revert h;refine sel_if ?_ ?_<;>intro h
      ·exact join_end wk h
      ·exact join_end wk h
 ·rintro ⟨v1,v2⟩ h;cases h;exact ⟨rfl,rfl⟩
theorem update_Decode_ok {wl:Prop} {a0:List UInt8} {r:Update×Int} (h:update_Decode a0=some r):CallsOK (Wl wl) Tryz.prog 57 [AV.d (D.l 1 D.u8 a0)] [] (.tup [.d (Update.toD r.1),.d (D.i r.2)]) []:=by
 refine ok Tryz.f57 (by kernel_rfl) (by kernel_rfl) ⟨rfl,?_⟩;unfold update_Decode at h;obtain ⟨⟨v1,v2⟩,g3,h⟩:=bind_inv h;refine ⟨_,_,some [],(update_parts_read_ok g3).box1 ⟨.inr ⟨_,rfl,rfl⟩,.inl rfl,.inl rfl,.inl rfl,.inr ⟨_,rfl,rfl⟩,.inr ⟨_,rfl,rfl⟩,.inr ⟨_,rfl,rfl⟩,.inr ⟨_,rfl,rfl⟩,True.intro⟩,?_⟩;(conv=>whnf);refine .go ?_;revert h;refine sel_if ?_ ?_<;>intro h
 ·cases h;exact ⟨rfl,rfl⟩
 ·(conv=>whnf);refine .inl (dOB (by kernel_rfl) ?_);refine ⟨rfl,?_⟩;obtain ⟨v4,g5,h⟩:=bind_inv h;refine ⟨_,_,slices_Concat_api_Prefix_api_Prefix_ok g5,.inr rfl,?_⟩;obtain ⟨v6,g7,h⟩:=bind_inv h;refine ⟨_,_,attribute_Empty_ok g7,.inl rfl,?_⟩;(conv=>whnf);refine cOB (by kernel_rfl) ?_;(conv=>whnf);refine .inl (dOB (by kernel_rfl) ?_);refine ⟨rfl,?_⟩;obtain ⟨v8,g9,h⟩:=bind_inv h;refine ⟨_,_,slices_Concat_api_Prefix_api_Prefix_ok g9,.inr rfl,?_⟩;(conv=>whnf);refine cOB (by kernel_rfl) ?_;refine ⟨v8.length,by first | exact List.length_map _ | rfl | (simp only [List.length_map];omega),?_⟩;(conv=>whnf);refine .go ?_;revert h;refine sel_if ?_ ?_<;>intro h
  ·refine ⟨rfl,?_⟩;cases h;exact ⟨rfl,rfl⟩
  ·obtain ⟨⟨v10,v11⟩,g12,h⟩:=bind_inv h;refine ⟨_,_,some [],attribute_Read_ok g12,?_⟩;obtain ⟨⟨v13,v14⟩,g15,h⟩:=bind_inv h;refine ⟨_,_,some [],update_parts_faulty_ok g15,?_⟩;(conv=>whnf);refine .go ?_;revert h;refine sel_if ?_ ?_<;>intro h
   ·refine ⟨rfl,?_⟩;obtain ⟨v16,g17,h⟩:=bind_inv h;refine ⟨rfl,apnd_b (f:=Prefix.toD) (g:=Prefix.toD) g17,_,apnd_z (f:=Prefix.toD) g17,?_⟩;refine ⟨rfl,?_⟩;cases h;exact ⟨rfl,rfl⟩
   ·refine ⟨v14.new6.length,List.length_map _,?_⟩;revert h;refine cut_join (fun v18=>⟨X::X::AV.ref 2 0::X::X::AV.ref 5 0::AV.own 37 (List.map Prefix.toD v8).length::AV.ref 7 0::dd 68 ([]),N::N::some (OB.box Update.zv)::N::N::some (OB.box [AV.own 25 (List.map Prefix.toD v4).length,AV.d (D.i v6.Origin),AV.d (D.l 2 Segment.toD v6.Path),AV.d (D.b v6.Next.V6),AV.d (D.u64 v6.Next.Hi),AV.d (D.u64 v6.Next.Lo),AV.d (D.i v6.MED),AV.d (D.i v6.Pref),AV.d (D.i v6.OTC),AV.d (D.l 2 Community.toD v6.Communities),AV.d (D.l 3 Large.toD v6.Large),AV.d (D.l 3 Unknown.toD v6.Other),AV.d (D.nil 4)])::N::some (OB.box (Attrs.av v18))::nn 17 (some (OB.row 73 4 (List.map Prefix.toD v4) .no)::nn 11 (some (OB.row 73 4 (List.map Prefix.toD v8) .no)::nn 38 ([])))⟩) ?_ ?_
    ·intro k19 h;revert h;refine sel_if ?_ ?_<;>intro h
     ·exact join_end wk h
     ·exact join_end wk h
    ·rintro v18 h;refine ⟨rfl,?_⟩;refine ⟨rfl,?_⟩;cases h;exact ⟨rfl,rfl⟩
theorem restart_updated_ok {wl:Prop} {a0:List UInt8} {a1:Int} {a2:Int} {r:(List Record)} (h:restart_updated a0 a1 a2=some r):CallsOK (Wl wl) Tryz.prog 29 [AV.d (D.l 1 D.u8 a0),AV.d (D.i a1),AV.d (D.i a2)] [] (.d (D.l 24 Record.toD r)) []:=by
 refine ok Tryz.f29 (by kernel_rfl) (by kernel_rfl) ⟨rfl,?_⟩;unfold restart_updated at h;obtain ⟨⟨v1,v2⟩,g3,h⟩:=bind_inv h;refine ⟨_,_,some [],update_Ends_ok g3,?_⟩;(conv=>whnf);refine .go ?_;revert h;refine sel_if ?_ ?_<;>intro h
 ·revert h;refine cut_join (fun v4=>⟨dd 9 (AV.ref 9 0::dd 29 ([])),nn 9 (some (OB.box [AV.d (D.i 5),AV.d (D.i a1),AV.d (D.i 0),AV.d (D.i v4),AV.d (D.nil 4),AV.d (D.i 0),AV.d (D.nil 2),AV.d (D.b false),AV.d (D.u64 (0:UInt64)),AV.d (D.u64 (0:UInt64)),AV.d (D.i 0),AV.d (D.i 0),AV.d (D.i 0),AV.d (D.nil 2),AV.d (D.nil 3),AV.d (D.nil 3),AV.d (D.nil 4),AV.d (D.i 0),AV.d (D.b false),AV.d (D.b false),AV.d (D.b false),AV.d (D.i 0),AV.d (D.nil 1),AV.d (D.nil 2)])::nn 29 ([]))⟩) ?_ ?_
  ·intro k5 h;revert h;refine sel_if ?_ ?_<;>intro h
   ·exact join_end wk h
   ·exact join_end wk h
  ·rintro v4 h;(conv=>whnf);refine .inl ?_;(conv=>whnf);refine .inl ?_;refine ⟨rfl,?_⟩;cases h;exact ⟨rfl,rfl⟩
 ·obtain ⟨⟨v6,v7⟩,g8,h⟩:=bind_inv h;refine ⟨_,_,some [],update_Decode_ok g8,?_⟩;(conv=>whnf);refine .go ?_;revert h;refine sel_if ?_ ?_<;>intro h
  ·(conv=>whnf);refine .inl ?_;(conv=>whnf);refine .inl ?_;refine ⟨rfl,?_⟩;cases h;exact ⟨rfl,rfl⟩
  ·(conv=>whnf);refine .inl ?_;(conv=>whnf);refine .inl ?_;refine ⟨rfl,?_⟩;cases h;exact ⟨rfl,rfl⟩
theorem restart_Records_ok {wl:Prop} {a0:Session} {a1:Session} {a2:Message} {a3:Int} {a4:Int} {r:(List Record)} (h:restart_Records a0 a1 a2 a3 a4=some r):CallsOK (Wl wl) Tryz.prog 13 [AV.d (Session.toD a0),AV.d (Session.toD a1),AV.d (Message.toD a2),AV.d (D.i a3),AV.d (D.i a4)] [] (.d (D.l 24 Record.toD r)) []:=by
 refine ok Tryz.f13 (by kernel_rfl) (by kernel_rfl) ⟨rfl,?_⟩;unfold restart_Records at h;(conv=>whnf);refine .go ?_;(conv=>whnf);refine .go ?_;revert h;refine sel_if ?_ ?_<;>intro h
 ·(conv=>whnf);refine .inl ?_;(conv=>whnf);refine .inl ?_;refine ⟨rfl,?_⟩;cases h;exact ⟨rfl,rfl⟩
 ·(conv=>whnf);refine .go ?_;revert h;refine sel_if ?_ ?_<;>intro h
  ·obtain ⟨v1,g2,h⟩:=bind_inv h;refine ⟨_,_,some [],restart_Keeps_ok g2,?_⟩;revert h;refine cut_join (fun v3=>⟨X::X::X::AV.d (D.i a3)::AV.d (D.i a4)::dd 6 (AV.d (D.i v3)::dd 37 ([])),nn 49 ([])⟩) ?_ ?_
   ·intro k4 h;revert h;refine sel_if ?_ ?_<;>intro h
    ·exact join_end wk h
    ·exact join_end wk h
   ·rintro v3 h;(conv=>whnf);refine .inl ?_;(conv=>whnf);refine .inl ?_;refine ⟨rfl,?_⟩;cases h;exact ⟨rfl,rfl⟩
  ·revert h;refine cut_join (fun _=>⟨dd 49 ([]),nn 49 ([])⟩) ?_ ?_
   ·intro k5 h;revert h;refine sel_if ?_ ?_<;>intro h
    ·(conv=>whnf);refine .go ?_;revert h;refine sel_if ?_ ?_<;>intro h
     ·obtain ⟨v6,g7,h⟩:=bind_inv h;refine ⟨_,_,some [],restart_updated_ok g7,?_⟩;cases h;exact ⟨rfl,rfl⟩
     ·exact join_end wk h
    ·exact join_end wk h
   ·rintro _ h;(conv=>whnf);refine .inl ?_;(conv=>whnf);refine .inl ?_;refine ⟨rfl,?_⟩;cases h;exact ⟨rfl,rfl⟩
theorem restart_Due_ok {wl:Prop} {a0:RIB} {a1:Int} {r:Bool} (h:restart_Due a0 a1=some r):CallsOK (Wl wl) Tryz.prog 16 [AV.d (RIB.toD a0),AV.d (D.i a1)] [] (.d (D.b r)) []:=by
 refine ok Tryz.f16 (by kernel_rfl) (by kernel_rfl) ⟨rfl,?_⟩;unfold restart_Due at h;revert h;refine cut_join (fun v1=>⟨dd 4 (AV.d (D.b v1)::dd 9 ([])),nn 14 ([])⟩) ?_ ?_
 ·intro k2 h;revert h;refine sel_if ?_ ?_<;>intro h
  ·exact join_end wk h
  ·exact join_end wk h
 ·rintro v1 h;cases h;exact ⟨rfl,rfl⟩
theorem law33_awake_ok {wl:Prop}  {r:Bool} (h:law33_awake=some r):CallsOK (Wl wl) Tryz.prog 6 [] [] (.d (D.b r)) []:=by
 refine ok Tryz.f6 (by kernel_rfl) (by kernel_rfl) ⟨rfl,?_⟩;unfold law33_awake at h;obtain ⟨v1,g2,h⟩:=bind_inv h;refine ⟨_,_,some [],restart_Records_ok g2,?_⟩;revert h;refine cut_join (fun v3=>⟨AV.d (D.b v3)::dd 42 ([]),nn 43 ([])⟩) ?_ ?_
 ·intro k4 h;obtain ⟨v5,g6,h⟩:=bind_inv h;refine ⟨_,_,some [],restart_Keeps_ok g6,?_⟩;revert h;refine sel_if ?_ ?_<;>intro h
  ·refine ⟨v1.length,List.length_map _,?_⟩;revert h;refine sel_if ?_ ?_<;>intro h
   ·obtain ⟨v7,g8,h⟩:=bind_inv h;refine ⟨geti_b (f:=Record.toD) g8,Record.toD v7,geti_d (f:=Record.toD) g8,rfl,?_⟩;revert h;refine sel_if ?_ ?_<;>intro h
    ·obtain ⟨v9,g10,h⟩:=bind_inv h;refine ⟨geti_b (f:=Record.toD) g10,Record.toD v9,geti_d (f:=Record.toD) g10,rfl,?_⟩;revert h;refine sel_if ?_ ?_<;>intro h
     ·obtain ⟨v11,g12,h⟩:=bind_inv h;refine ⟨geti_b (f:=Record.toD) g12,Record.toD v11,geti_d (f:=Record.toD) g12,rfl,?_⟩;revert h;refine sel_if ?_ ?_<;>intro h
      ·obtain ⟨v13,g14,h⟩:=bind_inv h;refine ⟨_,_,some [],restart_Due_ok g14,?_⟩;exact join_end wk h
      ·exact join_end wk h
     ·exact join_end wk h
    ·exact join_end wk h
   ·exact join_end wk h
  ·exact join_end wk h
 ·rintro v3 h;cases h;exact ⟨rfl,rfl⟩
theorem mill_New_ok {wl:Prop} {a0:List Int} {r:Deck} (h:mill_New a0=some r):CallsOK (Wl wl) Tryz.prog 7 [AV.d (D.l 1 D.i a0)] [] (.ref 0 0) [.box (Deck.av r)]:=by
 refine ok Tryz.f7 (by kernel_rfl) (by kernel_rfl) ⟨rfl,?_⟩;unfold mill_New at h;cases h;exact ⟨rfl,rfl⟩
theorem mill_Mod_ok {wl:Prop} {a0:Int} {a1:Int} {r:Int} (h:mill_Mod a0 a1=some r):CallsOK (Wl wl) Tryz.prog 15 [AV.d (D.i a0),AV.d (D.i a1)] [] (.d (D.i r)) []:=by
 refine ok Tryz.f15 (by kernel_rfl) (by kernel_rfl) ⟨rfl,?_⟩;unfold mill_Mod at h;obtain ⟨_,g1,h⟩:=bind_inv h;refine ⟨chk_inv g1,_,rfl,?_⟩;revert h;refine cut_join (fun v2=>⟨dd 5 (AV.d (D.i v2)::dd 9 ([])),nn 15 ([])⟩) ?_ ?_
 ·intro k3 h;revert h;refine sel_if ?_ ?_<;>intro h
  ·refine ⟨_,rfl,?_⟩;exact join_end wk h
  ·exact join_end wk h
 ·rintro v2 h;cases h;exact ⟨rfl,rfl⟩
theorem mill_Deck_Next_ok {wl:Prop} {a0:Deck} {a1:Int} {r:Int×Deck} (h:mill_Deck_Next a0 a1=some r):CallsOK (Wl wl) Tryz.prog 24 [.ref 0 0,AV.d (D.i a1)] [.box (Deck.av a0)] (.d (D.i r.1)) [.box (Deck.av r.2)]:=by
 refine ok Tryz.f24 (by kernel_rfl) (by kernel_rfl) ⟨rfl,?_⟩;unfold mill_Deck_Next at h;(conv=>whnf);refine .inl (dOB (by kernel_rfl) ?_);refine ⟨a0.L.length,List.length_map _,?_⟩;(conv=>whnf);refine cOB (by kernel_rfl) ?_;(conv=>whnf);refine .go ?_;revert h;refine sel_if ?_ ?_<;>intro h
 ·cases h;exact ⟨rfl,rfl⟩
 ·refine ⟨_,rfl,?_⟩;(conv=>whnf);refine .inl (dOB (by kernel_rfl) ?_);refine ⟨_,rfl,?_⟩;obtain ⟨v1,g2,h⟩:=bind_inv h;refine ⟨geti_b (f:=D.i) g2,D.i v1,geti_d (f:=D.i) g2,rfl,?_⟩;obtain ⟨v3,g4,h⟩:=bind_inv h;refine ⟨_,_,mill_Mod_ok g4,.inl rfl,?_⟩;(conv=>whnf);refine cOB (by kernel_rfl) ?_;cases h;exact ⟨rfl,rfl⟩
theorem mill_Deck_Open_ok {wl:Prop} {a0:Deck} {a1:Int} {r:Open×Deck} (h:mill_Deck_Open a0 a1=some r):CallsOK (Wl wl) Tryz.prog 25 [.ref 0 0,AV.d (D.i a1)] [.box (Deck.av a0)] (.d (Open.toD r.1)) [.box (Deck.av r.2)]:=by
 refine ok Tryz.f25 (by kernel_rfl) (by kernel_rfl) ⟨rfl,?_⟩;unfold mill_Deck_Open at h;(conv=>whnf);refine .inl (dOB (by kernel_rfl) ?_);obtain ⟨⟨v1,v2⟩,g3,h⟩:=bind_inv h;refine ⟨_,_,mill_Deck_Next_ok g3,.inl rfl,?_⟩;refine ⟨_,rfl,?_⟩;obtain ⟨⟨v4,v5⟩,g6,h⟩:=bind_inv h;refine ⟨_,_,mill_Deck_Next_ok g6,.inl rfl,?_⟩;obtain ⟨v7,g8,h⟩:=bind_inv h;refine ⟨rfl,geti_b (f:=D.i) g8,?_⟩;refine ⟨rfl,D.i v7,(geti_d (f:=D.i) g8),?_⟩;obtain ⟨⟨v9,v10⟩,g11,h⟩:=bind_inv h;refine ⟨_,_,mill_Deck_Next_ok g11,.inl rfl,?_⟩;refine ⟨_,rfl,?_⟩;obtain ⟨⟨v12,v13⟩,g14,h⟩:=bind_inv h;refine ⟨_,_,mill_Deck_Next_ok g14,.inl rfl,?_⟩;obtain ⟨v15,g16,h⟩:=bind_inv h;refine ⟨rfl,geti_b (f:=D.i) g16,?_⟩;refine ⟨rfl,D.i v15,(geti_d (f:=D.i) g16),?_⟩;obtain ⟨⟨v17,v18⟩,g19,h⟩:=bind_inv h;refine ⟨_,_,mill_Deck_Next_ok g19,.inl rfl,?_⟩;(conv=>whnf);refine cOB (by kernel_rfl) ?_;cases h;exact ⟨rfl,rfl⟩
theorem law33_session_ok {wl:Prop} {a0:Deck} {r:Session×Deck} (h:law33_session a0=some r):CallsOK (Wl wl) Tryz.prog 8 [.ref 0 0] [.box (Deck.av a0)] (.d (Session.toD r.1)) [.box (Deck.av r.2)]:=by
 refine ok Tryz.f8 (by kernel_rfl) (by kernel_rfl) ⟨rfl,?_⟩;unfold law33_session at h;(conv=>whnf);refine .inl (dOB (by kernel_rfl) ?_);obtain ⟨⟨v1,v2⟩,g3,h⟩:=bind_inv h;refine ⟨_,_,mill_Deck_Next_ok g3,.inl rfl,?_⟩;obtain ⟨v4,g5,h⟩:=bind_inv h;refine ⟨rfl,geti_b (f:=D.i) g5,?_⟩;refine ⟨rfl,D.i v4,(geti_d (f:=D.i) g5),?_⟩;obtain ⟨⟨v6,v7⟩,g8,h⟩:=bind_inv h;refine ⟨_,_,mill_Deck_Open_ok g8,.inl rfl,?_⟩;obtain ⟨⟨v9,v10⟩,g11,h⟩:=bind_inv h;refine ⟨_,_,mill_Deck_Open_ok g11,.inl rfl,?_⟩;(conv=>whnf);refine cOB (by kernel_rfl) ?_;cases h;exact ⟨rfl,rfl⟩
theorem ref18_flags_ok {wl:Prop} {a0:Int} {r:Int} (h:ref18_flags a0=some r):CallsOK (Wl wl) Tryz.prog 107 [AV.d (D.i a0)] [] (.d (D.i r)) []:=by
 refine ok Tryz.f107 (by kernel_rfl) (by kernel_rfl) ⟨rfl,?_⟩;unfold ref18_flags at h;(conv=>whnf);refine .go ?_;revert h;refine cut_join (fun v1=>⟨X::X::X::AV.d (D.i a0)::AV.d (D.b v1)::dd 10 ([]),nn 15 ([])⟩) ?_ ?_
 ·intro k2 h;revert h;refine sel_if ?_ ?_<;>intro h
  ·exact join_end wk h
  ·revert h;refine cut_join (fun v3=>⟨X::X::X::AV.d (D.i a0)::AV.d (D.b v3)::dd 10 ([]),nn 15 ([])⟩) ?_ ?_
   ·intro k4 h;revert h;refine sel_if ?_ ?_<;>intro h
    ·exact join_end wk h
    ·revert h;refine cut_join (fun v5=>⟨X::X::X::AV.d (D.i a0)::AV.d (D.b v5)::dd 10 ([]),nn 15 ([])⟩) ?_ ?_
     ·intro k6 h;revert h;refine sel_if ?_ ?_<;>intro h
      ·exact join_end wk h
      ·exact join_end wk h
     ·rintro v5 h;exact join_end wk h
   ·rintro v3 h;exact join_end wk h
 ·rintro v1 h;(conv=>whnf);refine .go ?_;revert h;refine sel_if ?_ ?_<;>intro h
  ·cases h;exact ⟨rfl,rfl⟩
  ·(conv=>whnf);refine .go ?_;revert h;refine sel_if ?_ ?_<;>intro h
   ·cases h;exact ⟨rfl,rfl⟩
   ·revert h;refine cut_join (fun v7=>⟨dd 11 (AV.d (D.b v7)::X::X::X::[]),nn 15 ([])⟩) ?_ ?_
    ·intro k8 h;revert h;refine sel_if ?_ ?_<;>intro h
     ·exact join_end wk h
     ·revert h;refine cut_join (fun v9=>⟨dd 11 (AV.d (D.b v9)::X::X::X::[]),nn 15 ([])⟩) ?_ ?_
      ·intro k10 h;revert h;refine sel_if ?_ ?_<;>intro h
       ·exact join_end wk h
       ·exact join_end wk h
      ·rintro v9 h;exact join_end wk h
    ·rintro v7 h;(conv=>whnf);refine .go ?_;revert h;refine sel_if ?_ ?_<;>intro h
     ·cases h;exact ⟨rfl,rfl⟩
     ·cases h;exact ⟨rfl,rfl⟩
theorem ref18_unknown_ok {wl:Prop} {a0:Int} {r:Bool} (h:ref18_unknown a0=some r):CallsOK (Wl wl) Tryz.prog 106 [AV.d (D.i a0)] [] (.d (D.b r)) []:=by
 refine ok Tryz.f106 (by kernel_rfl) (by kernel_rfl) ⟨rfl,?_⟩;unfold ref18_unknown at h;revert h;refine cut_join (fun v1=>⟨X::X::AV.d (D.b v1)::dd 11 ([]),nn 14 ([])⟩) ?_ ?_
 ·intro k2 h;obtain ⟨v3,g4,h⟩:=bind_inv h;refine ⟨_,_,some [],ref18_flags_ok g4,?_⟩;revert h;refine sel_if ?_ ?_<;>intro h
  ·revert h;refine sel_if ?_ ?_<;>intro h
   ·exact join_end wk h
   ·exact join_end wk h
  ·exact join_end wk h
 ·rintro v1 h;cases h;exact ⟨rfl,rfl⟩
theorem ref15_Valid_ok {wl:Prop} {a0:List Segment} {r:Bool} (h:ref15_Valid a0=some r):CallsOK (Wl wl) Tryz.prog 121 [AV.d (D.l 2 Segment.toD a0)] [] (.d (D.b r)) []:=by
 refine ok Tryz.f121 (by kernel_rfl) (by kernel_rfl) ⟨rfl,?_⟩;unfold ref15_Valid at h;refine ⟨a0.length,List.length_map _,?_⟩;revert h;refine cut_join (fun v1=>⟨X::X::X::AV.d (D.i v1)::dd 74 ([]),nn 78 ([])⟩) ?_ ?_
 ·intro k2 h;revert h;refine loop_for 8 2 Segment.toD rfl (fun i3 v4=>⟨AV.d (D.l 2 Segment.toD a0)::X::X::AV.d (D.i v4)::dd 4 (AV.d (D.l 2 Segment.toD a0)::AV.d (D.i (a0.length:Int))::AV.d (D.i (i3:Int))::dd 67 ([])),nn 78 ([])⟩) ?_ ?_ ?_
  ·exact wk
  ·rintro v4 K5 h;(conv=>whnf);refine .go ?_;(conv=>whnf);refine sel_f lt_f ?_;exact join_end wk h
  ·rintro next6 i3 x7 v4 K5 hii3 hxi3 hwi3 h hK8;(conv=>whnf);refine .go ?_;(conv=>whnf);refine sel_t (lt_t hii3) ?_;revert h;refine cut_join (fun _=>⟨AV.d (D.l 2 Segment.toD a0)::X::X::AV.d (D.i (i64w (v4 + (x7.ASNs.length:Int))))::dd 4 (AV.d (D.l 2 Segment.toD a0)::AV.d (D.i (a0.length:Int))::AV.d (D.i (i3:Int))::dd 67 ([])),nn 78 ([])⟩) ?_ ?_
   ·intro k9 h;refine ⟨idx_b (f:=Segment.toD) hii3,Segment.toD x7,hxi3,rfl,?_⟩;revert h;refine cut_join (fun v10=>⟨AV.d (D.l 2 Segment.toD a0)::X::X::AV.d (D.i v4)::X::AV.ref 5 0::X::X::AV.d (D.l 2 Segment.toD a0)::AV.d (D.i (a0.length:Int))::AV.d (D.i (i3:Int))::dd 25 (AV.d (D.b v10)::dd 41 ([])),nn 5 (some (OB.box (Segment.av x7))::nn 72 ([]))⟩) ?_ ?_
    ·intro k11 h;refine ⟨x7.ASNs.length,List.length_map _,?_⟩;revert h;refine sel_if ?_ ?_<;>intro h
     ·exact join_end wk h
     ·revert h;refine sel_if ?_ ?_<;>intro h
      ·revert h;refine sel_if ?_ ?_<;>intro h
       ·refine ⟨_,rfl,?_⟩;obtain ⟨v12,g13,h⟩:=bind_inv h;refine ⟨geti_b (f:=Segment.toD) g13,Segment.toD v12,geti_d (f:=Segment.toD) g13,rfl,?_⟩;exact join_end wk h
       ·exact join_end wk h
      ·exact join_end wk h
    ·rintro v10 h;(conv=>whnf);refine .go ?_;revert h;refine sel_if ?_ ?_<;>intro h
     ·cases h;exact ⟨rfl,rfl⟩
     ·refine ⟨x7.ASNs.length,List.length_map _,?_⟩;revert h;refine cut_join (fun _=>⟨AV.d (D.l 2 Segment.toD a0)::X::X::AV.d (D.i v4)::X::AV.ref 5 0::X::X::AV.d (D.l 2 Segment.toD a0)::AV.d (D.i (a0.length:Int))::AV.d (D.i (i3:Int))::dd 67 ([]),nn 5 (some (OB.box (Segment.av x7))::nn 72 ([]))⟩) ?_ ?_
      ·intro k14 h;revert h;refine loop_for 38 1 D.i rfl (fun i15 _=>⟨AV.d (D.l 2 Segment.toD a0)::X::X::AV.d (D.i v4)::X::AV.ref 5 0::X::X::AV.d (D.l 2 Segment.toD a0)::AV.d (D.i (a0.length:Int))::AV.d (D.i (i3:Int))::dd 27 (AV.d (D.l 1 D.i x7.ASNs)::AV.d (D.i (x7.ASNs.length:Int))::AV.d (D.i (i15:Int))::dd 37 ([])),nn 5 (some (OB.box (Segment.av x7))::nn 72 ([]))⟩) ?_ ?_ ?_
       ·exact wk
       ·rintro _ K16 h;(conv=>whnf);refine .go ?_;(conv=>whnf);refine sel_f lt_f ?_;exact join_end wk h
       ·rintro next17 i15 x18 _ K16 hii15 hxi15 hwi15 h hK19;(conv=>whnf);refine .go ?_;(conv=>whnf);refine sel_t (lt_t hii15) ?_;(conv=>whnf);refine .go ?_;refine ⟨idx_b (f:=D.i) hii15,D.i x18,hxi15,rfl,?_⟩;revert h;refine cut_join (fun v20=>⟨AV.d (D.l 2 Segment.toD a0)::X::X::AV.d (D.i v4)::X::AV.ref 5 0::X::X::AV.d (D.l 2 Segment.toD a0)::AV.d (D.i (a0.length:Int))::AV.d (D.i (i3:Int))::dd 27 (AV.d (D.l 1 D.i x7.ASNs)::AV.d (D.i (x7.ASNs.length:Int))::AV.d (D.i (i15:Int))::dd 27 (AV.d (D.b v20)::dd 9 ([]))),nn 5 (some (OB.box (Segment.av x7))::nn 72 ([]))⟩) ?_ ?_
        ·intro k21 h;revert h;refine sel_if ?_ ?_<;>intro h
         ·exact join_end wk h
         ·revert h;refine sel_if ?_ ?_<;>intro h
          ·exact join_end wk h
          ·revert h;refine sel_if ?_ ?_<;>intro h
           ·revert h;refine sel_if ?_ ?_<;>intro h
            ·refine ⟨_,rfl,?_⟩;obtain ⟨v22,g23,h⟩:=bind_inv h;refine ⟨geti_b (f:=D.i) g23,D.i v22,geti_d (f:=D.i) g23,rfl,?_⟩;exact join_end wk h
            ·exact join_end wk h
           ·exact join_end wk h
        ·rintro v20 h;(conv=>whnf);refine .go ?_;revert h;refine sel_if ?_ ?_<;>intro h
         ·cases h;exact ⟨rfl,rfl⟩
         ·refine ⟨_,hwi15,?_⟩;exact hK19 _ _ wk h
      ·rintro _ h;refine ⟨x7.ASNs.length,List.length_map _,?_⟩;refine ⟨_,rfl,?_⟩;exact join_end wk h
   ·rintro _ h;refine ⟨_,hwi3,?_⟩;exact hK8 _ _ wk h
 ·rintro v1 h;cases h;exact ⟨rfl,rfl⟩
theorem ref01_Valid_ok {wl:Prop} {a0:Addr} {r:Bool} (h:ref01_Valid a0=some r):CallsOK (Wl wl) Tryz.prog 122 [AV.d (Addr.toD a0)] [] (.d (D.b r)) []:=by
 refine ok Tryz.f122 (by kernel_rfl) (by kernel_rfl) ⟨rfl,?_⟩;unfold ref01_Valid at h;revert h;refine cut_join (fun v1=>⟨X::X::AV.d (D.b v1)::dd 12 ([]),nn 15 ([])⟩) ?_ ?_
 ·intro k2 h;revert h;refine sel_if ?_ ?_<;>intro h
  ·exact join_end wk h
  ·revert h;refine sel_if ?_ ?_<;>intro h
   ·exact join_end wk h
   ·exact join_end wk h
 ·rintro v1 h;cases h;exact ⟨rfl,rfl⟩
theorem ref17_right_ok {wl:Prop} {a0:Community} {r:Bool} (h:ref17_right a0=some r):CallsOK (Wl wl) Tryz.prog 157 [AV.d (Community.toD a0)] [] (.d (D.b r)) []:=by
 refine ok Tryz.f157 (by kernel_rfl) (by kernel_rfl) ⟨rfl,?_⟩;unfold ref17_right at h;revert h;refine cut_join (fun v1=>⟨X::X::AV.d (D.b v1)::dd 18 ([]),nn 21 ([])⟩) ?_ ?_
 ·intro k2 h;revert h;refine sel_if ?_ ?_<;>intro h
  ·revert h;refine sel_if ?_ ?_<;>intro h
   ·revert h;refine sel_if ?_ ?_<;>intro h
    ·exact join_end wk h
    ·exact join_end wk h
   ·exact join_end wk h
  ·exact join_end wk h
 ·rintro v1 h;cases h;exact ⟨rfl,rfl⟩
theorem ref17_less_ok {wl:Prop} {a0:Community} {a1:Community} {r:Bool} (h:ref17_less a0 a1=some r):CallsOK (Wl wl) Tryz.prog 158 [AV.d (Community.toD a0),AV.d (Community.toD a1)] [] (.d (D.b r)) []:=by
 refine ok Tryz.f158 (by kernel_rfl) (by kernel_rfl) ⟨rfl,?_⟩;unfold ref17_less at h;revert h;refine cut_join (fun v1=>⟨dd 4 (AV.d (D.b v1)::dd 19 ([])),nn 24 ([])⟩) ?_ ?_
 ·intro k2 h;revert h;refine sel_if ?_ ?_<;>intro h
  ·exact join_end wk h
  ·revert h;refine sel_if ?_ ?_<;>intro h
   ·exact join_end wk h
   ·exact join_end wk h
 ·rintro v1 h;cases h;exact ⟨rfl,rfl⟩
end Go.AX.Q33
end
section
namespace Go.AX.Q33
open Go Go.AX Go.Proofs
set_option maxRecDepth 100000
set_option maxHeartbeats 4000000
set_option linter.unusedVariables false
theorem ref17_Valid_ok {wl:Prop} {a0:List Community} {r:Bool} (h:ref17_Valid a0=some r):CallsOK (Wl wl) Tryz.prog 123 [AV.d (D.l 2 Community.toD a0)] [] (.d (D.b r)) []:=by
 refine ok Tryz.f123 (by kernel_rfl) (by kernel_rfl) ⟨rfl,?_⟩;unfold ref17_Valid at h;refine ⟨a0.length,List.length_map _,?_⟩;revert h;refine cut_join (fun _=>⟨AV.d (D.l 2 Community.toD a0)::dd 32 ([]),nn 33 ([])⟩) ?_ ?_
 ·intro k1 h;revert h;refine loop_for 5 2 Community.toD rfl (fun i2 _=>⟨AV.d (D.l 2 Community.toD a0)::dd 4 (AV.d (D.l 2 Community.toD a0)::AV.d (D.i (a0.length:Int))::AV.d (D.i (i2:Int))::dd 25 ([])),nn 33 ([])⟩) ?_ ?_ ?_
  ·exact wk
  ·rintro _ K3 h;(conv=>whnf);refine .go ?_;(conv=>whnf);refine sel_f lt_f ?_;exact join_end wk h
  ·rintro next4 i2 x5 _ K3 hii2 hxi2 hwi2 h hK6;(conv=>whnf);refine .go ?_;(conv=>whnf);refine sel_t (lt_t hii2) ?_;(conv=>whnf);refine .go ?_;refine ⟨idx_b (f:=Community.toD) hii2,Community.toD x5,hxi2,rfl,?_⟩;revert h;refine cut_join (fun v7=>⟨AV.d (D.l 2 Community.toD a0)::dd 4 (AV.d (D.l 2 Community.toD a0)::AV.d (D.i (a0.length:Int))::AV.d (D.i (i2:Int))::dd 20 (AV.d (D.b v7)::dd 4 ([]))),nn 33 ([])⟩) ?_ ?_
   ·intro k8 h;(conv=>whnf);refine .inl (dOB (by kernel_rfl) ?_);obtain ⟨v9,g10,h⟩:=bind_inv h;refine ⟨_,_,ref17_right_ok g10,.inl rfl,?_⟩;revert h;refine sel_if ?_ ?_<;>intro h
    ·(conv=>whnf);refine cOB (by kernel_rfl) ?_;exact join_end wk h
    ·revert h;refine sel_if ?_ ?_<;>intro h
     ·refine ⟨_,rfl,?_⟩;obtain ⟨v11,g12,h⟩:=bind_inv h;refine ⟨geti_b (f:=Community.toD) g12,Community.toD v11,geti_d (f:=Community.toD) g12,rfl,?_⟩;obtain ⟨v13,g14,h⟩:=bind_inv h;refine ⟨_,_,ref17_less_ok g14,.inl rfl,?_⟩;(conv=>whnf);refine cOB (by kernel_rfl) ?_;exact join_end wk h
     ·(conv=>whnf);refine cOB (by kernel_rfl) ?_;exact join_end wk h
   ·rintro v7 h;(conv=>whnf);refine .go ?_;revert h;refine sel_if ?_ ?_<;>intro h
    ·cases h;exact ⟨rfl,rfl⟩
    ·refine ⟨_,hwi2,?_⟩;exact hK6 _ _ wk h
 ·rintro _ h;refine ⟨a0.length,List.length_map _,?_⟩;cases h;exact ⟨rfl,rfl⟩
theorem ref17_rightLarge_ok {wl:Prop} {a0:Large} {r:Bool} (h:ref17_rightLarge a0=some r):CallsOK (Wl wl) Tryz.prog 159 [AV.d (Large.toD a0)] [] (.d (D.b r)) []:=by
 refine ok Tryz.f159 (by kernel_rfl) (by kernel_rfl) ⟨rfl,?_⟩;unfold ref17_rightLarge at h;revert h;refine cut_join (fun v1=>⟨X::X::AV.d (D.b v1)::dd 28 ([]),nn 31 ([])⟩) ?_ ?_
 ·intro k2 h;revert h;refine sel_if ?_ ?_<;>intro h
  ·revert h;refine sel_if ?_ ?_<;>intro h
   ·revert h;refine sel_if ?_ ?_<;>intro h
    ·revert h;refine sel_if ?_ ?_<;>intro h
     ·revert h;refine sel_if ?_ ?_<;>intro h
      ·exact join_end wk h
      ·exact join_end wk h
     ·exact join_end wk h
    ·exact join_end wk h
   ·exact join_end wk h
  ·exact join_end wk h
 ·rintro v1 h;cases h;exact ⟨rfl,rfl⟩
theorem ref17_lessLarge_ok {wl:Prop} {a0:Large} {a1:Large} {r:Bool} (h:ref17_lessLarge a0 a1=some r):CallsOK (Wl wl) Tryz.prog 160 [AV.d (Large.toD a0),AV.d (Large.toD a1)] [] (.d (D.b r)) []:=by
 refine ok Tryz.f160 (by kernel_rfl) (by kernel_rfl) ⟨rfl,?_⟩;unfold ref17_lessLarge at h;revert h;refine cut_join (fun v1=>⟨dd 4 (AV.d (D.b v1)::dd 33 ([])),nn 38 ([])⟩) ?_ ?_
 ·intro k2 h;revert h;refine sel_if ?_ ?_<;>intro h
  ·exact join_end wk h
  ·revert h;refine sel_if ?_ ?_<;>intro h
   ·revert h;refine sel_if ?_ ?_<;>intro h
    ·exact join_end wk h
    ·revert h;refine sel_if ?_ ?_<;>intro h
     ·exact join_end wk h
     ·exact join_end wk h
   ·exact join_end wk h
 ·rintro v1 h;cases h;exact ⟨rfl,rfl⟩
theorem ref17_ValidLarge_ok {wl:Prop} {a0:List Large} {r:Bool} (h:ref17_ValidLarge a0=some r):CallsOK (Wl wl) Tryz.prog 124 [AV.d (D.l 3 Large.toD a0)] [] (.d (D.b r)) []:=by
 refine ok Tryz.f124 (by kernel_rfl) (by kernel_rfl) ⟨rfl,?_⟩;unfold ref17_ValidLarge at h;refine ⟨a0.length,List.length_map _,?_⟩;revert h;refine cut_join (fun _=>⟨AV.d (D.l 3 Large.toD a0)::dd 32 ([]),nn 33 ([])⟩) ?_ ?_
 ·intro k1 h;revert h;refine loop_for 5 3 Large.toD rfl (fun i2 _=>⟨AV.d (D.l 3 Large.toD a0)::dd 4 (AV.d (D.l 3 Large.toD a0)::AV.d (D.i (a0.length:Int))::AV.d (D.i (i2:Int))::dd 25 ([])),nn 33 ([])⟩) ?_ ?_ ?_
  ·exact wk
  ·rintro _ K3 h;(conv=>whnf);refine .go ?_;(conv=>whnf);refine sel_f lt_f ?_;exact join_end wk h
  ·rintro next4 i2 x5 _ K3 hii2 hxi2 hwi2 h hK6;(conv=>whnf);refine .go ?_;(conv=>whnf);refine sel_t (lt_t hii2) ?_;(conv=>whnf);refine .go ?_;refine ⟨idx_b (f:=Large.toD) hii2,Large.toD x5,hxi2,rfl,?_⟩;revert h;refine cut_join (fun v7=>⟨AV.d (D.l 3 Large.toD a0)::dd 4 (AV.d (D.l 3 Large.toD a0)::AV.d (D.i (a0.length:Int))::AV.d (D.i (i2:Int))::dd 20 (AV.d (D.b v7)::dd 4 ([]))),nn 33 ([])⟩) ?_ ?_
   ·intro k8 h;(conv=>whnf);refine .inl (dOB (by kernel_rfl) ?_);obtain ⟨v9,g10,h⟩:=bind_inv h;refine ⟨_,_,ref17_rightLarge_ok g10,.inl rfl,?_⟩;revert h;refine sel_if ?_ ?_<;>intro h
    ·(conv=>whnf);refine cOB (by kernel_rfl) ?_;exact join_end wk h
    ·revert h;refine sel_if ?_ ?_<;>intro h
     ·refine ⟨_,rfl,?_⟩;obtain ⟨v11,g12,h⟩:=bind_inv h;refine ⟨geti_b (f:=Large.toD) g12,Large.toD v11,geti_d (f:=Large.toD) g12,rfl,?_⟩;obtain ⟨v13,g14,h⟩:=bind_inv h;refine ⟨_,_,ref17_lessLarge_ok g14,.inl rfl,?_⟩;(conv=>whnf);refine cOB (by kernel_rfl) ?_;exact join_end wk h
     ·(conv=>whnf);refine cOB (by kernel_rfl) ?_;exact join_end wk h
   ·rintro v7 h;(conv=>whnf);refine .go ?_;revert h;refine sel_if ?_ ?_<;>intro h
    ·cases h;exact ⟨rfl,rfl⟩
    ·refine ⟨_,hwi2,?_⟩;exact hK6 _ _ wk h
 ·rintro _ h;refine ⟨a0.length,List.length_map _,?_⟩;cases h;exact ⟨rfl,rfl⟩
theorem ref18_Valid_ok {wl:Prop} {a0:Attrs} {r:Bool} (h:ref18_Valid a0=some r):CallsOK (Wl wl) Tryz.prog 77 [AV.d (Attrs.toD a0)] [] (.d (D.b r)) []:=by
 refine ok Tryz.f77 (by kernel_rfl) (by kernel_rfl) ⟨rfl,?_⟩;unfold ref18_Valid at h;refine ⟨a0.Other.length,List.length_map _,?_⟩;revert h;refine cut_join (fun _=>⟨X::AV.ref 1 0::dd 122 ([]),N::some (OB.box (Attrs.av a0))::nn 122 ([])⟩) ?_ ?_
 ·intro k1 h;revert h;refine loop_for 6 3 Unknown.toD rfl (fun i2 _=>⟨X::AV.ref 1 0::dd 4 (AV.d (D.l 3 Unknown.toD a0.Other)::AV.d (D.i (a0.Other.length:Int))::AV.d (D.i (i2:Int))::dd 115 ([])),N::some (OB.box (Attrs.av a0))::nn 122 ([])⟩) ?_ ?_ ?_
  ·exact wk
  ·rintro _ K3 h;(conv=>whnf);refine .go ?_;(conv=>whnf);refine sel_f lt_f ?_;exact join_end wk h
  ·rintro next4 i2 x5 _ K3 hii2 hxi2 hwi2 h hK6;(conv=>whnf);refine .go ?_;(conv=>whnf);refine sel_t (lt_t hii2) ?_;(conv=>whnf);refine .go ?_;refine ⟨idx_b (f:=Unknown.toD) hii2,Unknown.toD x5,hxi2,rfl,?_⟩;revert h;refine cut_join (fun v7=>⟨X::AV.ref 1 0::dd 4 (AV.d (D.l 3 Unknown.toD a0.Other)::AV.d (D.i (a0.Other.length:Int))::AV.d (D.i (i2:Int))::dd 44 (AV.d (D.b v7)::dd 70 ([]))),N::some (OB.box (Attrs.av a0))::nn 122 ([])⟩) ?_ ?_
   ·intro k8 h;(conv=>whnf);refine .inl (dOB (by kernel_rfl) ?_);revert h;refine sel_if ?_ ?_<;>intro h
    ·(conv=>whnf);refine cOB (by kernel_rfl) ?_;exact join_end wk h
    ·revert h;refine sel_if ?_ ?_<;>intro h
     ·(conv=>whnf);refine cOB (by kernel_rfl) ?_;exact join_end wk h
     ·obtain ⟨v9,g10,h⟩:=bind_inv h;refine ⟨_,_,ref18_unknown_ok g10,.inl rfl,?_⟩;revert h;refine sel_if ?_ ?_<;>intro h
      ·(conv=>whnf);refine cOB (by kernel_rfl) ?_;exact join_end wk h
      ·revert h;refine sel_if ?_ ?_<;>intro h
       ·(conv=>whnf);refine cOB (by kernel_rfl) ?_;exact join_end wk h
       ·refine ⟨x5.Data.length,List.length_map _,?_⟩;revert h;refine sel_if ?_ ?_<;>intro h
        ·(conv=>whnf);refine cOB (by kernel_rfl) ?_;exact join_end wk h
        ·revert h;refine sel_if ?_ ?_<;>intro h
         ·refine ⟨_,rfl,?_⟩;obtain ⟨v11,g12,h⟩:=bind_inv h;refine ⟨geti_b (f:=Unknown.toD) g12,Unknown.toD v11,geti_d (f:=Unknown.toD) g12,rfl,?_⟩;(conv=>whnf);refine cOB (by kernel_rfl) ?_;exact join_end wk h
         ·(conv=>whnf);refine cOB (by kernel_rfl) ?_;exact join_end wk h
   ·rintro v7 h;(conv=>whnf);refine .go ?_;revert h;refine sel_if ?_ ?_<;>intro h
    ·cases h;exact ⟨rfl,rfl⟩
    ·refine ⟨_,hwi2,?_⟩;exact hK6 _ _ wk h
 ·rintro _ h;revert h;refine cut_join (fun v13=>⟨X::X::AV.d (D.b v13)::dd 121 ([]),nn 124 ([])⟩) ?_ ?_
  ·intro k14 h;revert h;refine sel_if ?_ ?_<;>intro h
   ·revert h;refine sel_if ?_ ?_<;>intro h
    ·obtain ⟨v15,g16,h⟩:=bind_inv h;refine ⟨_,_,some [],ref15_Valid_ok g16,?_⟩;revert h;refine sel_if ?_ ?_<;>intro h
     ·obtain ⟨v17,g18,h⟩:=bind_inv h;refine ⟨_,_,some [],ref01_Valid_ok g18,?_⟩;revert h;refine sel_if ?_ ?_<;>intro h
      ·revert h;refine sel_if ?_ ?_<;>intro h
       ·revert h;refine sel_if ?_ ?_<;>intro h
        ·revert h;refine sel_if ?_ ?_<;>intro h
         ·revert h;refine sel_if ?_ ?_<;>intro h
          ·revert h;refine sel_if ?_ ?_<;>intro h
           ·obtain ⟨v19,g20,h⟩:=bind_inv h;refine ⟨_,_,some [],ref17_Valid_ok g20,?_⟩;revert h;refine sel_if ?_ ?_<;>intro h
            ·obtain ⟨v21,g22,h⟩:=bind_inv h;refine ⟨_,_,some [],ref17_ValidLarge_ok g22,?_⟩;revert h;refine sel_if ?_ ?_<;>intro h
             ·refine ⟨a0.Other.length,List.length_map _,?_⟩;exact join_end wk h
             ·exact join_end wk h
            ·exact join_end wk h
           ·revert h;refine sel_if ?_ ?_<;>intro h
            ·revert h;refine sel_if ?_ ?_<;>intro h
             ·obtain ⟨v23,g24,h⟩:=bind_inv h;refine ⟨_,_,some [],ref17_Valid_ok g24,?_⟩;revert h;refine sel_if ?_ ?_<;>intro h
              ·obtain ⟨v25,g26,h⟩:=bind_inv h;refine ⟨_,_,some [],ref17_ValidLarge_ok g26,?_⟩;revert h;refine sel_if ?_ ?_<;>intro h
               ·refine ⟨a0.Other.length,List.length_map _,?_⟩;exact join_end wk h
               ·exact join_end wk h
              ·exact join_end wk h
             ·exact join_end wk h
            ·exact join_end wk h
          ·exact join_end wk h
         ·exact join_end wk h
        ·exact join_end wk h
       ·exact join_end wk h
      ·exact join_end wk h
     ·exact join_end wk h
    ·exact join_end wk h
   ·exact join_end wk h
  ·rintro v13 h;cases h;exact ⟨rfl,rfl⟩
theorem ref01_Bytes_ok {wl:Prop} {a0:Addr} {r:(List UInt8)} (h:ref01_Bytes a0=some r):CallsOK (Wl wl) Tryz.prog 81 [AV.d (Addr.toD a0)] [] (AV.own 0 (List.map D.u8 r).length) [.row 5 1 (List.map D.u8 r) .no]:=by
 refine ok Tryz.f81 (by kernel_rfl) (by kernel_rfl) ⟨rfl,?_⟩;unfold ref01_Bytes at h;obtain ⟨v1,g2,h⟩:=bind_inv h;refine ⟨_,_,some [],ref01_Valid_ok g2,?_⟩;(conv=>whnf);refine .go ?_;revert h;refine sel_if ?_ ?_<;>intro h
 ·(conv=>whnf);refine .inr ⟨Nat.le_of_ble_eq_true rfl,5,?_⟩;cases h;exact ⟨rfl,rfl⟩
 ·revert h;refine cut_join (fun v3=>⟨X::AV.ref 1 0::X::AV.d (D.i v3)::dd 31 ([]),N::some (OB.box (Addr.av a0))::nn 33 ([])⟩) ?_ ?_
  ·intro k4 h;revert h;refine sel_if ?_ ?_<;>intro h
   ·exact join_end wk h
   ·exact join_end wk h
  ·rintro v3 h;refine ⟨_,rfl,?_⟩;revert h;refine cut_join (fun v5=>⟨dd 4 (AV.own 4 (List.map D.u8 v5).length::dd 30 ([])),nn 4 (some (OB.row 5 1 (List.map D.u8 v5) .no)::nn 30 ([]))⟩) ?_ ?_
   ·intro k6 h;revert h;refine loop_while (fun (v7,v8)=>⟨X::AV.ref 1 0::X::X::AV.own 4 (List.map D.u8 v8).length::AV.d (D.i v7)::dd 29 ([]),N::some (OB.box (Addr.av a0))::N::N::some (OB.row 5 1 (List.map D.u8 v8) .no)::nn 30 ([])⟩) ?_ ?_
    ·exact wk
    rintro next9 ⟨v7,v8⟩ K10 h hK11;(conv=>whnf);refine .go ?_;revert h;refine sel_if ?_ ?_<;>intro h
    ·(conv=>whnf);refine .go ?_;revert h;refine cut_join (fun v12=>⟨X::AV.ref 1 0::X::X::AV.own 4 (List.map D.u8 v8).length::AV.d (D.i v7)::AV.d (D.u64 v12)::dd 28 ([]),N::some (OB.box (Addr.av a0))::N::N::some (OB.row 5 1 (List.map D.u8 v8) .no)::nn 30 ([])⟩) ?_ ?_
     ·intro k13 h;revert h;refine sel_if ?_ ?_<;>intro h
      ·exact join_end wk h
      ·exact join_end wk h
     ·rintro v12 h;refine ⟨by decide,_,rfl,?_⟩;refine ⟨_,u64_wrap _,?_⟩;refine ⟨_,u64_wrap _,?_⟩;refine ⟨Int.natCast_nonneg _,_,u64_shr v12 _,?_⟩;refine ⟨_,u8_wrap _,?_⟩;refine ⟨rfl,?_⟩;obtain ⟨v14,g15,h⟩:=bind_inv h;refine ⟨rfl,apnd_b (f:=D.u8) (g:=D.u8) g15,_,apnd_z (f:=D.u8) g15,?_⟩;refine ⟨_,rfl,?_⟩;exact hK11 _ _ wk h
    ·exact join_end wk h
   ·rintro v5 h;(conv=>whnf);refine .inl ?_;(conv=>whnf);refine .inr ?_;cases h;exact ⟨rfl,rfl⟩
theorem ref18_word_ok {wl:Prop} {a0:Int} {a1:Int} {r:(List UInt8)} (h:ref18_word a0 a1=some r):CallsOK (Wl wl) Tryz.prog 125 [AV.d (D.i a0),AV.d (D.i a1)] [] (.d (D.l 1 D.u8 r)) []:=by
 refine ok Tryz.f125 (by kernel_rfl) (by kernel_rfl) ⟨rfl,?_⟩;unfold ref18_word at h;refine ⟨_,rfl,?_⟩;revert h;refine cut_join (fun v1=>⟨dd 5 (AV.own 5 (List.map D.u8 v1).length::dd 17 ([])),nn 5 (some (OB.row 5 1 (List.map D.u8 v1) .no)::nn 17 ([]))⟩) ?_ ?_
 ·intro k2 h;revert h;refine loop_while (fun (v3,v4)=>⟨AV.d (D.i a0)::dd 4 (AV.own 5 (List.map D.u8 v4).length::AV.d (D.i v3)::dd 16 ([])),nn 5 (some (OB.row 5 1 (List.map D.u8 v4) .no)::nn 17 ([]))⟩) ?_ ?_
  ·exact wk
  rintro next5 ⟨v3,v4⟩ K6 h hK7;(conv=>whnf);refine .go ?_;revert h;refine sel_if ?_ ?_<;>intro h
  ·(conv=>whnf);refine .go ?_;refine ⟨_,u64_wrap _,?_⟩;refine ⟨_,u64_wrap _,?_⟩;refine ⟨Int.natCast_nonneg _,_,rfl,?_⟩;refine ⟨_,u8_wrap _,?_⟩;refine ⟨rfl,?_⟩;obtain ⟨v8,g9,h⟩:=bind_inv h;refine ⟨rfl,apnd_b (f:=D.u8) (g:=D.u8) g9,_,apnd_z (f:=D.u8) g9,?_⟩;refine ⟨_,rfl,?_⟩;exact hK7 _ _ wk h
  ·exact join_end wk h
 ·rintro v1 h;(conv=>whnf);refine .inl ?_;(conv=>whnf);refine .inl ?_;refine ⟨rfl,?_⟩;cases h;exact ⟨rfl,rfl⟩
end Go.AX.Q33
end
section
namespace Go.AX.Q33
open Go Go.AX Go.Proofs
set_option maxRecDepth 100000
set_option maxHeartbeats 4000000
set_option linter.unusedVariables false
theorem ref18_Write_ok {wl:Prop} {a0:Attrs} {r:(List Unknown)×Int} (h:ref18_Write a0=some r):CallsOK (Wl wl) Tryz.prog 78 [AV.d (Attrs.toD a0)] [] (.tup [.d (D.l 3 Unknown.toD r.1),.d (D.i r.2)]) []:=by
 refine ok Tryz.f78 (by kernel_rfl) (by kernel_rfl) ⟨rfl,?_⟩;unfold ref18_Write at h;obtain ⟨v1,g2,h⟩:=bind_inv h;refine ⟨_,_,some [],ref18_Valid_ok g2,?_⟩;(conv=>whnf);refine .go ?_;revert h;refine sel_if ?_ ?_<;>intro h
 ·cases h;exact ⟨rfl,rfl⟩
 ·revert h;refine cut_join (fun v3=>⟨X::AV.ref 1 0::X::X::AV.own 4 (List.map Unknown.toD []).length::AV.mp 24::dd 189 ([]),N::some (OB.box (Attrs.av a0))::N::N::some (OB.row 144 3 (List.map Unknown.toD []) .no)::nn 19 (some (OB.map 3 22 (entsD D.i (D.l 1 D.u8) v3))::nn 170 ([]))⟩) ?_ ?_
  ·intro k4 h;revert h;refine sel_if ?_ ?_<;>intro h
   ·refine ⟨_,u8_wrap _,?_⟩;(conv=>whnf);refine .inl ?_;refine ⟨rfl,?_⟩;refine ⟨_,mapSet_ok (ek:=D.i) (ev:=(D.l 1 D.u8)) (l:=[]) (k:=1) (v:=([(toU8 a0.Origin)]:List UInt8)) keyEq_i,?_⟩;exact join_end wk h
   ·exact join_end wk h
  ·rintro v3 h;revert h;refine cut_join (fun v5=>⟨X::AV.ref 1 0::X::X::AV.own 4 (List.map Unknown.toD []).length::AV.mp 24::dd 35 (AV.d (D.b v5)::dd 153 ([])),N::some (OB.box (Attrs.av a0))::N::N::some (OB.row 144 3 (List.map Unknown.toD []) .no)::nn 19 (some (OB.map 3 22 (entsD D.i (D.l 1 D.u8) v3))::nn 170 ([]))⟩) ?_ ?_
   ·intro k6 h;revert h;refine sel_if ?_ ?_<;>intro h
    ·exact join_end wk h
    ·refine ⟨a0.Path.length,List.length_map _,?_⟩;exact join_end wk h
   ·rintro v5 h;revert h;refine cut_join (fun v7=>⟨X::AV.ref 1 0::X::X::AV.own 4 (List.map Unknown.toD []).length::AV.mp 24::dd 189 ([]),N::some (OB.box (Attrs.av a0))::N::N::some (OB.row 144 3 (List.map Unknown.toD []) .no)::nn 19 (some (OB.map 3 22 (entsD D.i (D.l 1 D.u8) v7))::nn 170 ([]))⟩) ?_ ?_
    ·intro k8 h;revert h;refine sel_if ?_ ?_<;>intro h
     ·refine ⟨a0.Path.length,List.length_map _,?_⟩;revert h;refine cut_join (fun v9=>⟨X::AV.ref 1 0::X::X::AV.own 4 (List.map Unknown.toD []).length::AV.mp 24::AV.own 42 (List.map D.u8 v9).length::dd 188 ([]),N::some (OB.box (Attrs.av a0))::N::N::some (OB.row 144 3 (List.map Unknown.toD []) .no)::nn 19 (some (OB.map 3 22 (entsD D.i (D.l 1 D.u8) v3))::nn 17 (some (OB.row 5 1 (List.map D.u8 v9) .no)::nn 152 ([])))⟩) ?_ ?_
      ·intro k10 h;revert h;refine loop_for 44 2 Segment.toD rfl (fun i11 v12=>⟨X::AV.ref 1 0::X::X::AV.own 4 (List.map Unknown.toD []).length::AV.mp 24::AV.own 42 (List.map D.u8 v12).length::dd 37 (AV.d (D.l 2 Segment.toD a0.Path)::AV.d (D.i (a0.Path.length:Int))::AV.d (D.i (i11:Int))::dd 148 ([])),N::some (OB.box (Attrs.av a0))::N::N::some (OB.row 144 3 (List.map Unknown.toD []) .no)::nn 19 (some (OB.map 3 22 (entsD D.i (D.l 1 D.u8) v3))::nn 17 (some (OB.row 5 1 (List.map D.u8 v12) .no)::nn 152 ([])))⟩) ?_ ?_ ?_
       ·exact wk
       ·rintro v12 K13 h;(conv=>whnf);refine .go ?_;(conv=>whnf);refine sel_f lt_f ?_;exact join_end wk h
       ·rintro next14 i11 x15 v12 K13 hii11 hxi11 hwi11 h hK16;(conv=>whnf);refine .go ?_;(conv=>whnf);refine sel_t (lt_t hii11) ?_;revert h;refine cut_join (fun v17=>⟨X::AV.ref 1 0::X::X::AV.own 4 (List.map Unknown.toD []).length::AV.mp 24::AV.own 42 (List.map D.u8 v17).length::dd 37 (AV.d (D.l 2 Segment.toD a0.Path)::AV.d (D.i (a0.Path.length:Int))::AV.d (D.i (i11:Int))::dd 148 ([])),N::some (OB.box (Attrs.av a0))::N::N::some (OB.row 144 3 (List.map Unknown.toD []) .no)::nn 19 (some (OB.map 3 22 (entsD D.i (D.l 1 D.u8) v3))::nn 17 (some (OB.row 5 1 (List.map D.u8 v17) .no)::nn 152 ([])))⟩) ?_ ?_
        ·intro k18 h;refine ⟨idx_b (f:=Segment.toD) hii11,Segment.toD x15,hxi11,rfl,?_⟩;revert h;refine cut_join (fun v19=>⟨X::AV.ref 1 0::X::X::AV.own 4 (List.map Unknown.toD []).length::AV.mp 24::AV.own 42 (List.map D.u8 v12).length::X::AV.ref 8 0::AV.d (D.u8 v19)::dd 34 (AV.d (D.l 2 Segment.toD a0.Path)::AV.d (D.i (a0.Path.length:Int))::AV.d (D.i (i11:Int))::dd 148 ([])),N::some (OB.box (Attrs.av a0))::N::N::some (OB.row 144 3 (List.map Unknown.toD []) .no)::N::N::N::some (OB.box (Segment.av x15))::nn 15 (some (OB.map 3 22 (entsD D.i (D.l 1 D.u8) v3))::nn 17 (some (OB.row 5 1 (List.map D.u8 v12) .no)::nn 152 ([])))⟩) ?_ ?_
         ·intro k20 h;revert h;refine sel_if ?_ ?_<;>intro h
          ·exact join_end wk h
          ·exact join_end wk h
         ·rintro v19 h;refine ⟨x15.ASNs.length,List.length_map _,?_⟩;refine ⟨_,u8_wrap _,?_⟩;refine ⟨rfl,?_⟩;obtain ⟨v21,g22,h⟩:=bind_inv h;refine ⟨rfl,apnd_b (f:=D.u8) (g:=D.u8) g22,_,apnd_z (f:=D.u8) g22,?_⟩;refine ⟨x15.ASNs.length,List.length_map _,?_⟩;revert h;refine cut_join (fun v23=>⟨X::AV.ref 1 0::X::X::AV.own 4 (List.map Unknown.toD []).length::AV.mp 24::AV.own 42 (List.map D.u8 v23).length::dd 37 (AV.d (D.l 2 Segment.toD a0.Path)::AV.d (D.i (a0.Path.length:Int))::AV.d (D.i (i11:Int))::dd 148 ([])),N::some (OB.box (Attrs.av a0))::N::N::some (OB.row 144 3 (List.map Unknown.toD []) .no)::nn 19 (some (OB.map 3 22 (entsD D.i (D.l 1 D.u8) v3))::nn 17 (some (OB.row 5 1 (List.map D.u8 v23) .no)::nn 152 ([])))⟩) ?_ ?_
          ·intro k24 h;revert h;refine loop_for 61 1 D.i rfl (fun i25 v26=>⟨X::AV.ref 1 0::X::X::AV.own 4 (List.map Unknown.toD []).length::AV.mp 24::AV.own 42 (List.map D.u8 v26).length::dd 37 (AV.d (D.l 2 Segment.toD a0.Path)::AV.d (D.i (a0.Path.length:Int))::AV.d (D.i (i11:Int))::dd 14 (AV.d (D.l 1 D.i x15.ASNs)::AV.d (D.i (x15.ASNs.length:Int))::AV.d (D.i (i25:Int))::dd 131 ([]))),N::some (OB.box (Attrs.av a0))::N::N::some (OB.row 144 3 (List.map Unknown.toD []) .no)::nn 19 (some (OB.map 3 22 (entsD D.i (D.l 1 D.u8) v3))::nn 17 (some (OB.row 5 1 (List.map D.u8 v26) .no)::nn 152 ([])))⟩) ?_ ?_ ?_
           ·exact wk
           ·rintro v26 K27 h;(conv=>whnf);refine .go ?_;(conv=>whnf);refine sel_f lt_f ?_;exact join_end wk h
           ·rintro next28 i25 x29 v26 K27 hii25 hxi25 hwi25 h hK30;(conv=>whnf);refine .go ?_;(conv=>whnf);refine sel_t (lt_t hii25) ?_;(conv=>whnf);refine .go ?_;refine ⟨idx_b (f:=D.i) hii25,D.i x29,hxi25,rfl,?_⟩;obtain ⟨v31,g32,h⟩:=bind_inv h;refine ⟨_,_,some [],ref18_word_ok g32,?_⟩;obtain ⟨v33,g34,h⟩:=bind_inv h;refine ⟨rfl,apnd_b (f:=D.u8) (g:=D.u8) g34,_,apnd_z (f:=D.u8) g34,?_⟩;refine ⟨_,hwi25,?_⟩;exact hK30 _ _ wk h
          ·rintro v23 h;exact join_end wk h
        ·rintro v17 h;refine ⟨_,hwi11,?_⟩;exact hK16 _ _ wk h
      ·rintro v9 h;(conv=>whnf);refine .inl ?_;refine ⟨rfl,?_⟩;refine ⟨_,mapSet_ok (ek:=D.i) (ev:=(D.l 1 D.u8)) (l:=v3) (k:=2) (v:=v9) keyEq_i,?_⟩;exact join_end wk h
     ·exact join_end wk h
    ·rintro v7 h;revert h;refine cut_join (fun v35=>⟨X::AV.ref 1 0::X::X::AV.own 4 (List.map Unknown.toD []).length::AV.mp 24::dd 78 (AV.d (D.b v35)::dd 110 ([])),N::some (OB.box (Attrs.av a0))::N::N::some (OB.row 144 3 (List.map Unknown.toD []) .no)::nn 19 (some (OB.map 3 22 (entsD D.i (D.l 1 D.u8) v7))::nn 170 ([]))⟩) ?_ ?_
     ·intro k36 h;revert h;refine sel_if ?_ ?_<;>intro h
      ·exact join_end wk h
      ·exact join_end wk h
     ·rintro v35 h;revert h;refine cut_join (fun v37=>⟨X::AV.ref 1 0::X::X::AV.own 4 (List.map Unknown.toD []).length::AV.mp 24::dd 189 ([]),N::some (OB.box (Attrs.av a0))::N::N::some (OB.row 144 3 (List.map Unknown.toD []) .no)::nn 19 (some (OB.map 3 22 (entsD D.i (D.l 1 D.u8) v37))::nn 170 ([]))⟩) ?_ ?_
      ·intro k38 h;revert h;refine sel_if ?_ ?_<;>intro h
       ·obtain ⟨v39,g40,h⟩:=bind_inv h;refine ⟨_,_,some [88],ref01_Bytes_ok g40,?_⟩;(conv=>whnf);refine .inl ?_;refine ⟨rfl,?_⟩;refine ⟨_,mapSet_ok (ek:=D.i) (ev:=(D.l 1 D.u8)) (l:=v7) (k:=3) (v:=v39) keyEq_i,?_⟩;exact join_end wk h
       ·exact join_end wk h
      ·rintro v37 h;revert h;refine cut_join (fun v41=>⟨X::AV.ref 1 0::X::X::AV.own 4 (List.map Unknown.toD []).length::AV.mp 24::dd 189 ([]),N::some (OB.box (Attrs.av a0))::N::N::some (OB.row 144 3 (List.map Unknown.toD []) .no)::nn 19 (some (OB.map 3 22 (entsD D.i (D.l 1 D.u8) v41))::nn 170 ([]))⟩) ?_ ?_
       ·intro k42 h;revert h;refine sel_if ?_ ?_<;>intro h
        ·obtain ⟨v43,g44,h⟩:=bind_inv h;refine ⟨_,_,some [],ref18_word_ok g44,?_⟩;refine ⟨_,mapSet_ok (ek:=D.i) (ev:=(D.l 1 D.u8)) (l:=v37) (k:=4) (v:=v43) keyEq_i,?_⟩;exact join_end wk h
        ·exact join_end wk h
       ·rintro v41 h;revert h;refine cut_join (fun v45=>⟨X::AV.ref 1 0::X::X::AV.own 4 (List.map Unknown.toD []).length::AV.mp 24::dd 189 ([]),N::some (OB.box (Attrs.av a0))::N::N::some (OB.row 144 3 (List.map Unknown.toD []) .no)::nn 19 (some (OB.map 3 22 (entsD D.i (D.l 1 D.u8) v45))::nn 170 ([]))⟩) ?_ ?_
        ·intro k46 h;revert h;refine sel_if ?_ ?_<;>intro h
         ·obtain ⟨v47,g48,h⟩:=bind_inv h;refine ⟨_,_,some [],ref18_word_ok g48,?_⟩;refine ⟨_,mapSet_ok (ek:=D.i) (ev:=(D.l 1 D.u8)) (l:=v41) (k:=5) (v:=v47) keyEq_i,?_⟩;exact join_end wk h
         ·exact join_end wk h
        ·rintro v45 h;refine ⟨a0.Communities.length,List.length_map _,?_⟩;revert h;refine cut_join (fun (v49,v50)=>⟨X::AV.ref 1 0::X::X::AV.own 4 (List.map Unknown.toD []).length::AV.mp 24::dd 189 ([]),N::some (OB.box (Attrs.av a0))::N::N::some (OB.row 144 3 (List.map Unknown.toD []) .no)::nn 19 (some (OB.amap 3 22 (entsD D.i (D.l 1 D.u8) v49) (.int .i64 8) 112 (List.map D.u8 v50).length)::nn 87 (some (OB.row 5 1 (List.map D.u8 v50) .yes)::nn 82 ([])))⟩) ?_ ?_
         ·intro k51 h;obtain ⟨_,g52,h⟩:=bind_inv h;revert h;refine loop_for 104 2 Community.toD rfl (fun i53 (v54,v55)=>⟨X::AV.ref 1 0::X::X::AV.own 4 (List.map Unknown.toD []).length::AV.mp 24::dd 98 (AV.d (D.l 2 Community.toD a0.Communities)::AV.d (D.i (a0.Communities.length:Int))::AV.d (D.i (i53:Int))::dd 88 ([])),N::some (OB.box (Attrs.av a0))::N::N::some (OB.row 144 3 (List.map Unknown.toD []) .no)::nn 19 (some (OB.amap 3 22 (entsD D.i (D.l 1 D.u8) v54) (.int .i64 8) 112 (List.map D.u8 v55).length)::nn 87 (some (OB.row 5 1 (List.map D.u8 v55) .yes)::nn 82 ([])))⟩) ?_ ?_ ?_
          ·exact (.mk rfl (And.intro (.refl _) (And.intro (.refl _) (And.intro (.refl _) (And.intro (.refl _) (And.intro (.refl _) (And.intro (.refl _) True.intro)))))) (And.intro ⟨_,rfl,And.intro ⟨rfl,.refl _⟩ (And.intro ⟨rfl,.refl _⟩ (And.intro ⟨rfl,.refl _⟩ (And.intro ⟨rfl,.refl _⟩ (And.intro ⟨rfl,.refl _⟩ (And.intro ⟨rfl,.refl _⟩ (And.intro ⟨rfl,.refl _⟩ (And.intro ⟨rfl,.refl _⟩ (And.intro ⟨rfl,.refl _⟩ (And.intro ⟨rfl,.refl _⟩ (And.intro ⟨rfl,.refl _⟩ (True.intro)))))))))))⟩ (And.intro (.inl ⟨_,rfl,⟨id,trivial⟩⟩) (And.intro (.inr ⟨.inl rfl,⟨_,mapGet_none keyEq_i g52⟩,rfl,rfl,_,_,_,rfl⟩) (And.intro (.inr ⟨rfl,rfl,by decide⟩) (True.intro))))) rfl)
          ·rintro ⟨v54,v55⟩ K56 h;(conv=>whnf);refine .go ?_;(conv=>whnf);refine sel_f lt_f ?_;exact join_end wk h
          ·rintro next57 i53 x58 ⟨v54,v55⟩ K56 hii53 hxi53 hwi53 h hK59;(conv=>whnf);refine .go ?_;(conv=>whnf);refine sel_t (lt_t hii53) ?_;(conv=>whnf);refine .go ?_;refine ⟨idx_b (f:=Community.toD) hii53,Community.toD x58,hxi53,rfl,?_⟩;(conv=>whnf);refine .inl (dOB (by kernel_rfl) ?_);(conv=>whnf);refine .inr ⟨rfl,rfl,⟨_,mapGet_ok (ek:=D.i) (ev:=(D.l 1 D.u8)) (l:=v54) (k:=8) keyEq_i⟩,rfl,?_⟩;obtain ⟨v60,g61,h⟩:=bind_inv h;refine ⟨_,_,ref18_word_ok g61,.inl rfl,?_⟩;obtain ⟨v62,g63,h⟩:=bind_inv h;refine ⟨rfl,apnd_b (f:=D.u8) (g:=D.u8) g63,_,apnd_z (f:=D.u8) g63,?_⟩;obtain ⟨v64,g65,h⟩:=bind_inv h;refine ⟨_,_,ref18_word_ok g65,.inl rfl,?_⟩;obtain ⟨v66,g67,h⟩:=bind_inv h;refine ⟨rfl,apnd_b (f:=D.u8) (g:=D.u8) g67,_,apnd_z (f:=D.u8) g67,?_⟩;(conv=>whnf);refine .inr ?_;refine ⟨rfl,?_⟩;refine ⟨_,mapSet_ok (ek:=D.i) (ev:=(D.l 1 D.u8)) (l:=v54) (k:=8) (v:=v66) keyEq_i,?_⟩;(conv=>whnf);refine cOB (by kernel_rfl) ?_;refine ⟨_,hwi53,?_⟩;exact hK59 _ _ wk h
         ·rintro ⟨v49,v50⟩ h;refine ⟨a0.Large.length,List.length_map _,?_⟩;revert h;refine cut_join (fun (v68,v69)=>⟨X::AV.ref 1 0::X::X::AV.own 4 (List.map Unknown.toD []).length::AV.mp 24::dd 189 ([]),N::some (OB.box (Attrs.av a0))::N::N::some (OB.row 144 3 (List.map Unknown.toD []) .no)::nn 19 (some (OB.amap 3 22 (entsD D.i (D.l 1 D.u8) v68) (.int .i64 32) 131 (List.map D.u8 v69).length)::nn 106 (some (OB.row 5 1 (List.map D.u8 v69) .yes)::nn 63 ([])))⟩) ?_ ?_
          ·intro k70 h;obtain ⟨_,g71,h⟩:=bind_inv h;revert h;refine loop_for 123 3 Large.toD rfl (fun i72 (v73,v74)=>⟨X::AV.ref 1 0::X::X::AV.own 4 (List.map Unknown.toD []).length::AV.mp 24::dd 117 (AV.d (D.l 3 Large.toD a0.Large)::AV.d (D.i (a0.Large.length:Int))::AV.d (D.i (i72:Int))::dd 69 ([])),N::some (OB.box (Attrs.av a0))::N::N::some (OB.row 144 3 (List.map Unknown.toD []) .no)::nn 19 (some (OB.amap 3 22 (entsD D.i (D.l 1 D.u8) v73) (.int .i64 32) 131 (List.map D.u8 v74).length)::nn 106 (some (OB.row 5 1 (List.map D.u8 v74) .yes)::nn 63 ([])))⟩) ?_ ?_ ?_
           ·exact (.mk rfl (And.intro (.refl _) (And.intro (.refl _) (And.intro (.refl _) (And.intro (.refl _) (And.intro (.refl _) (And.intro (.refl _) True.intro)))))) (And.intro ⟨_,rfl,And.intro ⟨rfl,.refl _⟩ (And.intro ⟨rfl,.refl _⟩ (And.intro ⟨rfl,.refl _⟩ (And.intro ⟨rfl,.refl _⟩ (And.intro ⟨rfl,.refl _⟩ (And.intro ⟨rfl,.refl _⟩ (And.intro ⟨rfl,.refl _⟩ (And.intro ⟨rfl,.refl _⟩ (And.intro ⟨rfl,.refl _⟩ (And.intro ⟨rfl,.refl _⟩ (And.intro ⟨rfl,.refl _⟩ (True.intro)))))))))))⟩ (And.intro (.inl ⟨_,rfl,⟨id,trivial⟩⟩) (And.intro (.inr ⟨.inr ⟨_,_,_,rfl⟩,⟨_,mapGet_none keyEq_i g71⟩,rfl,rfl,_,_,_,rfl⟩) (And.intro (.inr ⟨rfl,rfl,by decide⟩) (True.intro))))) rfl)
           ·rintro ⟨v73,v74⟩ K75 h;(conv=>whnf);refine .go ?_;(conv=>whnf);refine sel_f lt_f ?_;exact join_end wk h
           ·rintro next76 i72 x77 ⟨v73,v74⟩ K75 hii72 hxi72 hwi72 h hK78;(conv=>whnf);refine .go ?_;(conv=>whnf);refine sel_t (lt_t hii72) ?_;(conv=>whnf);refine .go ?_;refine ⟨idx_b (f:=Large.toD) hii72,Large.toD x77,hxi72,rfl,?_⟩;(conv=>whnf);refine .inl (dOB (by kernel_rfl) ?_);(conv=>whnf);refine .inr ⟨rfl,rfl,⟨_,mapGet_ok (ek:=D.i) (ev:=(D.l 1 D.u8)) (l:=v73) (k:=32) keyEq_i⟩,rfl,?_⟩;obtain ⟨v79,g80,h⟩:=bind_inv h;refine ⟨_,_,ref18_word_ok g80,.inl rfl,?_⟩;obtain ⟨v81,g82,h⟩:=bind_inv h;refine ⟨rfl,apnd_b (f:=D.u8) (g:=D.u8) g82,_,apnd_z (f:=D.u8) g82,?_⟩;obtain ⟨v83,g84,h⟩:=bind_inv h;refine ⟨_,_,ref18_word_ok g84,.inl rfl,?_⟩;obtain ⟨v85,g86,h⟩:=bind_inv h;refine ⟨rfl,apnd_b (f:=D.u8) (g:=D.u8) g86,_,apnd_z (f:=D.u8) g86,?_⟩;obtain ⟨v87,g88,h⟩:=bind_inv h;refine ⟨_,_,ref18_word_ok g88,.inl rfl,?_⟩;obtain ⟨v89,g90,h⟩:=bind_inv h;refine ⟨rfl,apnd_b (f:=D.u8) (g:=D.u8) g90,_,apnd_z (f:=D.u8) g90,?_⟩;(conv=>whnf);refine .inr ?_;refine ⟨rfl,?_⟩;refine ⟨_,mapSet_ok (ek:=D.i) (ev:=(D.l 1 D.u8)) (l:=v73) (k:=32) (v:=v89) keyEq_i,?_⟩;(conv=>whnf);refine cOB (by kernel_rfl) ?_;refine ⟨_,hwi72,?_⟩;exact hK78 _ _ wk h
          ·rintro ⟨v68,v69⟩ h;revert h;refine cut_join (fun v91=>⟨X::AV.ref 1 0::X::X::AV.own 4 (List.map Unknown.toD []).length::AV.mp 24::dd 189 ([]),N::some (OB.box (Attrs.av a0))::N::N::some (OB.row 144 3 (List.map Unknown.toD []) .no)::nn 19 (some (OB.map 3 22 (entsD D.i (D.l 1 D.u8) v91))::nn 170 ([]))⟩) ?_ ?_
           ·intro k92 h;revert h;refine sel_if ?_ ?_<;>intro h
            ·obtain ⟨v93,g94,h⟩:=bind_inv h;refine ⟨_,_,some [],ref18_word_ok g94,?_⟩;refine ⟨_,mapSet_ok (ek:=D.i) (ev:=(D.l 1 D.u8)) (l:=v68) (k:=35) (v:=v93) keyEq_i,?_⟩;exact join_end wk h
            ·exact join_end wk h
           ·rintro v91 h;revert h;refine cut_join (fun v95=>⟨dd 4 (AV.own 4 (List.map Unknown.toD v95).length::dd 190 ([])),nn 4 (some (OB.row 144 3 (List.map Unknown.toD v95) .no)::nn 190 ([]))⟩) ?_ ?_
            ·intro k96 h;revert h;refine loop_while (fun (v97,v98)=>⟨X::AV.ref 1 0::X::X::AV.own 4 (List.map Unknown.toD v98).length::AV.mp 24::dd 146 (AV.d (D.i v97)::dd 42 ([])),N::some (OB.box (Attrs.av a0))::N::N::some (OB.row 144 3 (List.map Unknown.toD v98) .no)::nn 19 (some (OB.map 3 22 (entsD D.i (D.l 1 D.u8) v91))::nn 170 ([]))⟩) ?_ ?_
             ·exact wk
             rintro next99 ⟨v97,v98⟩ K100 h hK101;(conv=>whnf);refine .go ?_;revert h;refine sel_if ?_ ?_<;>intro h
             ·revert h;refine cut_join (fun v102=>⟨X::AV.ref 1 0::X::X::AV.own 4 (List.map Unknown.toD v102).length::AV.mp 24::dd 146 (AV.d (D.i v97)::dd 42 ([])),N::some (OB.box (Attrs.av a0))::N::N::some (OB.row 144 3 (List.map Unknown.toD v102) .no)::nn 19 (some (OB.map 3 22 (entsD D.i (D.l 1 D.u8) v91))::nn 170 ([]))⟩) ?_ ?_
              ·intro k103 h;obtain ⟨v104,g105,h⟩:=bind_inv h;obtain ⟨v106,g107,h⟩:=bind_inv h;refine ⟨_,mapGet_ok (ek:=D.i) (ev:=(D.l 1 D.u8)) (l:=v91) (k:=v97) keyEq_i,(D.l 1 D.u8) v104,mget_dg (z:=[]) rfl g105,v106,mget_sg g107,?_⟩;revert h;refine cut_join (fun v108=>⟨X::AV.ref 1 0::X::X::AV.own 4 (List.map Unknown.toD v108).length::AV.mp 24::dd 10 (AV.d (D.i v97)::dd 135 (AV.d (D.i v97)::dd 42 ([]))),N::some (OB.box (Attrs.av a0))::N::N::some (OB.row 144 3 (List.map Unknown.toD v108) .no)::nn 19 (some (OB.map 3 22 (entsD D.i (D.l 1 D.u8) v91))::nn 170 ([]))⟩) ?_ ?_
               ·intro k109 h;revert h;refine sel_if ?_ ?_<;>intro h
                ·obtain ⟨v110,g111,h⟩:=bind_inv h;refine ⟨_,_,some [],ref18_flags_ok g111,?_⟩;obtain ⟨_,g112,h⟩:=bind_inv h;refine ⟨apnd_b0 (g:=D.u8) g112,?_⟩;(conv=>whnf);refine .inl ?_;refine ⟨rfl,?_⟩;refine ⟨rfl,?_⟩;obtain ⟨v113,g114,h⟩:=bind_inv h;refine ⟨rfl,apnd_b (f:=Unknown.toD) (g:=Unknown.toD) g114,_,apnd_z (f:=Unknown.toD) g114,?_⟩;exact join_end wk h
                ·exact join_end wk h
               ·rintro v108 h;refine ⟨a0.Other.length,List.length_map _,?_⟩;revert h;refine cut_join (fun v115=>⟨X::AV.ref 1 0::X::X::AV.own 4 (List.map Unknown.toD v115).length::AV.mp 24::dd 146 (AV.d (D.i v97)::dd 42 ([])),N::some (OB.box (Attrs.av a0))::N::N::some (OB.row 144 3 (List.map Unknown.toD v115) .no)::nn 19 (some (OB.map 3 22 (entsD D.i (D.l 1 D.u8) v91))::nn 170 ([]))⟩) ?_ ?_
                ·intro k116 h;revert h;refine loop_for 172 3 Unknown.toD rfl (fun i117 v118=>⟨X::AV.ref 1 0::X::X::AV.own 4 (List.map Unknown.toD v118).length::AV.mp 24::dd 10 (AV.d (D.i v97)::dd 135 (AV.d (D.i v97)::dd 19 (AV.d (D.l 3 Unknown.toD a0.Other)::AV.d (D.i (a0.Other.length:Int))::AV.d (D.i (i117:Int))::dd 20 ([])))),N::some (OB.box (Attrs.av a0))::N::N::some (OB.row 144 3 (List.map Unknown.toD v118) .no)::nn 19 (some (OB.map 3 22 (entsD D.i (D.l 1 D.u8) v91))::nn 170 ([]))⟩) ?_ ?_ ?_
                 ·exact wk
                 ·rintro v118 K119 h;(conv=>whnf);refine .go ?_;(conv=>whnf);refine sel_f lt_f ?_;exact join_end wk h
                 ·rintro next120 i117 x121 v118 K119 hii117 hxi117 hwi117 h hK122;(conv=>whnf);refine .go ?_;(conv=>whnf);refine sel_t (lt_t hii117) ?_;(conv=>whnf);refine .go ?_;refine ⟨idx_b (f:=Unknown.toD) hii117,Unknown.toD x121,hxi117,rfl,?_⟩;revert h;refine cut_join (fun v123=>⟨X::AV.ref 1 0::X::X::AV.own 4 (List.map Unknown.toD v123).length::AV.mp 24::dd 10 (AV.d (D.i v97)::dd 135 (AV.d (D.i v97)::dd 19 (AV.d (D.l 3 Unknown.toD a0.Other)::AV.d (D.i (a0.Other.length:Int))::AV.d (D.i (i117:Int))::dd 20 ([])))),N::some (OB.box (Attrs.av a0))::N::N::some (OB.row 144 3 (List.map Unknown.toD v123) .no)::nn 19 (some (OB.map 3 22 (entsD D.i (D.l 1 D.u8) v91))::nn 170 ([]))⟩) ?_ ?_
                  ·intro k124 h;revert h;refine sel_if ?_ ?_<;>intro h
                   ·(conv=>whnf);refine .inl (dOB (by kernel_rfl) ?_);obtain ⟨_,g125,h⟩:=bind_inv h;refine ⟨apnd_b0 (g:=D.u8) g125,?_⟩;(conv=>whnf);refine .inl ?_;refine ⟨rfl,?_⟩;refine ⟨rfl,?_⟩;obtain ⟨v126,g127,h⟩:=bind_inv h;refine ⟨rfl,apnd_b (f:=Unknown.toD) (g:=Unknown.toD) g127,_,apnd_z (f:=Unknown.toD) g127,?_⟩;(conv=>whnf);refine cOB (by kernel_rfl) ?_;exact join_end wk h
                   ·exact join_end wk h
                  ·rintro v123 h;refine ⟨_,hwi117,?_⟩;exact hK122 _ _ wk h
                ·rintro v115 h;exact join_end wk h
              ·rintro v102 h;refine ⟨_,rfl,?_⟩;exact hK101 _ _ wk h
             ·exact join_end wk h
            ·rintro v95 h;(conv=>whnf);refine .inl ?_;refine ⟨rfl,?_⟩;cases h;exact ⟨rfl,rfl⟩
theorem ref19_codes_ok {wl:Prop} {a0:List Prefix} {a1:Bool} {r:(List UInt8)} (h:ref19_codes a0 a1=some r):CallsOK (Wl wl) Tryz.prog 79 [AV.d (D.l 4 Prefix.toD a0),AV.d (D.b a1)] [] (.d (D.l 1 D.u8 r)) []:=by
 refine ok Tryz.f79 (by kernel_rfl) (by kernel_rfl) ⟨rfl,?_⟩;unfold ref19_codes at h;refine ⟨a0.length,List.length_map _,?_⟩;revert h;refine cut_join (fun v1=>⟨dd 5 (AV.own 5 (List.map D.u8 v1).length::dd 30 ([])),nn 5 (some (OB.row 5 1 (List.map D.u8 v1) .no)::nn 30 ([]))⟩) ?_ ?_
 ·intro k2 h;revert h;refine loop_for 8 4 Prefix.toD rfl (fun i3 v4=>⟨X::AV.d (D.b a1)::X::X::X::AV.own 5 (List.map D.u8 v4).length::X::X::AV.d (D.l 4 Prefix.toD a0)::AV.d (D.i (a0.length:Int))::AV.d (D.i (i3:Int))::dd 25 ([]),nn 5 (some (OB.row 5 1 (List.map D.u8 v4) .no)::nn 30 ([]))⟩) ?_ ?_ ?_
  ·exact wk
  ·rintro v4 K5 h;(conv=>whnf);refine .go ?_;(conv=>whnf);refine sel_f lt_f ?_;exact join_end wk h
  ·rintro next6 i3 x7 v4 K5 hii3 hxi3 hwi3 h hK8;(conv=>whnf);refine .go ?_;(conv=>whnf);refine sel_t (lt_t hii3) ?_;(conv=>whnf);refine .go ?_;refine ⟨idx_b (f:=Prefix.toD) hii3,Prefix.toD x7,hxi3,rfl,?_⟩;revert h;refine cut_join (fun v9=>⟨X::AV.d (D.b a1)::X::X::X::AV.own 5 (List.map D.u8 v9).length::X::X::AV.d (D.l 4 Prefix.toD a0)::AV.d (D.i (a0.length:Int))::AV.d (D.i (i3:Int))::dd 25 ([]),nn 5 (some (OB.row 5 1 (List.map D.u8 v9) .no)::nn 30 ([]))⟩) ?_ ?_
   ·intro k10 h;revert h;refine sel_if ?_ ?_<;>intro h
    ·(conv=>whnf);refine .inl (dOB (by kernel_rfl) ?_);refine ⟨_,u8_wrap _,?_⟩;refine ⟨rfl,?_⟩;obtain ⟨v11,g12,h⟩:=bind_inv h;refine ⟨rfl,apnd_b (f:=D.u8) (g:=D.u8) g12,_,apnd_z (f:=D.u8) g12,?_⟩;obtain ⟨v13,g14,h⟩:=bind_inv h;refine ⟨_,_,ref01_Bytes_ok g14,.inr rfl,?_⟩;refine ⟨_,rfl,?_⟩;refine ⟨by decide,_,rfl,?_⟩;(conv=>whnf);refine .inr (.inl ?_);obtain ⟨_,g15,h⟩:=bind_inv h;have g21c:=chk_inv g15;refine ⟨view_b (f:=D.u8) g15,rfl,(Int.toNat 0),(Int.toNat (i64w (Int.tdiv (i64w (x7.Len + 7)) 8)) - Int.toNat 0),rfl,rfl,?_⟩;refine ⟨(by first | rfl | (simp only [List.length_map,List.length_set];omega) | (simp only [cpy,List.length_map,List.length_set,List.length_append,List.length_take,List.length_drop,List.length_replicate];omega)),List.map D.u8 (List.take (Int.toNat (i64w (Int.tdiv (i64w (x7.Len + 7)) 8)) - Int.toNat 0) (List.drop (Int.toNat 0) v13)),view_z,?_⟩;obtain ⟨v16,g17,h⟩:=bind_inv h;refine ⟨rfl,apnd_b (f:=D.u8) (g:=D.u8) g17,_,apnd_z (f:=D.u8) g17,?_⟩;(conv=>whnf);refine cOB (by kernel_rfl) ?_;exact join_end wk h
    ·exact join_end wk h
   ·rintro v9 h;refine ⟨_,hwi3,?_⟩;exact hK8 _ _ wk h
 ·rintro v1 h;(conv=>whnf);refine .inl ?_;(conv=>whnf);refine .inl ?_;refine ⟨rfl,?_⟩;cases h;exact ⟨rfl,rfl⟩
theorem ref19_put_ok {wl:Prop} {a0:List Unknown} {a1:Unknown} {r:(List Unknown)} (h:ref19_put a0 a1=some r):CallsOK (Wl wl) Tryz.prog 80 [AV.d (D.l 3 Unknown.toD a0),AV.d (Unknown.toD a1)] [] (.d (D.l 3 Unknown.toD r)) []:=by
 refine ok Tryz.f80 (by kernel_rfl) (by kernel_rfl) ⟨rfl,?_⟩;unfold ref19_put at h;revert h;refine cut_join (fun v1=>⟨AV.d (D.l 3 Unknown.toD a0)::X::X::AV.ref 3 0::X::AV.d (D.i v1)::dd 27 ([]),N::N::N::some (OB.box (Unknown.av a1))::nn 29 ([])⟩) ?_ ?_
 ·intro k2 h;revert h;refine loop_while (fun v3=>⟨AV.d (D.l 3 Unknown.toD a0)::X::X::AV.ref 3 0::X::AV.d (D.i v3)::dd 27 ([]),N::N::N::some (OB.box (Unknown.av a1))::nn 29 ([])⟩) ?_ ?_
  ·exact wk
  rintro next4 v3 K5 h hK6;revert h;refine cut_join (fun v7=>⟨AV.d (D.l 3 Unknown.toD a0)::X::X::AV.ref 3 0::X::AV.d (D.i v3)::dd 13 (AV.d (D.b v7)::dd 13 ([])),N::N::N::some (OB.box (Unknown.av a1))::nn 29 ([])⟩) ?_ ?_
  ·intro k8 h;(conv=>whnf);refine .inl (dOB (by kernel_rfl) ?_);refine ⟨a0.length,List.length_map _,?_⟩;revert h;refine sel_if ?_ ?_<;>intro h
   ·obtain ⟨v9,g10,h⟩:=bind_inv h;refine ⟨geti_b (f:=Unknown.toD) g10,Unknown.toD v9,geti_d (f:=Unknown.toD) g10,rfl,?_⟩;(conv=>whnf);refine cOB (by kernel_rfl) ?_;exact join_end wk h
   ·(conv=>whnf);refine cOB (by kernel_rfl) ?_;exact join_end wk h
  ·rintro v7 h;(conv=>whnf);refine .go ?_;revert h;refine sel_if ?_ ?_<;>intro h
   ·(conv=>whnf);refine .go ?_;refine ⟨_,rfl,?_⟩;exact hK6 _ _ wk h
   ·exact join_end wk h
 ·rintro v1 h;(conv=>whnf);refine .inl (dOB (by kernel_rfl) ?_);obtain ⟨v11,g12,h⟩:=bind_inv h;refine ⟨part_b (f:=Unknown.toD) g12,_,part_z (f:=Unknown.toD) g12,?_⟩;obtain ⟨_,g13,h⟩:=bind_inv h;refine ⟨apnd_b0 (g:=Unknown.toD) g13,?_⟩;refine ⟨rfl,?_⟩;obtain ⟨v14,g15,h⟩:=bind_inv h;refine ⟨rfl,apnd_b (f:=Unknown.toD) (g:=Unknown.toD) g15,_,apnd_z (f:=Unknown.toD) g15,?_⟩;obtain ⟨v16,g17,h⟩:=bind_inv h;refine ⟨part_b0 (f:=Unknown.toD) g17,_,part_z0 (f:=Unknown.toD) g17,?_⟩;obtain ⟨v18,g19,h⟩:=bind_inv h;refine ⟨rfl,apnd_b (f:=Unknown.toD) (g:=Unknown.toD) g19,_,apnd_z (f:=Unknown.toD) g19,?_⟩;(conv=>whnf);refine cOB (by kernel_rfl) ?_;(conv=>whnf);refine .inl ?_;(conv=>whnf);refine .inl ?_;refine ⟨rfl,?_⟩;cases h;exact ⟨rfl,rfl⟩
end Go.AX.Q33
end
section
namespace Go.AX.Q33
open Go Go.AX Go.Proofs
set_option maxRecDepth 100000
set_option maxHeartbeats 4000000
set_option linter.unusedVariables false
theorem ref18_Join_ok {wl:Prop} {a0:List Unknown} {r:(List UInt8)×Int} (h:ref18_Join a0=some r):CallsOK (Wl wl) Tryz.prog 82 [AV.d (D.l 3 Unknown.toD a0)] [] (.tup [.d (D.l 1 D.u8 r.1),.d (D.i r.2)]) []:=by
 refine ok Tryz.f82 (by kernel_rfl) (by kernel_rfl) ⟨rfl,?_⟩;unfold ref18_Join at h;refine ⟨a0.length,List.length_map _,?_⟩;revert h;refine cut_join (fun _=>⟨AV.d (D.l 3 Unknown.toD a0)::dd 88 ([]),nn 89 ([])⟩) ?_ ?_
 ·intro k1 h;revert h;refine loop_for 10 3 Unknown.toD rfl (fun i2 _=>⟨AV.d (D.l 3 Unknown.toD a0)::dd 9 (AV.d (D.l 3 Unknown.toD a0)::AV.d (D.i (a0.length:Int))::AV.d (D.i (i2:Int))::dd 76 ([])),nn 89 ([])⟩) ?_ ?_ ?_
  ·exact wk
  ·rintro _ K3 h;(conv=>whnf);refine .go ?_;(conv=>whnf);refine sel_f lt_f ?_;exact join_end wk h
  ·rintro next4 i2 x5 _ K3 hii2 hxi2 hwi2 h hK6;(conv=>whnf);refine .go ?_;(conv=>whnf);refine sel_t (lt_t hii2) ?_;(conv=>whnf);refine .go ?_;refine ⟨idx_b (f:=Unknown.toD) hii2,Unknown.toD x5,hxi2,rfl,?_⟩;revert h;refine cut_join (fun v7=>⟨AV.d (D.l 3 Unknown.toD a0)::dd 9 (AV.d (D.l 3 Unknown.toD a0)::AV.d (D.i (a0.length:Int))::AV.d (D.i (i2:Int))::dd 26 (AV.d (D.b v7)::dd 49 ([]))),nn 89 ([])⟩) ?_ ?_
   ·intro k8 h;revert h;refine sel_if ?_ ?_<;>intro h
    ·exact join_end wk h
    ·revert h;refine sel_if ?_ ?_<;>intro h
     ·exact join_end wk h
     ·revert h;refine sel_if ?_ ?_<;>intro h
      ·exact join_end wk h
      ·revert h;refine sel_if ?_ ?_<;>intro h
       ·exact join_end wk h
       ·refine ⟨x5.Data.length,List.length_map _,?_⟩;exact join_end wk h
   ·rintro v7 h;(conv=>whnf);refine .go ?_;revert h;refine sel_if ?_ ?_<;>intro h
    ·(conv=>whnf);refine .inl ?_;refine ⟨rfl,?_⟩;cases h;exact ⟨rfl,rfl⟩
    ·refine ⟨_,hwi2,?_⟩;exact hK6 _ _ wk h
 ·rintro _ h;refine ⟨a0.length,List.length_map _,?_⟩;revert h;refine cut_join (fun v9=>⟨dd 6 (AV.own 6 (List.map D.u8 v9).length::dd 82 ([])),nn 6 (some (OB.row 5 1 (List.map D.u8 v9) .no)::nn 82 ([]))⟩) ?_ ?_
  ·intro k10 h;revert h;refine loop_for 41 3 Unknown.toD rfl (fun i11 v12=>⟨dd 6 (AV.own 6 (List.map D.u8 v12).length::dd 34 (AV.d (D.l 3 Unknown.toD a0)::AV.d (D.i (a0.length:Int))::AV.d (D.i (i11:Int))::dd 45 ([]))),nn 6 (some (OB.row 5 1 (List.map D.u8 v12) .no)::nn 82 ([]))⟩) ?_ ?_ ?_
   ·exact wk
   ·rintro v12 K13 h;(conv=>whnf);refine .go ?_;(conv=>whnf);refine sel_f lt_f ?_;exact join_end wk h
   ·rintro next14 i11 x15 v12 K13 hii11 hxi11 hwi11 h hK16;(conv=>whnf);refine .go ?_;(conv=>whnf);refine sel_t (lt_t hii11) ?_;(conv=>whnf);refine .go ?_;refine ⟨idx_b (f:=Unknown.toD) hii11,Unknown.toD x15,hxi11,rfl,?_⟩;refine ⟨x15.Data.length,List.length_map _,?_⟩;revert h;refine cut_join (fun v17=>⟨dd 6 (AV.own 6 (List.map D.u8 v17).length::X::AV.ref 8 0::dd 32 (AV.d (D.l 3 Unknown.toD a0)::AV.d (D.i (a0.length:Int))::AV.d (D.i (i11:Int))::dd 45 ([]))),nn 6 (some (OB.row 5 1 (List.map D.u8 v17) .no)::N::some (OB.box (Unknown.av x15))::nn 80 ([]))⟩) ?_ ?_
    ·intro k18 h;revert h;refine sel_if ?_ ?_<;>intro h
     ·refine ⟨_,u8_wrap _,?_⟩;refine ⟨_,u8_wrap _,?_⟩;refine ⟨_,u8_wrap _,?_⟩;refine ⟨_,u8_wrap _,?_⟩;refine ⟨by decide,_,rfl,?_⟩;refine ⟨_,u8_wrap _,?_⟩;refine ⟨_,u8_wrap _,?_⟩;refine ⟨rfl,?_⟩;obtain ⟨v19,g20,h⟩:=bind_inv h;refine ⟨rfl,apnd_b (f:=D.u8) (g:=D.u8) g20,_,apnd_z (f:=D.u8) g20,?_⟩;exact join_end wk h
     ·refine ⟨_,u8_wrap _,?_⟩;refine ⟨_,u8_wrap _,?_⟩;refine ⟨_,u8_wrap _,?_⟩;refine ⟨_,u8_wrap _,?_⟩;refine ⟨rfl,?_⟩;obtain ⟨v21,g22,h⟩:=bind_inv h;refine ⟨rfl,apnd_b (f:=D.u8) (g:=D.u8) g22,_,apnd_z (f:=D.u8) g22,?_⟩;exact join_end wk h
    ·rintro v17 h;obtain ⟨v23,g24,h⟩:=bind_inv h;refine ⟨rfl,apnd_b (f:=D.u8) (g:=D.u8) g24,_,apnd_z (f:=D.u8) g24,?_⟩;refine ⟨_,hwi11,?_⟩;exact hK16 _ _ wk h
  ·rintro v9 h;refine ⟨v9.length,by first | exact List.length_map _ | rfl | (simp only [List.length_map];omega),?_⟩;(conv=>whnf);refine .go ?_;revert h;refine sel_if ?_ ?_<;>intro h
   ·(conv=>whnf);refine .inl ?_;refine ⟨rfl,?_⟩;cases h;exact ⟨rfl,rfl⟩
   ·(conv=>whnf);refine .inl ?_;refine ⟨rfl,?_⟩;cases h;exact ⟨rfl,rfl⟩
theorem ref19_parts_ok {wl:Prop} {a0:Update} {r:(List UInt8)×Int} (h:ref19_parts a0=some r):CallsOK (Wl wl) Tryz.prog 41 [AV.d (Update.toD a0)] [] (.tup [.d (D.l 1 D.u8 r.1),.d (D.i r.2)]) []:=by
 refine ok Tryz.f41 (by kernel_rfl) (by kernel_rfl) ⟨rfl,?_⟩;unfold ref19_parts at h;refine ⟨a0.Announce.length,List.length_map _,?_⟩;revert h;refine cut_join (fun v1=>⟨X::AV.ref 1 0::X::X::AV.d (D.l 3 Unknown.toD v1)::dd 91 ([]),N::some (OB.box (Update.av a0))::nn 94 ([])⟩) ?_ ?_
 ·intro k2 h;revert h;refine sel_if ?_ ?_<;>intro h
  ·obtain ⟨⟨v3,v4⟩,g5,h⟩:=bind_inv h;refine ⟨_,_,some [],ref18_Write_ok g5,?_⟩;(conv=>whnf);refine .go ?_;revert h;refine sel_if ?_ ?_<;>intro h
   ·cases h;exact ⟨rfl,rfl⟩
   ·exact join_end wk h
  ·exact join_end wk h
 ·rintro v1 h;obtain ⟨v6,g7,h⟩:=bind_inv h;refine ⟨_,_,some [],ref19_codes_ok g7,?_⟩;refine ⟨v6.length,List.length_map _,?_⟩;revert h;refine cut_join (fun v8=>⟨X::AV.ref 1 0::X::X::AV.d (D.l 3 Unknown.toD v8)::dd 91 ([]),N::some (OB.box (Update.av a0))::nn 94 ([])⟩) ?_ ?_
  ·intro k9 h;revert h;refine sel_if ?_ ?_<;>intro h
   ·obtain ⟨v10,g11,h⟩:=bind_inv h;refine ⟨_,_,some [38],ref01_Bytes_ok g11,?_⟩;refine ⟨rfl,?_⟩;obtain ⟨v12,g13,h⟩:=bind_inv h;refine ⟨rfl,apnd_b (f:=D.u8) (g:=D.u8) g13,_,apnd_z (f:=D.u8) g13,?_⟩;refine ⟨rfl,?_⟩;obtain ⟨v14,g15,h⟩:=bind_inv h;refine ⟨rfl,apnd_b (f:=D.u8) (g:=D.u8) g15,_,apnd_z (f:=D.u8) g15,?_⟩;obtain ⟨v16,g17,h⟩:=bind_inv h;refine ⟨rfl,apnd_b (f:=D.u8) (g:=D.u8) g17,_,apnd_z (f:=D.u8) g17,?_⟩;refine ⟨rfl,?_⟩;obtain ⟨v18,g19,h⟩:=bind_inv h;refine ⟨_,_,some [],ref19_put_ok g19,?_⟩;exact join_end wk h
   ·exact join_end wk h
  ·rintro v8 h;obtain ⟨v20,g21,h⟩:=bind_inv h;refine ⟨_,_,some [],ref19_codes_ok g21,?_⟩;refine ⟨v20.length,List.length_map _,?_⟩;revert h;refine cut_join (fun v22=>⟨X::AV.ref 1 0::X::X::AV.d (D.l 3 Unknown.toD v22)::dd 91 ([]),N::some (OB.box (Update.av a0))::nn 94 ([])⟩) ?_ ?_
   ·intro k23 h;revert h;refine sel_if ?_ ?_<;>intro h
    ·obtain ⟨v24,g25,h⟩:=bind_inv h;refine ⟨rfl,apnd_b (f:=D.u8) (g:=D.u8) g25,_,apnd_z (f:=D.u8) g25,?_⟩;refine ⟨rfl,?_⟩;obtain ⟨v26,g27,h⟩:=bind_inv h;refine ⟨_,_,some [],ref19_put_ok g27,?_⟩;exact join_end wk h
    ·exact join_end wk h
   ·rintro v22 h;obtain ⟨⟨v28,v29⟩,g30,h⟩:=bind_inv h;refine ⟨_,_,some [],ref18_Join_ok g30,?_⟩;(conv=>whnf);refine .go ?_;revert h;refine sel_if ?_ ?_<;>intro h
    ·(conv=>whnf);refine .inl ?_;refine ⟨rfl,?_⟩;cases h;exact ⟨rfl,rfl⟩
    ·obtain ⟨v31,g32,h⟩:=bind_inv h;refine ⟨_,_,some [],ref19_codes_ok g32,?_⟩;refine ⟨v31.length,List.length_map _,?_⟩;refine ⟨by decide,_,rfl,?_⟩;refine ⟨_,u8_wrap _,?_⟩;refine ⟨v31.length,List.length_map _,?_⟩;refine ⟨_,u8_wrap _,?_⟩;obtain ⟨v33,g34,h⟩:=bind_inv h;refine ⟨rfl,apnd_b (f:=D.u8) (g:=D.u8) g34,_,apnd_z (f:=D.u8) g34,?_⟩;refine ⟨v28.length,List.length_map _,?_⟩;refine ⟨by decide,_,rfl,?_⟩;refine ⟨_,u8_wrap _,?_⟩;refine ⟨v28.length,List.length_map _,?_⟩;refine ⟨_,u8_wrap _,?_⟩;refine ⟨rfl,?_⟩;obtain ⟨v35,g36,h⟩:=bind_inv h;refine ⟨rfl,apnd_b (f:=D.u8) (g:=D.u8) g36,_,apnd_z (f:=D.u8) g36,?_⟩;obtain ⟨v37,g38,h⟩:=bind_inv h;refine ⟨rfl,apnd_b (f:=D.u8) (g:=D.u8) g38,_,apnd_z (f:=D.u8) g38,?_⟩;obtain ⟨v39,g40,h⟩:=bind_inv h;refine ⟨_,_,some [],ref19_codes_ok g40,?_⟩;obtain ⟨v41,g42,h⟩:=bind_inv h;refine ⟨rfl,apnd_b (f:=D.u8) (g:=D.u8) g42,_,apnd_z (f:=D.u8) g42,?_⟩;(conv=>whnf);refine .inl ?_;refine ⟨rfl,?_⟩;cases h;exact ⟨rfl,rfl⟩
theorem ref18_Empty_ok {wl:Prop}  {r:Attrs} (h:ref18_Empty=some r):CallsOK (Wl wl) Tryz.prog 51 [] [] (.d (Attrs.toD r)) []:=by
 refine ok Tryz.f51 (by kernel_rfl) (by kernel_rfl) ⟨rfl,?_⟩;unfold ref18_Empty at h;cases h;exact ⟨rfl,rfl⟩
theorem ref01_FromBytes_ok {wl:Prop} {a0:List UInt8} {r:Addr×Int} (h:ref01_FromBytes a0=some r):CallsOK (Wl wl) Tryz.prog 103 [AV.d (D.l 1 D.u8 a0)] [] (.tup [.d (Addr.toD r.1),.d (D.i r.2)]) []:=by
 refine ok Tryz.f103 (by kernel_rfl) (by kernel_rfl) ⟨rfl,?_⟩;unfold ref01_FromBytes at h;revert h;refine cut_join (fun v1=>⟨AV.d (D.l 1 D.u8 a0)::X::AV.ref 2 0::dd 11 (AV.d (D.b v1)::dd 28 ([])),N::N::some (OB.box Addr.zv)::nn 40 ([])⟩) ?_ ?_
 ·intro k2 h;refine ⟨a0.length,List.length_map _,?_⟩;revert h;refine sel_if ?_ ?_<;>intro h
  ·refine ⟨a0.length,List.length_map _,?_⟩;exact join_end wk h
  ·exact join_end wk h
 ·rintro v1 h;(conv=>whnf);refine .go ?_;revert h;refine sel_if ?_ ?_<;>intro h
  ·cases h;exact ⟨rfl,rfl⟩
  ·refine ⟨a0.length,List.length_map _,?_⟩;refine ⟨a0.length,List.length_map _,?_⟩;revert h;refine cut_join (fun v3=>⟨X::X::AV.ref 2 0::X::AV.ref 4 0::dd 38 ([]),N::N::some (OB.box Addr.zv)::N::some (OB.box (Addr.av v3))::nn 38 ([])⟩) ?_ ?_
   ·intro k4 h;revert h;refine loop_for 20 1 D.u8 rfl (fun i5 v6=>⟨X::X::AV.ref 2 0::X::AV.ref 4 0::dd 15 (AV.d (D.l 1 D.u8 a0)::AV.d (D.i (a0.length:Int))::AV.d (D.i (i5:Int))::dd 20 ([])),N::N::some (OB.box Addr.zv)::N::some (OB.box (Addr.av v6))::nn 38 ([])⟩) ?_ ?_ ?_
    ·exact wk
    ·rintro v6 K7 h;(conv=>whnf);refine .go ?_;(conv=>whnf);refine sel_f lt_f ?_;exact join_end wk h
    ·rintro next8 i5 x9 v6 K7 hii5 hxi5 hwi5 h hK10;(conv=>whnf);refine .go ?_;(conv=>whnf);refine sel_t (lt_t hii5) ?_;(conv=>whnf);refine .go ?_;refine ⟨idx_b (f:=D.u8) hii5,D.u8 x9,hxi5,rfl,?_⟩;refine ⟨by decide,_,u64_wrap _,?_⟩;refine ⟨by decide,_,u64_shr v6.Lo _,?_⟩;refine ⟨_,u64_wrap _,?_⟩;refine ⟨by decide,_,u64_wrap _,?_⟩;refine ⟨_,u64_wrap _,?_⟩;refine ⟨_,u64_wrap _,?_⟩;refine ⟨_,hwi5,?_⟩;exact hK10 _ _ wk h
   ·rintro v3 h;cases h;exact ⟨rfl,rfl⟩
theorem ref02_width_ok {wl:Prop} {a0:Addr} {r:Int} (h:ref02_width a0=some r):CallsOK (Wl wl) Tryz.prog 148 [AV.d (Addr.toD a0)] [] (.d (D.i r)) []:=by
 refine ok Tryz.f148 (by kernel_rfl) (by kernel_rfl) ⟨rfl,?_⟩;unfold ref02_width at h;(conv=>whnf);refine .go ?_;revert h;refine sel_if ?_ ?_<;>intro h
 ·cases h;exact ⟨rfl,rfl⟩
 ·cases h;exact ⟨rfl,rfl⟩
theorem ref02_Make_ok {wl:Prop} {a0:Addr} {a1:Int} {r:Prefix×Int} (h:ref02_Make a0 a1=some r):CallsOK (Wl wl) Tryz.prog 104 [AV.d (Addr.toD a0),AV.d (D.i a1)] [] (.tup [.d (Prefix.toD r.1),.d (D.i r.2)]) []:=by
 refine ok Tryz.f104 (by kernel_rfl) (by kernel_rfl) ⟨rfl,?_⟩;unfold ref02_Make at h;(conv=>whnf);refine .go ?_;obtain ⟨v1,g2,h⟩:=bind_inv h;refine ⟨_,_,some [],ref01_Valid_ok g2,?_⟩;(conv=>whnf);refine .go ?_;revert h;refine sel_if ?_ ?_<;>intro h
 ·cases h;exact ⟨rfl,rfl⟩
 ·revert h;refine cut_join (fun v3=>⟨X::AV.d (D.i a1)::AV.ref 2 0::X::AV.ref 4 0::dd 10 (AV.d (D.b v3)::dd 38 ([])),N::N::some (OB.box (Addr.av a0))::N::some (OB.box Prefix.zv)::nn 49 ([])⟩) ?_ ?_
  ·intro k4 h;revert h;refine sel_if ?_ ?_<;>intro h
   ·exact join_end wk h
   ·obtain ⟨v5,g6,h⟩:=bind_inv h;refine ⟨_,_,some [],ref02_width_ok g6,?_⟩;exact join_end wk h
  ·rintro v3 h;(conv=>whnf);refine .go ?_;revert h;refine sel_if ?_ ?_<;>intro h
   ·cases h;exact ⟨rfl,rfl⟩
   ·obtain ⟨v7,g8,h⟩:=bind_inv h;refine ⟨_,_,some [26],ref01_Bytes_ok g8,?_⟩;revert h;refine cut_join (fun v9=>⟨X::AV.d (D.i a1)::X::X::AV.ref 4 0::X::AV.own 26 (List.map D.u8 v9).length::dd 47 ([]),nn 4 (some (OB.box Prefix.zv)::nn 21 (some (OB.row 5 1 (List.map D.u8 v9) .no)::nn 27 ([])))⟩) ?_ ?_
    ·intro k10 h;revert h;refine loop_while (fun (v11,v12)=>⟨X::AV.d (D.i a1)::X::X::AV.ref 4 0::X::AV.own 26 (List.map D.u8 v12).length::AV.d (D.i v11)::dd 46 ([]),nn 4 (some (OB.box Prefix.zv)::nn 21 (some (OB.row 5 1 (List.map D.u8 v12) .no)::nn 27 ([])))⟩) ?_ ?_
     ·exact wk
     rintro next13 ⟨v11,v12⟩ K14 h hK15;refine ⟨v12.length,by first | exact List.length_map _ | rfl | (simp only [List.length_map];omega),?_⟩;refine ⟨_,rfl,?_⟩;(conv=>whnf);refine .go ?_;revert h;refine sel_if ?_ ?_<;>intro h
     ·(conv=>whnf);refine .go ?_;refine ⟨by decide,_,rfl,?_⟩;obtain ⟨v16,g17,h⟩:=bind_inv h;refine ⟨rfl,geti_b (f:=D.u8) g17,?_⟩;refine ⟨rfl,D.u8 v16,(geti_d (f:=D.u8) g17),?_⟩;refine ⟨by decide,_,rfl,?_⟩;refine ⟨_,u64_wrap _,?_⟩;refine ⟨Int.natCast_nonneg _,_,u8_shr (128:UInt8) _,?_⟩;refine ⟨_,u8_wrap _,?_⟩;obtain ⟨v18,g19,h⟩:=bind_inv h;refine ⟨rfl,geti_b (f:=D.u8) g19,?_⟩;obtain ⟨v20,g21,h⟩:=bind_inv h;have g21l:=seti_len g21;refine ⟨rfl,rfl,D.u8 v18,(geti_d (f:=D.u8) g19),?_⟩;refine ⟨_,seti_z (f:=D.u8) g21,?_⟩;refine ⟨_,rfl,?_⟩;exact hK15 _ _ wk h
     ·exact join_end wk h
    ·rintro v9 h;refine ⟨rfl,?_⟩;obtain ⟨⟨v22,v23⟩,g24,h⟩:=bind_inv h;refine ⟨_,_,none,ref01_FromBytes_ok g24,?_⟩;cases h;exact ⟨rfl,rfl⟩
theorem ref02_Valid_ok {wl:Prop} {a0:Prefix} {r:Bool} (h:ref02_Valid a0=some r):CallsOK (Wl wl) Tryz.prog 75 [AV.d (Prefix.toD a0)] [] (.d (D.b r)) []:=by
 refine ok Tryz.f75 (by kernel_rfl) (by kernel_rfl) ⟨rfl,?_⟩;unfold ref02_Valid at h;obtain ⟨⟨v1,v2⟩,g3,h⟩:=bind_inv h;refine ⟨_,_,some [],ref02_Make_ok g3,?_⟩;revert h;refine cut_join (fun v4=>⟨X::X::AV.d (D.b v4)::dd 17 ([]),nn 20 ([])⟩) ?_ ?_
 ·intro k5 h;revert h;refine sel_if ?_ ?_<;>intro h
  ·exact join_end wk h
  ·exact join_end wk h
 ·rintro v4 h;cases h;exact ⟨rfl,rfl⟩
theorem ref15_Same_ok {wl:Prop} {a0:List Segment} {a1:List Segment} {r:Bool} (h:ref15_Same a0 a1=some r):CallsOK (Wl wl) Tryz.prog 117 [AV.d (D.l 2 Segment.toD a0),AV.d (D.l 2 Segment.toD a1)] [] (.d (D.b r)) []:=by
 refine ok Tryz.f117 (by kernel_rfl) (by kernel_rfl) ⟨rfl,?_⟩;unfold ref15_Same at h;refine ⟨a0.length,List.length_map _,?_⟩;refine ⟨a1.length,List.length_map _,?_⟩;(conv=>whnf);refine .go ?_;revert h;refine sel_if ?_ ?_<;>intro h
 ·cases h;exact ⟨rfl,rfl⟩
 ·refine ⟨a0.length,List.length_map _,?_⟩;revert h;refine cut_join (fun _=>⟨dd 61 ([]),nn 61 ([])⟩) ?_ ?_
  ·intro k1 h;revert h;refine loop_for 14 2 Segment.toD rfl (fun i2 _=>⟨X::AV.d (D.l 2 Segment.toD a1)::dd 12 (AV.d (D.l 2 Segment.toD a0)::AV.d (D.i (a0.length:Int))::AV.d (D.i (i2:Int))::dd 44 ([])),nn 61 ([])⟩) ?_ ?_ ?_
   ·exact wk
   ·rintro _ K3 h;(conv=>whnf);refine .go ?_;(conv=>whnf);refine sel_f lt_f ?_;exact join_end wk h
   ·rintro next4 i2 x5 _ K3 hii2 hxi2 hwi2 h hK6;(conv=>whnf);refine .go ?_;(conv=>whnf);refine sel_t (lt_t hii2) ?_;revert h;refine cut_join (fun _=>⟨X::AV.d (D.l 2 Segment.toD a1)::dd 12 (AV.d (D.l 2 Segment.toD a0)::AV.d (D.i (a0.length:Int))::AV.d (D.i (i2:Int))::dd 44 ([])),nn 61 ([])⟩) ?_ ?_
    ·intro k7 h;refine ⟨idx_b (f:=Segment.toD) hii2,Segment.toD x5,hxi2,rfl,?_⟩;revert h;refine cut_join (fun v8=>⟨X::AV.d (D.l 2 Segment.toD a1)::X::X::X::AV.d (D.i (i2:Int))::AV.ref 6 0::dd 7 (AV.d (D.l 2 Segment.toD a0)::AV.d (D.i (a0.length:Int))::AV.d (D.i (i2:Int))::dd 23 (AV.d (D.b v8)::dd 20 ([]))),nn 6 (some (OB.box (Segment.av x5))::nn 54 ([]))⟩) ?_ ?_
     ·intro k9 h;(conv=>whnf);refine .inl (dOB (by kernel_rfl) ?_);obtain ⟨v10,g11,h⟩:=bind_inv h;refine ⟨geti_b (f:=Segment.toD) g11,Segment.toD v10,geti_d (f:=Segment.toD) g11,rfl,?_⟩;revert h;refine sel_if ?_ ?_<;>intro h
      ·(conv=>whnf);refine cOB (by kernel_rfl) ?_;exact join_end wk h
      ·refine ⟨x5.ASNs.length,List.length_map _,?_⟩;obtain ⟨v12,g13,h⟩:=bind_inv h;refine ⟨geti_b (f:=Segment.toD) g13,Segment.toD v12,geti_d (f:=Segment.toD) g13,rfl,?_⟩;refine ⟨v12.ASNs.length,List.length_map _,?_⟩;(conv=>whnf);refine cOB (by kernel_rfl) ?_;exact join_end wk h
     ·rintro v8 h;(conv=>whnf);refine .go ?_;revert h;refine sel_if ?_ ?_<;>intro h
      ·cases h;exact ⟨rfl,rfl⟩
      ·refine ⟨x5.ASNs.length,List.length_map _,?_⟩;revert h;refine cut_join (fun _=>⟨X::AV.d (D.l 2 Segment.toD a1)::dd 12 (AV.d (D.l 2 Segment.toD a0)::AV.d (D.i (a0.length:Int))::AV.d (D.i (i2:Int))::dd 44 ([])),nn 61 ([])⟩) ?_ ?_
       ·intro k14 h;revert h;refine loop_for 42 1 D.i rfl (fun i15 _=>⟨X::AV.d (D.l 2 Segment.toD a1)::X::X::X::AV.d (D.i (i2:Int))::dd 8 (AV.d (D.l 2 Segment.toD a0)::AV.d (D.i (a0.length:Int))::AV.d (D.i (i2:Int))::dd 25 (AV.d (D.l 1 D.i x5.ASNs)::AV.d (D.i (x5.ASNs.length:Int))::AV.d (D.i (i15:Int))::dd 16 ([]))),nn 61 ([])⟩) ?_ ?_ ?_
        ·exact wk
        ·rintro _ K16 h;(conv=>whnf);refine .go ?_;(conv=>whnf);refine sel_f lt_f ?_;exact join_end wk h
        ·rintro next17 i15 x18 _ K16 hii15 hxi15 hwi15 h hK19;(conv=>whnf);refine .go ?_;(conv=>whnf);refine sel_t (lt_t hii15) ?_;(conv=>whnf);refine .go ?_;refine ⟨idx_b (f:=D.i) hii15,D.i x18,hxi15,rfl,?_⟩;obtain ⟨v20,g21,h⟩:=bind_inv h;refine ⟨geti_b (f:=Segment.toD) g21,Segment.toD v20,geti_d (f:=Segment.toD) g21,rfl,?_⟩;obtain ⟨v22,g23,h⟩:=bind_inv h;refine ⟨geti_b (f:=D.i) g23,D.i v22,geti_d (f:=D.i) g23,rfl,?_⟩;(conv=>whnf);refine .go ?_;revert h;refine sel_if ?_ ?_<;>intro h
         ·cases h;exact ⟨rfl,rfl⟩
         ·refine ⟨_,hwi15,?_⟩;exact hK19 _ _ wk h
       ·rintro _ h;exact join_end wk h
    ·rintro _ h;refine ⟨_,hwi2,?_⟩;exact hK6 _ _ wk h
  ·rintro _ h;cases h;exact ⟨rfl,rfl⟩
theorem ref17_Same_ok {wl:Prop} {a0:List Community} {a1:List Community} {r:Bool} (h:ref17_Same a0 a1=some r):CallsOK (Wl wl) Tryz.prog 118 [AV.d (D.l 2 Community.toD a0),AV.d (D.l 2 Community.toD a1)] [] (.d (D.b r)) []:=by
 refine ok Tryz.f118 (by kernel_rfl) (by kernel_rfl) ⟨rfl,?_⟩;unfold ref17_Same at h;refine ⟨a0.length,List.length_map _,?_⟩;refine ⟨a1.length,List.length_map _,?_⟩;(conv=>whnf);refine .go ?_;revert h;refine sel_if ?_ ?_<;>intro h
 ·cases h;exact ⟨rfl,rfl⟩
 ·refine ⟨a0.length,List.length_map _,?_⟩;revert h;refine cut_join (fun _=>⟨dd 26 ([]),nn 26 ([])⟩) ?_ ?_
  ·intro k1 h;revert h;refine loop_for 12 2 Community.toD rfl (fun i2 _=>⟨X::AV.d (D.l 2 Community.toD a1)::dd 10 (AV.d (D.l 2 Community.toD a0)::AV.d (D.i (a0.length:Int))::AV.d (D.i (i2:Int))::dd 11 ([])),nn 26 ([])⟩) ?_ ?_ ?_
   ·exact wk
   ·rintro _ K3 h;(conv=>whnf);refine .go ?_;(conv=>whnf);refine sel_f lt_f ?_;exact join_end wk h
   ·rintro next4 i2 x5 _ K3 hii2 hxi2 hwi2 h hK6;(conv=>whnf);refine .go ?_;(conv=>whnf);refine sel_t (lt_t hii2) ?_;(conv=>whnf);refine .go ?_;refine ⟨idx_b (f:=Community.toD) hii2,Community.toD x5,hxi2,rfl,?_⟩;(conv=>whnf);refine .inl (dOB (by kernel_rfl) ?_);obtain ⟨v7,g8,h⟩:=bind_inv h;refine ⟨geti_b (f:=Community.toD) g8,Community.toD v7,geti_d (f:=Community.toD) g8,rfl,?_⟩;(conv=>whnf);refine cOB (by kernel_rfl) ?_;(conv=>whnf);refine .go ?_;revert h;refine sel_if ?_ ?_<;>intro h
    ·cases h;exact ⟨rfl,rfl⟩
    ·refine ⟨_,hwi2,?_⟩;exact hK6 _ _ wk h
  ·rintro _ h;cases h;exact ⟨rfl,rfl⟩
theorem ref17_SameLarge_ok {wl:Prop} {a0:List Large} {a1:List Large} {r:Bool} (h:ref17_SameLarge a0 a1=some r):CallsOK (Wl wl) Tryz.prog 119 [AV.d (D.l 3 Large.toD a0),AV.d (D.l 3 Large.toD a1)] [] (.d (D.b r)) []:=by
 refine ok Tryz.f119 (by kernel_rfl) (by kernel_rfl) ⟨rfl,?_⟩;unfold ref17_SameLarge at h;refine ⟨a0.length,List.length_map _,?_⟩;refine ⟨a1.length,List.length_map _,?_⟩;(conv=>whnf);refine .go ?_;revert h;refine sel_if ?_ ?_<;>intro h
 ·cases h;exact ⟨rfl,rfl⟩
 ·refine ⟨a0.length,List.length_map _,?_⟩;revert h;refine cut_join (fun _=>⟨dd 26 ([]),nn 26 ([])⟩) ?_ ?_
  ·intro k1 h;revert h;refine loop_for 12 3 Large.toD rfl (fun i2 _=>⟨X::AV.d (D.l 3 Large.toD a1)::dd 10 (AV.d (D.l 3 Large.toD a0)::AV.d (D.i (a0.length:Int))::AV.d (D.i (i2:Int))::dd 11 ([])),nn 26 ([])⟩) ?_ ?_ ?_
   ·exact wk
   ·rintro _ K3 h;(conv=>whnf);refine .go ?_;(conv=>whnf);refine sel_f lt_f ?_;exact join_end wk h
   ·rintro next4 i2 x5 _ K3 hii2 hxi2 hwi2 h hK6;(conv=>whnf);refine .go ?_;(conv=>whnf);refine sel_t (lt_t hii2) ?_;(conv=>whnf);refine .go ?_;refine ⟨idx_b (f:=Large.toD) hii2,Large.toD x5,hxi2,rfl,?_⟩;(conv=>whnf);refine .inl (dOB (by kernel_rfl) ?_);obtain ⟨v7,g8,h⟩:=bind_inv h;refine ⟨geti_b (f:=Large.toD) g8,Large.toD v7,geti_d (f:=Large.toD) g8,rfl,?_⟩;(conv=>whnf);refine cOB (by kernel_rfl) ?_;(conv=>whnf);refine .go ?_;revert h;refine sel_if ?_ ?_<;>intro h
    ·cases h;exact ⟨rfl,rfl⟩
    ·refine ⟨_,hwi2,?_⟩;exact hK6 _ _ wk h
  ·rintro _ h;cases h;exact ⟨rfl,rfl⟩
theorem ref18_SameList_ok {wl:Prop} {a0:List Unknown} {a1:List Unknown} {r:Bool} (h:ref18_SameList a0 a1=some r):CallsOK (Wl wl) Tryz.prog 120 [AV.d (D.l 3 Unknown.toD a0),AV.d (D.l 3 Unknown.toD a1)] [] (.d (D.b r)) []:=by
 refine ok Tryz.f120 (by kernel_rfl) (by kernel_rfl) ⟨rfl,?_⟩;unfold ref18_SameList at h;refine ⟨a0.length,List.length_map _,?_⟩;refine ⟨a1.length,List.length_map _,?_⟩;(conv=>whnf);refine .go ?_;revert h;refine sel_if ?_ ?_<;>intro h
 ·cases h;exact ⟨rfl,rfl⟩
 ·refine ⟨a0.length,List.length_map _,?_⟩;revert h;refine cut_join (fun _=>⟨dd 50 ([]),nn 50 ([])⟩) ?_ ?_
  ·intro k1 h;revert h;refine loop_for 12 3 Unknown.toD rfl (fun i2 _=>⟨X::AV.d (D.l 3 Unknown.toD a1)::dd 10 (AV.d (D.l 3 Unknown.toD a0)::AV.d (D.i (a0.length:Int))::AV.d (D.i (i2:Int))::dd 35 ([])),nn 50 ([])⟩) ?_ ?_ ?_
   ·exact wk
   ·rintro _ K3 h;(conv=>whnf);refine .go ?_;(conv=>whnf);refine sel_f lt_f ?_;exact join_end wk h
   ·rintro next4 i2 x5 _ K3 hii2 hxi2 hwi2 h hK6;(conv=>whnf);refine .go ?_;(conv=>whnf);refine sel_t (lt_t hii2) ?_;(conv=>whnf);refine .go ?_;refine ⟨idx_b (f:=Unknown.toD) hii2,Unknown.toD x5,hxi2,rfl,?_⟩;revert h;refine cut_join (fun v7=>⟨X::AV.d (D.l 3 Unknown.toD a1)::dd 10 (AV.d (D.l 3 Unknown.toD a0)::AV.d (D.i (a0.length:Int))::AV.d (D.i (i2:Int))::dd 33 (AV.d (D.b v7)::X::[])),nn 50 ([])⟩) ?_ ?_
    ·intro k8 h;(conv=>whnf);refine .inl (dOB (by kernel_rfl) ?_);obtain ⟨v9,g10,h⟩:=bind_inv h;refine ⟨geti_b (f:=Unknown.toD) g10,Unknown.toD v9,geti_d (f:=Unknown.toD) g10,rfl,?_⟩;revert h;refine sel_if ?_ ?_<;>intro h
     ·(conv=>whnf);refine cOB (by kernel_rfl) ?_;exact join_end wk h
     ·obtain ⟨v11,g12,h⟩:=bind_inv h;refine ⟨geti_b (f:=Unknown.toD) g12,Unknown.toD v11,geti_d (f:=Unknown.toD) g12,rfl,?_⟩;revert h;refine sel_if ?_ ?_<;>intro h
      ·(conv=>whnf);refine cOB (by kernel_rfl) ?_;exact join_end wk h
      ·refine ⟨x5.Data,rfl,?_⟩;obtain ⟨v13,g14,h⟩:=bind_inv h;refine ⟨geti_b (f:=Unknown.toD) g14,Unknown.toD v13,geti_d (f:=Unknown.toD) g14,rfl,?_⟩;refine ⟨v13.Data,rfl,?_⟩;(conv=>whnf);refine cOB (by kernel_rfl) ?_;exact join_end wk h
    ·rintro v7 h;(conv=>whnf);refine .go ?_;revert h;refine sel_if ?_ ?_<;>intro h
     ·cases h;exact ⟨rfl,rfl⟩
     ·refine ⟨_,hwi2,?_⟩;exact hK6 _ _ wk h
  ·rintro _ h;cases h;exact ⟨rfl,rfl⟩
theorem ref18_Same_ok {wl:Prop} {a0:Attrs} {a1:Attrs} {r:Bool} (h:ref18_Same a0 a1=some r):CallsOK (Wl wl) Tryz.prog 76 [AV.d (Attrs.toD a0),AV.d (Attrs.toD a1)] [] (.d (D.b r)) []:=by
 refine ok Tryz.f76 (by kernel_rfl) (by kernel_rfl) ⟨rfl,?_⟩;unfold ref18_Same at h;revert h;refine cut_join (fun v1=>⟨dd 4 (AV.d (D.b v1)::dd 61 ([])),nn 66 ([])⟩) ?_ ?_
 ·intro k2 h;revert h;refine sel_if ?_ ?_<;>intro h
  ·obtain ⟨v3,g4,h⟩:=bind_inv h;refine ⟨_,_,some [],ref15_Same_ok g4,?_⟩;revert h;refine sel_if ?_ ?_<;>intro h
   ·revert h;refine sel_if ?_ ?_<;>intro h
    ·revert h;refine sel_if ?_ ?_<;>intro h
     ·revert h;refine sel_if ?_ ?_<;>intro h
      ·revert h;refine sel_if ?_ ?_<;>intro h
       ·obtain ⟨v5,g6,h⟩:=bind_inv h;refine ⟨_,_,some [],ref17_Same_ok g6,?_⟩;revert h;refine sel_if ?_ ?_<;>intro h
        ·obtain ⟨v7,g8,h⟩:=bind_inv h;refine ⟨_,_,some [],ref17_SameLarge_ok g8,?_⟩;revert h;refine sel_if ?_ ?_<;>intro h
         ·obtain ⟨v9,g10,h⟩:=bind_inv h;refine ⟨_,_,some [],ref18_SameList_ok g10,?_⟩;exact join_end wk h
         ·exact join_end wk h
        ·exact join_end wk h
       ·exact join_end wk h
      ·exact join_end wk h
     ·exact join_end wk h
    ·exact join_end wk h
   ·exact join_end wk h
  ·exact join_end wk h
 ·rintro v1 h;cases h;exact ⟨rfl,rfl⟩
end Go.AX.Q33
end
section
namespace Go.AX.Q33
open Go Go.AX Go.Proofs
set_option maxRecDepth 100000
set_option maxHeartbeats 4000000
set_option linter.unusedVariables false
theorem ref19_Valid_ok {wl:Prop} {a0:Update} {r:Bool} (h:ref19_Valid a0=some r):CallsOK (Wl wl) Tryz.prog 40 [AV.d (Update.toD a0)] [] (.d (D.b r)) []:=by
 refine ok Tryz.f40 (by kernel_rfl) (by kernel_rfl) ⟨rfl,?_⟩;unfold ref19_Valid at h;revert h;refine cut_join (fun v1=>⟨X::AV.ref 1 0::dd 16 (AV.d (D.b v1)::dd 73 ([])),N::some (OB.box (Update.av a0))::nn 90 ([])⟩) ?_ ?_
 ·intro k2 h;refine ⟨a0.Withdraw.length,List.length_map _,?_⟩;revert h;refine sel_if ?_ ?_<;>intro h
  ·exact join_end wk h
  ·refine ⟨a0.Announce.length,List.length_map _,?_⟩;exact join_end wk h
 ·rintro v1 h;(conv=>whnf);refine .go ?_;revert h;refine sel_if ?_ ?_<;>intro h
  ·cases h;exact ⟨rfl,rfl⟩
  ·(conv=>whnf);refine .inl (dOB (by kernel_rfl) ?_);obtain ⟨_,g3,h⟩:=bind_inv h;refine ⟨apnd_b0 (g:=Prefix.toD) g3,?_⟩;obtain ⟨v4,g5,h⟩:=bind_inv h;refine ⟨rfl,apnd_b (f:=Prefix.toD) (g:=Prefix.toD) g5,_,apnd_z (f:=Prefix.toD) g5,?_⟩;refine ⟨v4.length,by first | exact List.length_map _ | rfl | (simp only [List.length_map];omega),?_⟩;(conv=>whnf);refine cOB (by kernel_rfl) ?_;revert h;refine cut_join (fun _=>⟨X::AV.ref 1 0::dd 90 ([]),N::some (OB.box (Update.av a0))::nn 90 ([])⟩) ?_ ?_
   ·intro k6 h;revert h;refine loop_own 21 73 4 .no Prefix.toD rfl (fun i7 _=>⟨X::AV.ref 1 0::dd 22 (AV.own 21 (List.map Prefix.toD v4).length::AV.d (D.i (v4.length:Int))::AV.d (D.i (i7:Int))::dd 65 ([])),N::some (OB.box (Update.av a0))::nn 19 (some (OB.row 73 4 (List.map Prefix.toD v4) .no)::nn 70 ([]))⟩) ?_ ?_ ?_
    ·exact wk
    ·rintro _ K8 h;(conv=>whnf);refine .go ?_;(conv=>whnf);refine sel_f lt_f ?_;exact join_end wk h
    ·rintro next9 i7 x10 _ K8 hii7 hxi7 hwi7 h hK11;(conv=>whnf);refine .go ?_;(conv=>whnf);refine sel_t (lt_t hii7) ?_;(conv=>whnf);refine .go ?_;refine ⟨rfl,idx_b (f:=Prefix.toD) hii7,?_⟩;refine ⟨rfl,Prefix.toD x10,hxi7,?_⟩;obtain ⟨v12,g13,h⟩:=bind_inv h;refine ⟨_,_,some [],ref02_Valid_ok g13,?_⟩;(conv=>whnf);refine .go ?_;revert h;refine sel_if ?_ ?_<;>intro h
     ·cases h;exact ⟨rfl,rfl⟩
     ·refine ⟨_,hwi7,?_⟩;exact hK11 _ _ wk h
   ·rintro _ h;revert h;refine cut_join (fun v14=>⟨X::AV.ref 1 0::dd 42 (AV.d (D.b v14)::dd 47 ([])),N::some (OB.box (Update.av a0))::nn 90 ([])⟩) ?_ ?_
    ·intro k15 h;(conv=>whnf);refine .inl (dOB (by kernel_rfl) ?_);refine ⟨a0.Announce.length,List.length_map _,?_⟩;revert h;refine sel_if ?_ ?_<;>intro h
     ·obtain ⟨v16,g17,h⟩:=bind_inv h;refine ⟨_,_,ref18_Empty_ok g17,.inl rfl,?_⟩;obtain ⟨v18,g19,h⟩:=bind_inv h;refine ⟨_,_,ref18_Same_ok g19,.inl rfl,?_⟩;(conv=>whnf);refine cOB (by kernel_rfl) ?_;exact join_end wk h
     ·(conv=>whnf);refine cOB (by kernel_rfl) ?_;exact join_end wk h
    ·rintro v14 h;(conv=>whnf);refine .go ?_;revert h;refine sel_if ?_ ?_<;>intro h
     ·cases h;exact ⟨rfl,rfl⟩
     ·refine ⟨a0.Announce.length,List.length_map _,?_⟩;revert h;refine cut_join (fun _=>⟨X::AV.ref 1 0::dd 90 ([]),N::some (OB.box (Update.av a0))::nn 90 ([])⟩) ?_ ?_
      ·intro k20 h;revert h;refine loop_for 46 4 Prefix.toD rfl (fun i21 _=>⟨X::AV.ref 1 0::dd 44 (AV.d (D.l 4 Prefix.toD a0.Announce)::AV.d (D.i (a0.Announce.length:Int))::AV.d (D.i (i21:Int))::dd 43 ([])),N::some (OB.box (Update.av a0))::nn 90 ([])⟩) ?_ ?_ ?_
       ·exact wk
       ·rintro _ K22 h;(conv=>whnf);refine .go ?_;(conv=>whnf);refine sel_f lt_f ?_;exact join_end wk h
       ·rintro next23 i21 x24 _ K22 hii21 hxi21 hwi21 h hK25;(conv=>whnf);refine .go ?_;(conv=>whnf);refine sel_t (lt_t hii21) ?_;(conv=>whnf);refine .go ?_;refine ⟨idx_b (f:=Prefix.toD) hii21,Prefix.toD x24,hxi21,rfl,?_⟩;revert h;refine cut_join (fun v26=>⟨X::AV.ref 1 0::dd 44 (AV.d (D.l 4 Prefix.toD a0.Announce)::AV.d (D.i (a0.Announce.length:Int))::AV.d (D.i (i21:Int))::dd 29 (AV.d (D.b v26)::dd 13 ([]))),N::some (OB.box (Update.av a0))::nn 90 ([])⟩) ?_ ?_
        ·intro k27 h;revert h;refine sel_if ?_ ?_<;>intro h
         ·exact join_end wk h
         ·revert h;refine sel_if ?_ ?_<;>intro h
          ·exact join_end wk h
          ·revert h;refine sel_if ?_ ?_<;>intro h
           ·exact join_end wk h
           ·obtain ⟨v28,g29,h⟩:=bind_inv h;refine ⟨_,_,some [],ref18_Valid_ok g29,?_⟩;exact join_end wk h
        ·rintro v26 h;(conv=>whnf);refine .go ?_;revert h;refine sel_if ?_ ?_<;>intro h
         ·cases h;exact ⟨rfl,rfl⟩
         ·refine ⟨_,hwi21,?_⟩;exact hK25 _ _ wk h
      ·rintro _ h;obtain ⟨⟨v30,v31⟩,g32,h⟩:=bind_inv h;refine ⟨_,_,some [],ref19_parts_ok g32,?_⟩;revert h;refine cut_join (fun v33=>⟨X::X::AV.d (D.b v33)::dd 89 ([]),nn 92 ([])⟩) ?_ ?_
       ·intro k34 h;revert h;refine sel_if ?_ ?_<;>intro h
        ·refine ⟨v30.length,List.length_map _,?_⟩;exact join_end wk h
        ·exact join_end wk h
       ·rintro v33 h;cases h;exact ⟨rfl,rfl⟩
theorem ref19_Encode_ok {wl:Prop} {a0:Update} {r:(List UInt8)×Int} (h:ref19_Encode a0=some r):CallsOK (Wl wl) Tryz.prog 21 [AV.d (Update.toD a0)] [] (.tup [.d (D.l 1 D.u8 r.1),.d (D.i r.2)]) []:=by
 refine ok Tryz.f21 (by kernel_rfl) (by kernel_rfl) ⟨rfl,?_⟩;unfold ref19_Encode at h;obtain ⟨v1,g2,h⟩:=bind_inv h;refine ⟨_,_,some [],ref19_Valid_ok g2,?_⟩;(conv=>whnf);refine .go ?_;revert h;refine sel_if ?_ ?_<;>intro h
 ·cases h;exact ⟨rfl,rfl⟩
 ·obtain ⟨⟨v3,v4⟩,g5,h⟩:=bind_inv h;refine ⟨_,_,some [],ref19_parts_ok g5,?_⟩;cases h;exact ⟨rfl,rfl⟩
theorem mill_block_ok {wl:Prop} {a0:Int} {r:Prefix} (h:mill_block a0=some r):CallsOK (Wl wl) Tryz.prog 93 [AV.d (D.i a0)] [] (.d (Prefix.toD r)) []:=by
 refine ok Tryz.f93 (by kernel_rfl) (by kernel_rfl) ⟨rfl,?_⟩;unfold mill_block at h;(conv=>whnf);refine .go ?_;revert h;refine sel_if ?_ ?_<;>intro h
 ·refine ⟨_,u64_wrap _,?_⟩;refine ⟨by decide,_,u64_wrap _,?_⟩;refine ⟨_,u64_wrap _,?_⟩;cases h;exact ⟨rfl,rfl⟩
 ·refine ⟨_,u64_wrap _,?_⟩;refine ⟨by decide,_,u64_wrap _,?_⟩;refine ⟨_,u64_wrap _,?_⟩;cases h;exact ⟨rfl,rfl⟩
theorem mill_Deck_Prefix_ok {wl:Prop} {a0:Deck} {r:Prefix×Deck} (h:mill_Deck_Prefix a0=some r):CallsOK (Wl wl) Tryz.prog 52 [.ref 0 0] [.box (Deck.av a0)] (.d (Prefix.toD r.1)) [.box (Deck.av r.2)]:=by
 refine ok Tryz.f52 (by kernel_rfl) (by kernel_rfl) ⟨rfl,?_⟩;unfold mill_Deck_Prefix at h;obtain ⟨⟨v1,v2⟩,g3,h⟩:=bind_inv h;refine ⟨_,_,some [],mill_Deck_Next_ok g3,?_⟩;obtain ⟨v4,g5,h⟩:=bind_inv h;refine ⟨_,_,some [],mill_block_ok g5,?_⟩;obtain ⟨⟨v6,v7⟩,g8,h⟩:=bind_inv h;refine ⟨_,_,some [],mill_Deck_Next_ok g8,?_⟩;(conv=>whnf);refine .go ?_;revert h;refine cut_join (fun (v9,v10)=>⟨X::X::AV.ref 3 0::AV.ref 4 0::dd 29 ([]),some (OB.box (Deck.av v9))::N::N::some (OB.box Prefix.zv)::some (OB.box (Prefix.av v10))::nn 29 ([])⟩) ?_ ?_
 ·intro k11 h;revert h;refine sel_if ?_ ?_<;>intro h
  ·revert h;refine cut_join (fun v12=>⟨X::X::AV.ref 3 0::AV.ref 4 0::dd 29 ([]),some (OB.box (Deck.av v7))::N::N::some (OB.box Prefix.zv)::some (OB.box [AV.d (D.b v4.Addr.V6),AV.d (D.u64 v4.Addr.Hi),AV.d (D.u64 v4.Addr.Lo),AV.d (D.i v12)])::nn 29 ([])⟩) ?_ ?_
   ·intro k13 h;revert h;refine sel_if ?_ ?_<;>intro h
    ·exact join_end wk h
    ·exact join_end wk h
   ·rintro v12 h;exact join_end wk h
  ·revert h;refine cut_join (fun (v14,v15)=>⟨X::X::AV.ref 3 0::AV.ref 4 0::dd 29 ([]),some (OB.box (Deck.av v14))::N::N::some (OB.box Prefix.zv)::some (OB.box (Prefix.av v15))::nn 29 ([])⟩) ?_ ?_
   ·intro k16 h;revert h;refine sel_if ?_ ?_<;>intro h
    ·revert h;refine cut_join (fun v17=>⟨AV.ref 0 0::X::AV.ref 3 0::AV.ref 4 0::dd 29 ([]),some (OB.box (Deck.av v7))::N::N::some (OB.box Prefix.zv)::some (OB.box [AV.d (D.b v4.Addr.V6),AV.d (D.u64 v4.Addr.Hi),AV.d (D.u64 v4.Addr.Lo),AV.d (D.i v17)])::nn 29 ([])⟩) ?_ ?_
     ·intro k18 h;revert h;refine sel_if ?_ ?_<;>intro h
      ·exact join_end wk h
      ·exact join_end wk h
     ·rintro v17 h;(conv=>whnf);refine .inl (dOB (by kernel_rfl) ?_);obtain ⟨⟨v19,v20⟩,g21,h⟩:=bind_inv h;refine ⟨_,_,mill_Deck_Next_ok g21,.inl rfl,?_⟩;refine ⟨_,u64_wrap _,?_⟩;refine ⟨_,u64_wrap _,?_⟩;(conv=>whnf);refine cOB (by kernel_rfl) ?_;exact join_end wk h
    ·exact join_end wk h
   ·rintro ⟨v14,v15⟩ h;exact join_end wk h
 ·rintro ⟨v9,v10⟩ h;cases h;exact ⟨rfl,rfl⟩
theorem mill_Port_ok {wl:Prop} {a0:Int} {a1:Bool} {r:Addr} (h:mill_Port a0 a1=some r):CallsOK (Wl wl) Tryz.prog 109 [AV.d (D.i a0),AV.d (D.b a1)] [] (.d (Addr.toD r)) []:=by
 refine ok Tryz.f109 (by kernel_rfl) (by kernel_rfl) ⟨rfl,?_⟩;unfold mill_Port at h;(conv=>whnf);refine .go ?_;revert h;refine sel_if ?_ ?_<;>intro h
 ·refine ⟨_,u64_wrap _,?_⟩;cases h;exact ⟨rfl,rfl⟩
 ·refine ⟨by decide,_,rfl,?_⟩;refine ⟨_,rfl,?_⟩;refine ⟨_,u64_wrap _,?_⟩;refine ⟨_,u64_wrap _,?_⟩;cases h;exact ⟨rfl,rfl⟩
theorem mill_Deck_Communities_ok {wl:Prop} {a0:Deck} {r:(List Community)×Deck} (h:mill_Deck_Communities a0=some r):CallsOK (Wl wl) Tryz.prog 129 [.ref 0 0] [.box (Deck.av a0)] (.d (D.l 2 Community.toD r.1)) [.box (Deck.av r.2)]:=by
 refine ok Tryz.f129 (by kernel_rfl) (by kernel_rfl) ⟨rfl,?_⟩;unfold mill_Deck_Communities at h;obtain ⟨⟨v1,v2⟩,g3,h⟩:=bind_inv h;refine ⟨_,_,some [],mill_Deck_Next_ok g3,?_⟩;refine ⟨([(⟨0,99⟩:Community),(⟨0,101⟩:Community),(⟨0,102⟩:Community),(⟨99,101⟩:Community),(⟨99,103⟩:Community),(⟨500,1⟩:Community),(⟨65535,666⟩:Community),(⟨65535,65282⟩:Community)]:List Community).length,by first | exact List.length_map _ | rfl | (simp only [List.length_map];omega),?_⟩;revert h;refine cut_join (fun (v4,v5)=>⟨dd 4 (AV.own 5 (List.map Community.toD v5).length::dd 43 ([])),some (OB.box (Deck.av v4))::nn 4 (some (OB.row 191 2 (List.map Community.toD v5) .no)::nn 43 ([]))⟩) ?_ ?_
 ·intro k6 h;revert h;refine loop_own 17 191 2 .no Community.toD rfl (fun i7 (v8,v9)=>⟨AV.ref 0 0::X::X::X::AV.own 5 (List.map Community.toD v9).length::AV.d (D.i v1)::dd 13 (AV.own 17 (List.map Community.toD ([(⟨0,99⟩:Community),(⟨0,101⟩:Community),(⟨0,102⟩:Community),(⟨99,101⟩:Community),(⟨99,103⟩:Community),(⟨500,1⟩:Community),(⟨65535,666⟩:Community),(⟨65535,65282⟩:Community)]:List Community)).length::AV.d (D.i (([(⟨0,99⟩:Community),(⟨0,101⟩:Community),(⟨0,102⟩:Community),(⟨99,101⟩:Community),(⟨99,103⟩:Community),(⟨500,1⟩:Community),(⟨65535,666⟩:Community),(⟨65535,65282⟩:Community)]:List Community).length:Int))::AV.d (D.i (i7:Int))::dd 26 ([])),some (OB.box (Deck.av v8))::nn 4 (some (OB.row 191 2 (List.map Community.toD v9) .no)::nn 11 (some (OB.row 191 2 (List.map Community.toD ([(⟨0,99⟩:Community),(⟨0,101⟩:Community),(⟨0,102⟩:Community),(⟨99,101⟩:Community),(⟨99,103⟩:Community),(⟨500,1⟩:Community),(⟨65535,666⟩:Community),(⟨65535,65282⟩:Community)]:List Community)) .no)::nn 31 ([])))⟩) ?_ ?_ ?_
  ·exact wk
  ·rintro ⟨v8,v9⟩ K10 h;(conv=>whnf);refine .go ?_;exact join_end wk h
  ·rintro next11 i7 x12 ⟨v8,v9⟩ K10 hii7 hxi7 hwi7 h hK13;(conv=>whnf);refine .go ?_;(conv=>whnf);refine sel_t (lt_t hii7) ?_;(conv=>whnf);refine .go ?_;refine ⟨rfl,idx_b (f:=Community.toD) hii7,?_⟩;refine ⟨rfl,Community.toD x12,hxi7,?_⟩;revert h;refine cut_join (fun (v14,v15)=>⟨AV.ref 0 0::X::X::X::AV.own 5 (List.map Community.toD v9).length::AV.d (D.i v1)::X::AV.ref 8 0::dd 11 (AV.own 17 (List.map Community.toD ([(⟨0,99⟩:Community),(⟨0,101⟩:Community),(⟨0,102⟩:Community),(⟨99,101⟩:Community),(⟨99,103⟩:Community),(⟨500,1⟩:Community),(⟨65535,666⟩:Community),(⟨65535,65282⟩:Community)]:List Community)).length::AV.d (D.i (([(⟨0,99⟩:Community),(⟨0,101⟩:Community),(⟨0,102⟩:Community),(⟨99,101⟩:Community),(⟨99,103⟩:Community),(⟨500,1⟩:Community),(⟨65535,666⟩:Community),(⟨65535,65282⟩:Community)]:List Community).length:Int))::AV.d (D.i (i7:Int))::dd 19 (AV.d (D.b v14)::dd 6 ([]))),some (OB.box (Deck.av v15))::nn 4 (some (OB.row 191 2 (List.map Community.toD v9) .no)::N::N::some (OB.box (Community.av x12))::nn 8 (some (OB.row 191 2 (List.map Community.toD ([(⟨0,99⟩:Community),(⟨0,101⟩:Community),(⟨0,102⟩:Community),(⟨99,101⟩:Community),(⟨99,103⟩:Community),(⟨500,1⟩:Community),(⟨65535,666⟩:Community),(⟨65535,65282⟩:Community)]:List Community)) .no)::nn 31 ([])))⟩) ?_ ?_
   ·intro k16 h;refine ⟨_,rfl,?_⟩;refine ⟨_,u64_wrap _,?_⟩;refine ⟨Int.natCast_nonneg _,_,rfl,?_⟩;refine ⟨_,rfl,?_⟩;revert h;refine sel_if ?_ ?_<;>intro h
    ·revert h;refine sel_if ?_ ?_<;>intro h
     ·exact join_end wk h
     ·obtain ⟨⟨v17,v18⟩,g19,h⟩:=bind_inv h;refine ⟨_,_,some [],mill_Deck_Next_ok g19,?_⟩;exact join_end wk h
    ·exact join_end wk h
   ·rintro ⟨v14,v15⟩ h;revert h;refine cut_join (fun v20=>⟨AV.ref 0 0::X::X::X::AV.own 5 (List.map Community.toD v20).length::AV.d (D.i v1)::dd 13 (AV.own 17 (List.map Community.toD ([(⟨0,99⟩:Community),(⟨0,101⟩:Community),(⟨0,102⟩:Community),(⟨99,101⟩:Community),(⟨99,103⟩:Community),(⟨500,1⟩:Community),(⟨65535,666⟩:Community),(⟨65535,65282⟩:Community)]:List Community)).length::AV.d (D.i (([(⟨0,99⟩:Community),(⟨0,101⟩:Community),(⟨0,102⟩:Community),(⟨99,101⟩:Community),(⟨99,103⟩:Community),(⟨500,1⟩:Community),(⟨65535,666⟩:Community),(⟨65535,65282⟩:Community)]:List Community).length:Int))::AV.d (D.i (i7:Int))::dd 26 ([])),some (OB.box (Deck.av v15))::nn 4 (some (OB.row 191 2 (List.map Community.toD v20) .no)::nn 11 (some (OB.row 191 2 (List.map Community.toD ([(⟨0,99⟩:Community),(⟨0,101⟩:Community),(⟨0,102⟩:Community),(⟨99,101⟩:Community),(⟨99,103⟩:Community),(⟨500,1⟩:Community),(⟨65535,666⟩:Community),(⟨65535,65282⟩:Community)]:List Community)) .no)::nn 31 ([])))⟩) ?_ ?_
    ·intro k21 h;revert h;refine sel_if ?_ ?_<;>intro h
     ·refine ⟨rfl,?_⟩;obtain ⟨v22,g23,h⟩:=bind_inv h;refine ⟨rfl,apnd_b (f:=Community.toD) (g:=Community.toD) g23,_,apnd_z (f:=Community.toD) g23,?_⟩;exact join_end wk h
     ·exact join_end wk h
    ·rintro v20 h;refine ⟨_,hwi7,?_⟩;exact hK13 _ _ wk h
 ·rintro ⟨v4,v5⟩ h;(conv=>whnf);refine .inl ?_;(conv=>whnf);refine .inl ?_;refine ⟨rfl,?_⟩;cases h;exact ⟨rfl,rfl⟩
theorem mill_Deck_Large_ok {wl:Prop} {a0:Deck} {r:(List Large)×Deck} (h:mill_Deck_Large a0=some r):CallsOK (Wl wl) Tryz.prog 130 [.ref 0 0] [.box (Deck.av a0)] (.d (D.l 3 Large.toD r.1)) [.box (Deck.av r.2)]:=by
 refine ok Tryz.f130 (by kernel_rfl) (by kernel_rfl) ⟨rfl,?_⟩;unfold mill_Deck_Large at h;obtain ⟨⟨v1,v2⟩,g3,h⟩:=bind_inv h;refine ⟨_,_,some [],mill_Deck_Next_ok g3,?_⟩;refine ⟨([(⟨5,5,5⟩:Large),(⟨99,0,0⟩:Large),(⟨99,0,103⟩:Large),(⟨99,1,102⟩:Large),(⟨99,101,0⟩:Large),(⟨99,102,104⟩:Large),(⟨99,103,101⟩:Large)]:List Large).length,by first | exact List.length_map _ | rfl | (simp only [List.length_map];omega),?_⟩;revert h;refine cut_join (fun v4=>⟨dd 4 (AV.own 5 (List.map Large.toD v4).length::dd 33 ([])),some (OB.box (Deck.av v2))::nn 4 (some (OB.row 193 3 (List.map Large.toD v4) .no)::nn 33 ([]))⟩) ?_ ?_
 ·intro k5 h;revert h;refine loop_own 16 193 3 .no Large.toD rfl (fun i6 v7=>⟨dd 4 (AV.own 5 (List.map Large.toD v7).length::AV.d (D.i v1)::dd 12 (AV.own 16 (List.map Large.toD ([(⟨5,5,5⟩:Large),(⟨99,0,0⟩:Large),(⟨99,0,103⟩:Large),(⟨99,1,102⟩:Large),(⟨99,101,0⟩:Large),(⟨99,102,104⟩:Large),(⟨99,103,101⟩:Large)]:List Large)).length::AV.d (D.i (([(⟨5,5,5⟩:Large),(⟨99,0,0⟩:Large),(⟨99,0,103⟩:Large),(⟨99,1,102⟩:Large),(⟨99,101,0⟩:Large),(⟨99,102,104⟩:Large),(⟨99,103,101⟩:Large)]:List Large).length:Int))::AV.d (D.i (i6:Int))::dd 17 ([]))),some (OB.box (Deck.av v2))::nn 4 (some (OB.row 193 3 (List.map Large.toD v7) .no)::nn 10 (some (OB.row 193 3 (List.map Large.toD ([(⟨5,5,5⟩:Large),(⟨99,0,0⟩:Large),(⟨99,0,103⟩:Large),(⟨99,1,102⟩:Large),(⟨99,101,0⟩:Large),(⟨99,102,104⟩:Large),(⟨99,103,101⟩:Large)]:List Large)) .no)::nn 22 ([])))⟩) ?_ ?_ ?_
  ·exact wk
  ·rintro v7 K8 h;(conv=>whnf);refine .go ?_;exact join_end wk h
  ·rintro next9 i6 x10 v7 K8 hii6 hxi6 hwi6 h hK11;(conv=>whnf);refine .go ?_;(conv=>whnf);refine sel_t (lt_t hii6) ?_;(conv=>whnf);refine .go ?_;refine ⟨rfl,idx_b (f:=Large.toD) hii6,?_⟩;refine ⟨rfl,Large.toD x10,hxi6,?_⟩;refine ⟨_,rfl,?_⟩;refine ⟨_,u64_wrap _,?_⟩;refine ⟨Int.natCast_nonneg _,_,rfl,?_⟩;refine ⟨_,rfl,?_⟩;revert h;refine cut_join (fun v12=>⟨dd 4 (AV.own 5 (List.map Large.toD v12).length::AV.d (D.i v1)::dd 12 (AV.own 16 (List.map Large.toD ([(⟨5,5,5⟩:Large),(⟨99,0,0⟩:Large),(⟨99,0,103⟩:Large),(⟨99,1,102⟩:Large),(⟨99,101,0⟩:Large),(⟨99,102,104⟩:Large),(⟨99,103,101⟩:Large)]:List Large)).length::AV.d (D.i (([(⟨5,5,5⟩:Large),(⟨99,0,0⟩:Large),(⟨99,0,103⟩:Large),(⟨99,1,102⟩:Large),(⟨99,101,0⟩:Large),(⟨99,102,104⟩:Large),(⟨99,103,101⟩:Large)]:List Large).length:Int))::AV.d (D.i (i6:Int))::dd 17 ([]))),some (OB.box (Deck.av v2))::nn 4 (some (OB.row 193 3 (List.map Large.toD v12) .no)::nn 10 (some (OB.row 193 3 (List.map Large.toD ([(⟨5,5,5⟩:Large),(⟨99,0,0⟩:Large),(⟨99,0,103⟩:Large),(⟨99,1,102⟩:Large),(⟨99,101,0⟩:Large),(⟨99,102,104⟩:Large),(⟨99,103,101⟩:Large)]:List Large)) .no)::nn 22 ([])))⟩) ?_ ?_
   ·intro k13 h;revert h;refine sel_if ?_ ?_<;>intro h
    ·refine ⟨rfl,?_⟩;obtain ⟨v14,g15,h⟩:=bind_inv h;refine ⟨rfl,apnd_b (f:=Large.toD) (g:=Large.toD) g15,_,apnd_z (f:=Large.toD) g15,?_⟩;exact join_end wk h
    ·exact join_end wk h
   ·rintro v12 h;refine ⟨_,hwi6,?_⟩;exact hK11 _ _ wk h
 ·rintro v4 h;(conv=>whnf);refine .inl ?_;(conv=>whnf);refine .inl ?_;refine ⟨rfl,?_⟩;cases h;exact ⟨rfl,rfl⟩
end Go.AX.Q33
end
section
namespace Go.AX.Q33
open Go Go.AX Go.Proofs
set_option maxRecDepth 100000
set_option maxHeartbeats 4000000
set_option linter.unusedVariables false
theorem mill_Deck_Attrs_ok {wl:Prop} {a0:Deck} {a1:Int} {a2:Bool} {r:Attrs×Deck} (h:mill_Deck_Attrs a0 a1 a2=some r):CallsOK (Wl wl) Tryz.prog 94 [.ref 0 0,AV.d (D.i a1),AV.d (D.b a2)] [.box (Deck.av a0)] (.d (Attrs.toD r.1)) [.box (Deck.av r.2)]:=by
 refine okx 2 Tryz.f94 (by kernel_rfl) (by kernel_rfl) ⟨rfl,?_⟩;unfold mill_Deck_Attrs at h;revert h;refine cut_join (fun _=>⟨AV.ref 0 0::AV.d (D.i a1)::AV.d (D.b a2)::X::X::X::AV.ref 7 0::X::X::X::AV.d (D.agg [D.i (-1),D.nil 2,D.b false,D.u64 (0:UInt64),D.u64 (0:UInt64),D.i (-1),D.i (-1),D.i (-1),D.nil 2,D.nil 3,D.nil 3])::dd 115 ([]),some (OB.box (Deck.av a0))::nn 6 (some (OB.box Attrs.zv)::nn 121 ([]))⟩) ?_ ?_
 ·intro k1 h;(conv=>whnf);refine inl Tryz.f51 127 (by kernel_rfl) (by kernel_rfl) ⟨rfl,?_⟩;exact join_end wk h
 ·rintro _ h;obtain ⟨⟨v2,v3⟩,g4,h⟩:=bind_inv h;refine ⟨_,_,some [],mill_Deck_Next_ok g4,?_⟩;obtain ⟨⟨v5,v6⟩,g7,h⟩:=bind_inv h;refine ⟨_,_,some [],mill_Deck_Next_ok g7,?_⟩;revert h;refine cut_join (fun (v8,v9)=>⟨AV.ref 0 0::AV.d (D.i a1)::AV.d (D.b a2)::X::X::X::AV.ref 7 0::AV.ref 8 0::AV.own 16 (List.map D.i v9).length::dd 117 ([]),some (OB.box (Deck.av v8))::nn 6 (some (OB.box Attrs.zv)::some (OB.box [AV.d (D.i v2),AV.d (D.nil 2),AV.d (D.b false),AV.d (D.u64 (0:UInt64)),AV.d (D.u64 (0:UInt64)),AV.d (D.i (-1)),AV.d (D.i (-1)),AV.d (D.i (-1)),AV.d (D.nil 2),AV.d (D.nil 3),AV.d (D.nil 3)])::nn 7 (some (OB.row 3 1 (List.map D.i v9) .no)::nn 112 ([])))⟩) ?_ ?_
  ·intro k10 h;revert h;refine loop_while (fun (v11,v12,v13)=>⟨AV.ref 0 0::AV.d (D.i a1)::AV.d (D.b a2)::X::X::X::AV.ref 7 0::AV.ref 8 0::AV.own 16 (List.map D.i v13).length::AV.d (D.i v11)::dd 116 ([]),some (OB.box (Deck.av v12))::nn 6 (some (OB.box Attrs.zv)::some (OB.box [AV.d (D.i v2),AV.d (D.nil 2),AV.d (D.b false),AV.d (D.u64 (0:UInt64)),AV.d (D.u64 (0:UInt64)),AV.d (D.i (-1)),AV.d (D.i (-1)),AV.d (D.i (-1)),AV.d (D.nil 2),AV.d (D.nil 3),AV.d (D.nil 3)])::nn 7 (some (OB.row 3 1 (List.map D.i v13) .no)::nn 112 ([])))⟩) ?_ ?_
   ·exact wk
   rintro next14 ⟨v11,v12,v13⟩ K15 h hK16;(conv=>whnf);refine .go ?_;revert h;refine sel_if ?_ ?_<;>intro h
   ·(conv=>whnf);refine .go ?_;obtain ⟨⟨v17,v18⟩,g19,h⟩:=bind_inv h;refine ⟨_,_,some [],mill_Deck_Next_ok g19,?_⟩;obtain ⟨v20,g21,h⟩:=bind_inv h;refine ⟨rfl,geti_b (f:=D.i) g21,?_⟩;refine ⟨rfl,D.i v20,(geti_d (f:=D.i) g21),?_⟩;refine ⟨rfl,?_⟩;obtain ⟨v22,g23,h⟩:=bind_inv h;refine ⟨rfl,apnd_b (f:=D.i) (g:=D.i) g23,_,apnd_z (f:=D.i) g23,?_⟩;refine ⟨_,rfl,?_⟩;exact hK16 _ _ wk h
   ·exact join_end wk h
  ·rintro ⟨v8,v9⟩ h;(conv=>whnf);refine .inr (.inl ?_);obtain ⟨v24,g25,h⟩:=bind_inv h;refine ⟨_,_,some [],mill_Port_ok g25,?_⟩;obtain ⟨⟨v26,v27⟩,g28,h⟩:=bind_inv h;refine ⟨_,_,some [],mill_Deck_Next_ok g28,?_⟩;revert h;refine cut_join (fun (v29,v30)=>⟨AV.ref 0 0::X::AV.d (D.b a2)::X::X::X::AV.ref 7 0::AV.ref 8 0::dd 118 ([]),some (OB.box (Deck.av v29))::nn 6 (some (OB.box Attrs.zv)::some (OB.box [AV.d (D.i v2),AV.own 34 1,AV.d (D.b v24.V6),AV.d (D.u64 v24.Hi),AV.d (D.u64 v24.Lo),AV.d (D.i v30),AV.d (D.i (-1)),AV.d (D.i (-1)),AV.d (D.nil 2),AV.d (D.nil 3),AV.d (D.nil 3)])::nn 7 (some (OB.row 3 1 (List.map D.i v9) .no)::nn 17 (some (OB.box [AV.d (D.b false),AV.own 16 (List.map D.i v9).length])::nn 94 ([]))))⟩) ?_ ?_
   ·intro k31 h;revert h;refine sel_if ?_ ?_<;>intro h
    ·obtain ⟨⟨v32,v33⟩,g34,h⟩:=bind_inv h;refine ⟨_,_,some [],mill_Deck_Next_ok g34,?_⟩;exact join_end wk h
    ·exact join_end wk h
   ·rintro ⟨v29,v30⟩ h;obtain ⟨⟨v35,v36⟩,g37,h⟩:=bind_inv h;refine ⟨_,_,some [],mill_Deck_Next_ok g37,?_⟩;revert h;refine cut_join (fun (v38,v39)=>⟨AV.ref 0 0::X::AV.d (D.b a2)::X::X::X::AV.ref 7 0::AV.ref 8 0::dd 118 ([]),some (OB.box (Deck.av v38))::nn 6 (some (OB.box Attrs.zv)::some (OB.box [AV.d (D.i v2),AV.own 34 1,AV.d (D.b v24.V6),AV.d (D.u64 v24.Hi),AV.d (D.u64 v24.Lo),AV.d (D.i v30),AV.d (D.i v39),AV.d (D.i (-1)),AV.d (D.nil 2),AV.d (D.nil 3),AV.d (D.nil 3)])::nn 7 (some (OB.row 3 1 (List.map D.i v9) .no)::nn 17 (some (OB.box [AV.d (D.b false),AV.own 16 (List.map D.i v9).length])::nn 94 ([]))))⟩) ?_ ?_
    ·intro k40 h;revert h;refine sel_if ?_ ?_<;>intro h
     ·obtain ⟨⟨v41,v42⟩,g43,h⟩:=bind_inv h;refine ⟨_,_,some [],mill_Deck_Next_ok g43,?_⟩;exact join_end wk h
     ·exact join_end wk h
    ·rintro ⟨v38,v39⟩ h;obtain ⟨⟨v44,v45⟩,g46,h⟩:=bind_inv h;refine ⟨_,_,some [],mill_Deck_Communities_ok g46,?_⟩;obtain ⟨⟨v47,v48⟩,g49,h⟩:=bind_inv h;refine ⟨_,_,some [],mill_Deck_Large_ok g49,?_⟩;obtain ⟨⟨v50,v51⟩,g52,h⟩:=bind_inv h;refine ⟨_,_,some [],mill_Deck_Next_ok g52,?_⟩;(conv=>whnf);refine .go ?_;revert h;refine cut_join (fun (v53,v54,v55,v56,v57,v58,v59)=>⟨dd 6 (AV.ref 7 0::AV.ref 8 0::dd 118 ([])),some (OB.box (Deck.av v53))::nn 6 (some (OB.box Attrs.zv)::some (OB.box [AV.d (D.i v2),AV.d (D.l 2 Segment.toD v54),AV.d (D.b v55),AV.d (D.u64 v56),AV.d (D.u64 v57),AV.d (D.i v30),AV.d (D.i v39),AV.d (D.i v58),AV.d (D.l 2 Community.toD v44),AV.d (D.l 3 Large.toD v47),AV.d (D.l 3 Unknown.toD v59)])::nn 120 ([]))⟩) ?_ ?_
     ·intro k60 h;revert h;refine sel_if ?_ ?_<;>intro h
      ·obtain ⟨⟨v61,v62⟩,g63,h⟩:=bind_inv h;refine ⟨_,_,some [],mill_Deck_Next_ok g63,?_⟩;refine ⟨_,rfl,?_⟩;exact join_end wk h
      ·revert h;refine cut_join (fun (v64,v65,v66,v67,v68,v69)=>⟨dd 6 (AV.ref 7 0::AV.ref 8 0::dd 118 ([])),some (OB.box (Deck.av v64))::nn 6 (some (OB.box Attrs.zv)::some (OB.box [AV.d (D.i v2),AV.d (D.l 2 Segment.toD v65),AV.d (D.b v66),AV.d (D.u64 v67),AV.d (D.u64 v68),AV.d (D.i v30),AV.d (D.i v39),AV.d (D.i (-1)),AV.d (D.l 2 Community.toD v44),AV.d (D.l 3 Large.toD v47),AV.d (D.l 3 Unknown.toD v69)])::nn 120 ([]))⟩) ?_ ?_
       ·intro k70 h;revert h;refine sel_if ?_ ?_<;>intro h
        ·refine ⟨rfl,?_⟩;obtain ⟨v71,g72,h⟩:=bind_inv h;refine ⟨rfl,geti_b (f:=D.i) g72,?_⟩;obtain ⟨v73,g74,h⟩:=bind_inv h;have g74l:=seti_len g74;refine ⟨rfl,rfl,D.i v71,(geti_d (f:=D.i) g72),?_⟩;refine ⟨_,seti_z (f:=D.i) g74,?_⟩;exact join_end wk h
        ·revert h;refine cut_join (fun (v75,v76,v77,v78,v79,v80)=>⟨dd 6 (AV.ref 7 0::AV.ref 8 0::dd 118 ([])),some (OB.box (Deck.av v75))::nn 6 (some (OB.box Attrs.zv)::some (OB.box [AV.d (D.i v2),AV.d (D.l 2 Segment.toD v76),AV.d (D.b v77),AV.d (D.u64 v78),AV.d (D.u64 v79),AV.d (D.i v30),AV.d (D.i v39),AV.d (D.i (-1)),AV.d (D.l 2 Community.toD v44),AV.d (D.l 3 Large.toD v47),AV.d (D.l 3 Unknown.toD v80)])::nn 120 ([]))⟩) ?_ ?_
         ·intro k81 h;revert h;refine sel_if ?_ ?_<;>intro h
          ·(conv=>whnf);refine .inl ?_;refine ⟨rfl,?_⟩;refine ⟨rfl,?_⟩;refine ⟨by simp,?_⟩;refine ⟨rfl,?_⟩;exact join_end wk h
          ·revert h;refine cut_join (fun (v82,v83,v84,v85,v86,v87)=>⟨dd 6 (AV.ref 7 0::AV.ref 8 0::dd 118 ([])),some (OB.box (Deck.av v82))::nn 6 (some (OB.box Attrs.zv)::some (OB.box [AV.d (D.i v2),AV.d (D.l 2 Segment.toD v83),AV.d (D.b v84),AV.d (D.u64 v85),AV.d (D.u64 v86),AV.d (D.i v30),AV.d (D.i v39),AV.d (D.i (-1)),AV.d (D.l 2 Community.toD v44),AV.d (D.l 3 Large.toD v47),AV.d (D.l 3 Unknown.toD v87)])::nn 120 ([]))⟩) ?_ ?_
           ·intro k88 h;revert h;refine sel_if ?_ ?_<;>intro h
            ·(conv=>whnf);refine .inl (dOB (by kernel_rfl) ?_);refine ⟨rfl,?_⟩;refine ⟨rfl,?_⟩;obtain ⟨v89,g90,h⟩:=bind_inv h;refine ⟨rfl,apnd_b (f:=D.i) (g:=D.i) g90,_,apnd_z (f:=D.i) g90,?_⟩;refine ⟨rfl,?_⟩;(conv=>whnf);refine cOB (by kernel_rfl) ?_;exact join_end wk h
            ·revert h;refine cut_join (fun (v91,v92,v93,v94,v95,v96)=>⟨dd 6 (AV.ref 7 0::AV.ref 8 0::dd 118 ([])),some (OB.box (Deck.av v91))::nn 6 (some (OB.box Attrs.zv)::some (OB.box [AV.d (D.i v2),AV.d (D.l 2 Segment.toD v92),AV.d (D.b v93),AV.d (D.u64 v94),AV.d (D.u64 v95),AV.d (D.i v30),AV.d (D.i v39),AV.d (D.i (-1)),AV.d (D.l 2 Community.toD v44),AV.d (D.l 3 Large.toD v47),AV.d (D.l 3 Unknown.toD v96)])::nn 120 ([]))⟩) ?_ ?_
             ·intro k97 h;revert h;refine sel_if ?_ ?_<;>intro h
              ·obtain ⟨v98,g99,h⟩:=bind_inv h;refine ⟨_,_,some [],mill_Port_ok g99,?_⟩;exact join_end wk h
              ·revert h;refine cut_join (fun (v100,v101,v102)=>⟨dd 6 (AV.ref 7 0::AV.ref 8 0::dd 118 ([])),some (OB.box (Deck.av v100))::nn 6 (some (OB.box Attrs.zv)::some (OB.box [AV.d (D.i v2),AV.d (D.l 2 Segment.toD v101),AV.d (D.b v24.V6),AV.d (D.u64 v24.Hi),AV.d (D.u64 v24.Lo),AV.d (D.i v30),AV.d (D.i v39),AV.d (D.i (-1)),AV.d (D.l 2 Community.toD v44),AV.d (D.l 3 Large.toD v47),AV.d (D.l 3 Unknown.toD v102)])::nn 120 ([]))⟩) ?_ ?_
               ·intro k103 h;revert h;refine sel_if ?_ ?_<;>intro h
                ·(conv=>whnf);refine .inl (dOB (by kernel_rfl) ?_);refine ⟨rfl,?_⟩;refine ⟨rfl,?_⟩;obtain ⟨v104,g105,h⟩:=bind_inv h;refine ⟨rfl,apnd_b (f:=D.i) (g:=D.i) g105,_,apnd_z (f:=D.i) g105,?_⟩;refine ⟨rfl,?_⟩;(conv=>whnf);refine cOB (by kernel_rfl) ?_;exact join_end wk h
                ·revert h;refine cut_join (fun (v106,v107,v108)=>⟨dd 6 (AV.ref 7 0::AV.ref 8 0::dd 118 ([])),some (OB.box (Deck.av v106))::nn 6 (some (OB.box Attrs.zv)::some (OB.box [AV.d (D.i v2),AV.d (D.l 2 Segment.toD v107),AV.d (D.b v24.V6),AV.d (D.u64 v24.Hi),AV.d (D.u64 v24.Lo),AV.d (D.i v30),AV.d (D.i v39),AV.d (D.i (-1)),AV.d (D.l 2 Community.toD v44),AV.d (D.l 3 Large.toD v47),AV.d (D.l 3 Unknown.toD v108)])::nn 120 ([]))⟩) ?_ ?_
                 ·intro k109 h;revert h;refine sel_if ?_ ?_<;>intro h
                  ·exact join_end wk h
                  ·revert h;refine cut_join (fun (v110,v111)=>⟨dd 6 (AV.ref 7 0::AV.ref 8 0::dd 118 ([])),some (OB.box (Deck.av v110))::nn 6 (some (OB.box Attrs.zv)::some (OB.box [AV.d (D.i v2),AV.own 34 1,AV.d (D.b v24.V6),AV.d (D.u64 v24.Hi),AV.d (D.u64 v24.Lo),AV.d (D.i v30),AV.d (D.i v39),AV.d (D.i (-1)),AV.d (D.l 2 Community.toD v44),AV.d (D.l 3 Large.toD v47),AV.d (D.l 3 Unknown.toD v111)])::nn 7 (some (OB.row 3 1 (List.map D.i v9) .no)::nn 17 (some (OB.box [AV.d (D.b false),AV.own 16 (List.map D.i v9).length])::nn 94 ([]))))⟩) ?_ ?_
                   ·intro k112 h;revert h;refine sel_if ?_ ?_<;>intro h
                    ·obtain ⟨⟨v113,v114⟩,g115,h⟩:=bind_inv h;refine ⟨_,_,some [],mill_Deck_Next_ok g115,?_⟩;refine ⟨_,u8_wrap _,?_⟩;(conv=>whnf);refine .inr (.inl ?_);exact join_end wk h
                    ·exact join_end wk h
                   ·rintro ⟨v110,v111⟩ h;exact join_end wk h
                 ·rintro ⟨v106,v107,v108⟩ h;exact join_end wk h
               ·rintro ⟨v100,v101,v102⟩ h;exact join_end wk h
             ·rintro ⟨v91,v92,v93,v94,v95,v96⟩ h;exact join_end wk h
           ·rintro ⟨v82,v83,v84,v85,v86,v87⟩ h;exact join_end wk h
         ·rintro ⟨v75,v76,v77,v78,v79,v80⟩ h;exact join_end wk h
       ·rintro ⟨v64,v65,v66,v67,v68,v69⟩ h;exact join_end wk h
     ·rintro ⟨v53,v54,v55,v56,v57,v58,v59⟩ h;cases h;exact ⟨rfl,rfl⟩
theorem mill_Deck_Route_ok {wl:Prop} {a0:Deck} {a1:Int} {r:Route×Deck} (h:mill_Deck_Route a0 a1=some r):CallsOK (Wl wl) Tryz.prog 53 [.ref 0 0,AV.d (D.i a1)] [.box (Deck.av a0)] (.d (Route.toD r.1)) [.box (Deck.av r.2)]:=by
 refine ok Tryz.f53 (by kernel_rfl) (by kernel_rfl) ⟨rfl,?_⟩;unfold mill_Deck_Route at h;obtain ⟨⟨v1,v2⟩,g3,h⟩:=bind_inv h;refine ⟨_,_,some [],mill_Deck_Prefix_ok g3,?_⟩;(conv=>whnf);refine .inl (dOB (by kernel_rfl) ?_);obtain ⟨⟨v4,v5⟩,g6,h⟩:=bind_inv h;refine ⟨_,_,mill_Deck_Attrs_ok g6,.inl rfl,?_⟩;(conv=>whnf);refine cOB (by kernel_rfl) ?_;cases h;exact ⟨rfl,rfl⟩
theorem mill_Deck_Update_ok {wl:Prop} {a0:Deck} {a1:Int} {r:Update×Deck} (h:mill_Deck_Update a0 a1=some r):CallsOK (Wl wl) Tryz.prog 26 [.ref 0 0,AV.d (D.i a1)] [.box (Deck.av a0)] (.d (Update.toD r.1)) [.box (Deck.av r.2)]:=by
 refine okx 2 Tryz.f26 (by kernel_rfl) (by kernel_rfl) ⟨rfl,?_⟩;unfold mill_Deck_Update at h;revert h;refine cut_join (fun _=>⟨AV.ref 0 0::AV.d (D.i a1)::X::X::AV.ref 5 0::dd 5 (AV.d (D.agg [D.i (-1),D.nil 2,D.b false,D.u64 (0:UInt64),D.u64 (0:UInt64),D.i (-1),D.i (-1),D.i (-1),D.nil 2,D.nil 3,D.nil 3])::dd 55 ([])),some (OB.box (Deck.av a0))::nn 4 (some (OB.box Update.zv)::nn 63 ([]))⟩) ?_ ?_
 ·intro k1 h;(conv=>whnf);refine inl Tryz.f51 67 (by kernel_rfl) (by kernel_rfl) ⟨rfl,?_⟩;exact join_end wk h
 ·rintro _ h;obtain ⟨⟨v2,v3⟩,g4,h⟩:=bind_inv h;refine ⟨_,_,some [],mill_Deck_Next_ok g4,?_⟩;revert h;refine cut_join (fun (v5,v6)=>⟨AV.ref 0 0::AV.d (D.i a1)::X::X::AV.ref 5 0::AV.ref 6 0::dd 60 ([]),some (OB.box (Deck.av v5))::nn 4 (some (OB.box Update.zv)::some (OB.box [AV.own 29 (List.map Prefix.toD v6).length,AV.d (D.i (-1)),AV.d (D.nil 2),AV.d (D.b false),AV.d (D.u64 (0:UInt64)),AV.d (D.u64 (0:UInt64)),AV.d (D.i (-1)),AV.d (D.i (-1)),AV.d (D.i (-1)),AV.d (D.nil 2),AV.d (D.nil 3),AV.d (D.nil 3),AV.d (D.nil 4)])::nn 22 (some (OB.row 73 4 (List.map Prefix.toD v6) .no)::nn 39 ([])))⟩) ?_ ?_
  ·intro k7 h;revert h;refine loop_while (fun (v8,v9,v10)=>⟨AV.ref 0 0::AV.d (D.i a1)::X::X::AV.ref 5 0::AV.ref 6 0::AV.d (D.i v8)::dd 59 ([]),some (OB.box (Deck.av v9))::nn 4 (some (OB.box Update.zv)::some (OB.box [AV.own 29 (List.map Prefix.toD v10).length,AV.d (D.i (-1)),AV.d (D.nil 2),AV.d (D.b false),AV.d (D.u64 (0:UInt64)),AV.d (D.u64 (0:UInt64)),AV.d (D.i (-1)),AV.d (D.i (-1)),AV.d (D.i (-1)),AV.d (D.nil 2),AV.d (D.nil 3),AV.d (D.nil 3),AV.d (D.nil 4)])::nn 22 (some (OB.row 73 4 (List.map Prefix.toD v10) .no)::nn 39 ([])))⟩) ?_ ?_
   ·exact wk
   rintro next11 ⟨v8,v9,v10⟩ K12 h hK13;revert h;refine cut_join (fun (v14,v15)=>⟨AV.ref 0 0::AV.d (D.i a1)::X::X::AV.ref 5 0::AV.ref 6 0::AV.d (D.i v8)::dd 13 (AV.d (D.b v14)::dd 45 ([])),some (OB.box (Deck.av v15))::nn 4 (some (OB.box Update.zv)::some (OB.box [AV.own 29 (List.map Prefix.toD v10).length,AV.d (D.i (-1)),AV.d (D.nil 2),AV.d (D.b false),AV.d (D.u64 (0:UInt64)),AV.d (D.u64 (0:UInt64)),AV.d (D.i (-1)),AV.d (D.i (-1)),AV.d (D.i (-1)),AV.d (D.nil 2),AV.d (D.nil 3),AV.d (D.nil 3),AV.d (D.nil 4)])::nn 22 (some (OB.row 73 4 (List.map Prefix.toD v10) .no)::nn 39 ([])))⟩) ?_ ?_
   ·intro k16 h;revert h;refine sel_if ?_ ?_<;>intro h
    ·obtain ⟨⟨v17,v18⟩,g19,h⟩:=bind_inv h;refine ⟨_,_,some [],mill_Deck_Next_ok g19,?_⟩;exact join_end wk h
    ·exact join_end wk h
   ·rintro ⟨v14,v15⟩ h;(conv=>whnf);refine .go ?_;revert h;refine sel_if ?_ ?_<;>intro h
    ·(conv=>whnf);refine .go ?_;(conv=>whnf);refine .inl (dOB (by kernel_rfl) ?_);obtain ⟨⟨v20,v21⟩,g22,h⟩:=bind_inv h;refine ⟨_,_,mill_Deck_Prefix_ok g22,.inl rfl,?_⟩;refine ⟨rfl,?_⟩;obtain ⟨v23,g24,h⟩:=bind_inv h;refine ⟨rfl,apnd_b (f:=Prefix.toD) (g:=Prefix.toD) g24,_,apnd_z (f:=Prefix.toD) g24,?_⟩;(conv=>whnf);refine cOB (by kernel_rfl) ?_;refine ⟨_,rfl,?_⟩;exact hK13 _ _ wk h
    ·exact join_end wk h
  ·rintro ⟨v5,v6⟩ h;obtain ⟨⟨v25,v26⟩,g27,h⟩:=bind_inv h;refine ⟨_,_,some [],mill_Deck_Next_ok g27,?_⟩;revert h;refine cut_join (fun (v28,v29,v30,v31,v32,v33,v34,v35,v36,v37,v38,v39,v40)=>⟨dd 4 (AV.ref 5 0::AV.ref 6 0::dd 60 ([])),some (OB.box (Deck.av v28))::nn 4 (some (OB.box Update.zv)::some (OB.box [AV.own 29 (List.map Prefix.toD v6).length,AV.d (D.i v29),AV.d (D.l 2 Segment.toD v30),AV.d (D.b v31),AV.d (D.u64 v32),AV.d (D.u64 v33),AV.d (D.i v34),AV.d (D.i v35),AV.d (D.i v36),AV.d (D.l 2 Community.toD v37),AV.d (D.l 3 Large.toD v38),AV.d (D.l 3 Unknown.toD v39),AV.own 42 (List.map Prefix.toD v40).length])::nn 22 (some (OB.row 73 4 (List.map Prefix.toD v6) .no)::nn 12 (some (OB.row 73 4 (List.map Prefix.toD v40) .no)::nn 26 ([]))))⟩) ?_ ?_
   ·intro k41 h;revert h;refine sel_if ?_ ?_<;>intro h
    ·obtain ⟨⟨v42,v43⟩,g44,h⟩:=bind_inv h;refine ⟨_,_,some [],mill_Deck_Route_ok g44,?_⟩;obtain ⟨⟨v45,v46⟩,g47,h⟩:=bind_inv h;refine ⟨_,_,some [],mill_Deck_Next_ok g47,?_⟩;revert h;refine cut_join (fun (v48,v49)=>⟨dd 4 (AV.ref 5 0::AV.ref 6 0::dd 60 ([])),some (OB.box (Deck.av v48))::nn 4 (some (OB.box Update.zv)::some (OB.box [AV.own 29 (List.map Prefix.toD v6).length,AV.d (D.i v42.Attrs.Origin),AV.d (D.l 2 Segment.toD v42.Attrs.Path),AV.d (D.b v42.Attrs.Next.V6),AV.d (D.u64 v42.Attrs.Next.Hi),AV.d (D.u64 v42.Attrs.Next.Lo),AV.d (D.i v42.Attrs.MED),AV.d (D.i v42.Attrs.Pref),AV.d (D.i v42.Attrs.OTC),AV.d (D.l 2 Community.toD v42.Attrs.Communities),AV.d (D.l 3 Large.toD v42.Attrs.Large),AV.d (D.l 3 Unknown.toD v42.Attrs.Other),AV.own 42 (List.map Prefix.toD v49).length])::nn 22 (some (OB.row 73 4 (List.map Prefix.toD v6) .no)::nn 12 (some (OB.row 73 4 (List.map Prefix.toD v49) .no)::nn 26 ([]))))⟩) ?_ ?_
     ·intro k50 h;revert h;refine loop_while (fun (v51,v52,v53)=>⟨AV.ref 0 0::X::X::X::AV.ref 5 0::AV.ref 6 0::X::AV.ref 8 0::AV.d (D.i v51)::dd 57 ([]),some (OB.box (Deck.av v52))::nn 4 (some (OB.box Update.zv)::some (OB.box [AV.own 29 (List.map Prefix.toD v6).length,AV.d (D.i v42.Attrs.Origin),AV.d (D.l 2 Segment.toD v42.Attrs.Path),AV.d (D.b v42.Attrs.Next.V6),AV.d (D.u64 v42.Attrs.Next.Hi),AV.d (D.u64 v42.Attrs.Next.Lo),AV.d (D.i v42.Attrs.MED),AV.d (D.i v42.Attrs.Pref),AV.d (D.i v42.Attrs.OTC),AV.d (D.l 2 Community.toD v42.Attrs.Communities),AV.d (D.l 3 Large.toD v42.Attrs.Large),AV.d (D.l 3 Unknown.toD v42.Attrs.Other),AV.own 42 (List.map Prefix.toD v53).length])::N::some (OB.box (Route.av v42))::nn 20 (some (OB.row 73 4 (List.map Prefix.toD v6) .no)::nn 12 (some (OB.row 73 4 (List.map Prefix.toD v53) .no)::nn 26 ([]))))⟩) ?_ ?_
      ·exact wk
      rintro next54 ⟨v51,v52,v53⟩ K55 h hK56;(conv=>whnf);refine .go ?_;revert h;refine sel_if ?_ ?_<;>intro h
      ·(conv=>whnf);refine .go ?_;obtain ⟨⟨v57,v58⟩,g59,h⟩:=bind_inv h;refine ⟨_,_,some [],mill_Deck_Prefix_ok g59,?_⟩;revert h;refine cut_join (fun v60=>⟨AV.ref 0 0::X::X::X::AV.ref 5 0::AV.ref 6 0::X::AV.ref 8 0::AV.d (D.i v51)::dd 57 ([]),some (OB.box (Deck.av v58))::nn 4 (some (OB.box Update.zv)::some (OB.box [AV.own 29 (List.map Prefix.toD v6).length,AV.d (D.i v42.Attrs.Origin),AV.d (D.l 2 Segment.toD v42.Attrs.Path),AV.d (D.b v42.Attrs.Next.V6),AV.d (D.u64 v42.Attrs.Next.Hi),AV.d (D.u64 v42.Attrs.Next.Lo),AV.d (D.i v42.Attrs.MED),AV.d (D.i v42.Attrs.Pref),AV.d (D.i v42.Attrs.OTC),AV.d (D.l 2 Community.toD v42.Attrs.Communities),AV.d (D.l 3 Large.toD v42.Attrs.Large),AV.d (D.l 3 Unknown.toD v42.Attrs.Other),AV.own 42 (List.map Prefix.toD v60).length])::N::some (OB.box (Route.av v42))::nn 20 (some (OB.row 73 4 (List.map Prefix.toD v6) .no)::nn 12 (some (OB.row 73 4 (List.map Prefix.toD v60) .no)::nn 26 ([]))))⟩) ?_ ?_
       ·intro k61 h;revert h;refine sel_if ?_ ?_<;>intro h
        ·refine ⟨rfl,?_⟩;obtain ⟨v62,g63,h⟩:=bind_inv h;refine ⟨rfl,apnd_b (f:=Prefix.toD) (g:=Prefix.toD) g63,_,apnd_z (f:=Prefix.toD) g63,?_⟩;exact join_end wk h
        ·exact join_end wk h
       ·rintro v60 h;refine ⟨_,rfl,?_⟩;exact hK56 _ _ wk h
      ·exact join_end wk h
     ·rintro ⟨v48,v49⟩ h;exact join_end wk h
    ·exact join_end wk h
   ·rintro ⟨v28,v29,v30,v31,v32,v33,v34,v35,v36,v37,v38,v39,v40⟩ h;(conv=>whnf);refine .inl ?_;refine ⟨rfl,?_⟩;refine ⟨rfl,?_⟩;cases h;exact ⟨rfl,rfl⟩
theorem law33_message_ok {wl:Prop} {a0:Deck} {r:Message×Deck} (h:law33_message a0=some r):CallsOK (Wl wl) Tryz.prog 9 [.ref 0 0] [.box (Deck.av a0)] (.d (Message.toD r.1)) [.box (Deck.av r.2)]:=by
 refine ok Tryz.f9 (by kernel_rfl) (by kernel_rfl) ⟨rfl,?_⟩;unfold law33_message at h;obtain ⟨⟨v1,v2⟩,g3,h⟩:=bind_inv h;refine ⟨_,_,some [],mill_Deck_Next_ok g3,?_⟩;(conv=>whnf);refine .go ?_;(conv=>whnf);refine .go ?_;revert h;refine sel_if ?_ ?_<;>intro h
 ·cases h;exact ⟨rfl,rfl⟩
 ·(conv=>whnf);refine .go ?_;revert h;refine sel_if ?_ ?_<;>intro h
  ·(conv=>whnf);refine .inl ?_;refine ⟨rfl,?_⟩;cases h;exact ⟨rfl,rfl⟩
  ·(conv=>whnf);refine .go ?_;revert h;refine sel_if ?_ ?_<;>intro h
   ·obtain ⟨_,g4,h⟩:=bind_inv h;refine ⟨make_b g4 (Nat.le_of_ble_eq_true rfl),D.u8 (0:UInt8),rfl,(List.map D.u8 (List.replicate (Int.toNat 4) (0:UInt8))),List.map_replicate.symm,?_⟩;(conv=>whnf);refine .inl ?_;refine ⟨rfl,?_⟩;cases h;exact ⟨rfl,rfl⟩
   ·(conv=>whnf);refine .go ?_;revert h;refine sel_if ?_ ?_<;>intro h
    ·(conv=>whnf);refine .inl ?_;refine ⟨rfl,?_⟩;cases h;exact ⟨rfl,rfl⟩
    ·obtain ⟨⟨v5,v6⟩,g7,h⟩:=bind_inv h;refine ⟨_,_,some [],mill_Deck_Update_ok g7,?_⟩;obtain ⟨⟨v8,v9⟩,g10,h⟩:=bind_inv h;refine ⟨_,_,some [],ref19_Encode_ok g10,?_⟩;revert h;refine cut_join (fun (v11,v12)=>⟨AV.ref 0 0::X::AV.ref 3 0::AV.d (D.l 1 D.u8 v8)::dd 31 (AV.d (D.b v11)::dd 13 ([])),some (OB.box (Deck.av v12))::N::N::some (OB.box Message.zv)::nn 46 ([])⟩) ?_ ?_
     ·intro k13 h;obtain ⟨⟨v14,v15⟩,g16,h⟩:=bind_inv h;refine ⟨_,_,some [],mill_Deck_Next_ok g16,?_⟩;revert h;refine sel_if ?_ ?_<;>intro h
      ·refine ⟨v8.length,List.length_map _,?_⟩;exact join_end wk h
      ·exact join_end wk h
     ·rintro ⟨v11,v12⟩ h;revert h;refine cut_join (fun (v17,v18)=>⟨X::X::AV.ref 3 0::AV.d (D.l 1 D.u8 v17)::dd 45 ([]),some (OB.box (Deck.av v18))::N::N::some (OB.box Message.zv)::nn 46 ([])⟩) ?_ ?_
      ·intro k19 h;revert h;refine sel_if ?_ ?_<;>intro h
       ·obtain ⟨_,g20,h⟩:=bind_inv h;refine ⟨apnd_b0 (g:=D.u8) g20,?_⟩;refine ⟨v8.length,by first | exact List.length_map _ | rfl | (simp only [List.length_map];omega),?_⟩;obtain ⟨⟨v21,v22⟩,g23,h⟩:=bind_inv h;refine ⟨_,_,some [],mill_Deck_Next_ok g23,?_⟩;obtain ⟨⟨v24,v25⟩,g26,h⟩:=bind_inv h;refine ⟨_,_,some [],mill_Deck_Next_ok g26,?_⟩;refine ⟨_,u8_wrap _,?_⟩;obtain ⟨v27,g28,h⟩:=bind_inv h;refine ⟨rfl,geti_b (f:=D.u8) g28,?_⟩;obtain ⟨v29,g30,h⟩:=bind_inv h;have g30l:=seti_len g30;refine ⟨rfl,rfl,D.u8 v27,(geti_d (f:=D.u8) g28),?_⟩;refine ⟨_,seti_z (f:=D.u8) g30,?_⟩;exact join_end wk h
       ·exact join_end wk h
      ·rintro ⟨v17,v18⟩ h;cases h;exact ⟨rfl,rfl⟩
end Go.AX.Q33
end
section
namespace Go.AX.Q33
open Go Go.AX Go.Proofs
set_option maxRecDepth 100000
set_option maxHeartbeats 4000000
set_option linter.unusedVariables false
end Go.AX.Q33
end
section
namespace Go.AX.Q33
open Go Go.AX Go.Proofs
set_option maxRecDepth 100000
set_option maxHeartbeats 4000000
set_option linter.unusedVariables false
end Go.AX.Q33
end
section
namespace Go.AX.Q33
open Go Go.AX Go.Proofs
set_option maxRecDepth 100000
set_option maxHeartbeats 4000000
set_option linter.unusedVariables false
end Go.AX.Q33
end
section
namespace Go.AX.Q33
open Go Go.AX Go.Proofs
set_option maxRecDepth 100000
set_option maxHeartbeats 4000000
set_option linter.unusedVariables false
end Go.AX.Q33
end
section
namespace Go.AX.Q33
open Go Go.AX Go.Proofs
set_option maxRecDepth 100000
set_option maxHeartbeats 4000000
set_option linter.unusedVariables false
end Go.AX.Q33
end
section
namespace Go.AX.Q33
open Go Go.AX Go.Proofs
set_option maxRecDepth 100000
set_option maxHeartbeats 4000000
set_option linter.unusedVariables false
theorem law33_RestartOnce_ok {wl:Prop} {a0:List Int} {a1:Int} {a2:Int} {r:Bool} (h:law33_RestartOnce a0 a1 a2=some r):CallsOK (Wl wl) Tryz.prog 5 [AV.d (D.l 1 D.i a0),AV.d (D.i a1),AV.d (D.i a2)] [] (.d (D.b r)) []:=by
 refine ok Tryz.f5 (by kernel_rfl) (by kernel_rfl) ⟨rfl,?_⟩;unfold law33_RestartOnce at h;obtain ⟨v1,g2,h⟩:=bind_inv h;refine ⟨_,_,some [13],mill_New_ok g2,?_⟩;obtain ⟨⟨v3,v4⟩,g5,h⟩:=bind_inv h;refine ⟨_,_,some [],law33_session_ok g5,?_⟩;obtain ⟨⟨v6,v7⟩,g8,h⟩:=bind_inv h;refine ⟨_,_,some [],law33_session_ok g8,?_⟩;obtain ⟨⟨v9,v10⟩,g11,h⟩:=bind_inv h;refine ⟨_,_,some [],law33_message_ok g11,?_⟩;obtain ⟨v12,g13,h⟩:=bind_inv h;refine ⟨_,_,some [],restart_Records_ok g13,?_⟩;revert h;refine cut_join (fun v14=>⟨X::AV.d (D.i a1)::dd 6 (AV.ref 8 0::AV.ref 9 0::AV.ref 10 0::AV.d (D.l 24 Record.toD v12)::dd 21 (AV.d (D.b v14)::dd 39 ([]))),nn 8 (some (OB.box (Session.av v3))::some (OB.box (Session.av v6))::some (OB.box (Message.av v9))::nn 62 ([]))⟩) ?_ ?_
 ·intro k15 h;revert h;refine sel_if ?_ ?_<;>intro h
  ·exact join_end wk h
  ·exact join_end wk h
 ·rintro v14 h;(conv=>whnf);refine .go ?_;revert h;refine sel_if ?_ ?_<;>intro h
  ·revert h;refine cut_join (fun v16=>⟨dd 6 (AV.d (D.b v16)::dd 66 ([])),nn 73 ([])⟩) ?_ ?_
   ·intro k17 h;refine ⟨v12.length,List.length_map _,?_⟩;revert h;refine sel_if ?_ ?_<;>intro h
    ·obtain ⟨v18,g19,h⟩:=bind_inv h;refine ⟨_,_,some [],law33_awake_ok g19,?_⟩;exact join_end wk h
    ·exact join_end wk h
   ·rintro v16 h;cases h;exact ⟨rfl,rfl⟩
  ·revert h;refine cut_join (fun v20=>⟨dd 8 (AV.ref 8 0::AV.ref 9 0::AV.ref 10 0::AV.d (D.l 24 Record.toD v12)::dd 43 (AV.d (D.b v20)::dd 17 ([]))),nn 8 (some (OB.box (Session.av v3))::some (OB.box (Session.av v6))::some (OB.box (Message.av v9))::nn 62 ([]))⟩) ?_ ?_
   ·intro k21 h;refine ⟨v12.length,List.length_map _,?_⟩;revert h;refine sel_if ?_ ?_<;>intro h
    ·exact join_end wk h
    ·refine ⟨v12.length,List.length_map _,?_⟩;revert h;refine sel_if ?_ ?_<;>intro h
     ·obtain ⟨v22,g23,h⟩:=bind_inv h;refine ⟨geti_b (f:=Record.toD) g23,Record.toD v22,geti_d (f:=Record.toD) g23,rfl,?_⟩;exact join_end wk h
     ·exact join_end wk h
   ·rintro v20 h;(conv=>whnf);refine .go ?_;revert h;refine sel_if ?_ ?_<;>intro h
    ·cases h;exact ⟨rfl,rfl⟩
    ·revert h;refine cut_join (fun v24=>⟨dd 6 (AV.d (D.b v24)::dd 66 ([])),nn 73 ([])⟩) ?_ ?_
     ·intro k25 h;refine ⟨v12.length,List.length_map _,?_⟩;revert h;refine sel_if ?_ ?_<;>intro h
      ·revert h;refine sel_if ?_ ?_<;>intro h
       ·obtain ⟨v26,g27,h⟩:=bind_inv h;refine ⟨_,_,some [],law33_awake_ok g27,?_⟩;exact join_end wk h
       ·exact join_end wk h
      ·revert h;refine sel_if ?_ ?_<;>intro h
       ·obtain ⟨v28,g29,h⟩:=bind_inv h;refine ⟨_,_,some [],law33_awake_ok g29,?_⟩;exact join_end wk h
       ·exact join_end wk h
     ·rintro v24 h;cases h;exact ⟨rfl,rfl⟩
end Go.AX.Q33
end
