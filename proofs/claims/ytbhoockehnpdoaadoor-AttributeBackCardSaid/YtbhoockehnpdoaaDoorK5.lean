/-
  Texts of one proof, packed: Q18P18.
-/
import Derived.Test.YtbhoockehnpdoaaDoorK4
set_option linter.all false
section
namespace Go.AX.Q18
open Go Go.AX Go.Proofs
set_option maxRecDepth 100000
set_option maxHeartbeats 4000000
set_option linter.unusedVariables false
theorem law18_AttributeFaults_ok {wl:Prop} {a0:List Int} {a1:Int} {a2:Int} {r:Bool} (h:law18_AttributeFaults a0 a1 a2=some r):CallsOK (Wl wl) Tryd.prog 7 [AV.d (D.l 1 D.i a0),AV.d (D.i a1),AV.d (D.i a2)] [] (.d (D.b r)) []:=by
 refine ok Tryd.f7 (by kernel_rfl) (by kernel_rfl) ⟨rfl,?_⟩;unfold law18_AttributeFaults at h;obtain ⟨v1,g2,h⟩:=bind_inv h;refine ⟨_,_,some [24],make_New_ok g2,?_⟩;obtain ⟨⟨v3,v4⟩,g5,h⟩:=bind_inv h;refine ⟨_,_,some [],make_Deck_Attrs_ok g5,?_⟩;obtain ⟨⟨v6,v7⟩,g8,h⟩:=bind_inv h;refine ⟨_,_,some [],attribute_Write_ok g8,?_⟩;(conv=>whnf);refine .go ?_;revert h;refine sel_if ?_ ?_<;>intro h
 ·cases h;exact ⟨rfl,rfl⟩
 ·obtain ⟨v9,g10,h⟩:=bind_inv h;refine ⟨_,_,some [],make_Mod_ok g10,?_⟩;obtain ⟨v11,g12,h⟩:=bind_inv h;refine ⟨rfl,geti_b (f:=D.i) g12,?_⟩;refine ⟨rfl,D.i v11,(geti_d (f:=D.i) g12),?_⟩;refine ⟨v6.length,List.length_map _,?_⟩;revert h;refine cut_join (fun v13=>⟨X::AV.d (D.i a1)::dd 5 (AV.d (D.l 3 Unknown.toD v6)::X::AV.d (D.i v11)::AV.d (D.b v13)::dd 120 ([])),nn 131 ([])⟩) ?_ ?_
  ·intro k14 h;revert h;refine loop_for 36 3 Unknown.toD rfl (fun i15 v16=>⟨X::AV.d (D.i a1)::dd 5 (AV.d (D.l 3 Unknown.toD v6)::X::AV.d (D.i v11)::AV.d (D.b v16)::dd 25 (AV.d (D.l 3 Unknown.toD v6)::AV.d (D.i (v6.length:Int))::AV.d (D.i (i15:Int))::dd 92 ([]))),nn 131 ([])⟩) ?_ ?_ ?_
   ·exact wk
   ·rintro v16 K17 h;(conv=>whnf);refine .go ?_;(conv=>whnf);refine sel_f lt_f ?_;exact join_end wk h
   ·rintro next18 i15 x19 v16 K17 hii15 hxi15 hwi15 h hK20;(conv=>whnf);refine .go ?_;(conv=>whnf);refine sel_t (lt_t hii15) ?_;(conv=>whnf);refine .go ?_;refine ⟨idx_b (f:=Unknown.toD) hii15,Unknown.toD x19,hxi15,rfl,?_⟩;revert h;refine cut_join (fun v21=>⟨X::AV.d (D.i a1)::dd 5 (AV.d (D.l 3 Unknown.toD v6)::X::AV.d (D.i v11)::AV.d (D.b v21)::dd 25 (AV.d (D.l 3 Unknown.toD v6)::AV.d (D.i (v6.length:Int))::AV.d (D.i (i15:Int))::dd 92 ([]))),nn 131 ([])⟩) ?_ ?_
    ·intro k22 h;revert h;refine sel_if ?_ ?_<;>intro h
     ·exact join_end wk h
     ·exact join_end wk h
    ·rintro v21 h;refine ⟨_,hwi15,?_⟩;exact hK20 _ _ wk h
  ·rintro v13 h;obtain ⟨v23,g24,h⟩:=bind_inv h;refine ⟨rfl,apnd_b (f:=Unknown.toD) (g:=Unknown.toD) g24,_,apnd_z (f:=Unknown.toD) g24,?_⟩;obtain ⟨⟨v25,v26⟩,g27,h⟩:=bind_inv h;refine ⟨_,_,some [],attribute_Read_o_ok g27,?_⟩;(conv=>whnf);refine .go ?_;revert h;refine sel_if ?_ ?_<;>intro h
   ·cases h;exact ⟨rfl,rfl⟩
   ·refine ⟨v6.length,List.length_map _,?_⟩;revert h;refine cut_join (fun _=>⟨dd 7 (AV.d (D.l 3 Unknown.toD v6)::X::X::AV.d (D.b v13)::dd 120 ([])),nn 131 ([])⟩) ?_ ?_
    ·intro k28 h;revert h;refine loop_for 61 3 Unknown.toD rfl (fun i29 _=>⟨X::AV.d (D.i a1)::dd 5 (AV.d (D.l 3 Unknown.toD v6)::X::X::AV.d (D.b v13)::dd 50 (AV.d (D.l 3 Unknown.toD v6)::AV.d (D.i (v6.length:Int))::AV.d (D.i (i29:Int))::dd 67 ([]))),nn 131 ([])⟩) ?_ ?_ ?_
     ·exact wk
     ·rintro _ K30 h;(conv=>whnf);refine .go ?_;(conv=>whnf);refine sel_f lt_f ?_;exact join_end wk h
     ·rintro next31 i29 x32 _ K30 hii29 hxi29 hwi29 h hK33;(conv=>whnf);refine .go ?_;(conv=>whnf);refine sel_t (lt_t hii29) ?_;revert h;refine cut_join (fun _=>⟨X::AV.d (D.i a1)::dd 5 (AV.d (D.l 3 Unknown.toD v6)::X::X::AV.d (D.b v13)::dd 50 (AV.d (D.l 3 Unknown.toD v6)::AV.d (D.i (v6.length:Int))::AV.d (D.i (i29:Int))::dd 67 ([]))),nn 131 ([])⟩) ?_ ?_
      ·intro k34 h;refine ⟨idx_b (f:=Unknown.toD) hii29,Unknown.toD x32,hxi29,rfl,?_⟩;revert h;refine cut_join (fun v35=>⟨X::AV.d (D.i a1)::dd 5 (AV.d (D.l 3 Unknown.toD v6)::X::X::AV.d (D.b v13)::dd 4 (AV.d (D.i (i29:Int))::AV.ref 16 0::dd 44 (AV.d (D.l 3 Unknown.toD v6)::AV.d (D.i (v6.length:Int))::AV.d (D.i (i29:Int))::dd 14 (AV.d (D.b v35)::dd 52 ([]))))),nn 16 (some (OB.box (Unknown.av x32))::nn 114 ([]))⟩) ?_ ?_
       ·intro k36 h;refine ⟨v6.length,List.length_map _,?_⟩;obtain ⟨v37,g38,h⟩:=bind_inv h;refine ⟨_,_,some [],make_Mod_ok g38,?_⟩;revert h;refine sel_if ?_ ?_<;>intro h
        ·exact join_end wk h
        ·exact join_end wk h
       ·rintro v35 h;(conv=>whnf);refine .go ?_;revert h;refine sel_if ?_ ?_<;>intro h
        ·exact join_end wk h
        ·obtain ⟨_,g39,h⟩:=bind_inv h;refine ⟨apnd_b0 (g:=Unknown.toD) g39,?_⟩;refine ⟨_,rfl,?_⟩;refine ⟨rfl,idx_b (f:=Unknown.toD) hii29,?_⟩;obtain ⟨v40,g41,h⟩:=bind_inv h;have g41l:=seti_len g41;refine ⟨rfl,rfl,Unknown.toD x32,hxi29,?_⟩;refine ⟨_,seti_z (f:=Unknown.toD) g41,?_⟩;obtain ⟨⟨v42,v43⟩,g44,h⟩:=bind_inv h;have g45:(List.map Unknown.toD v40).length=(List.map Unknown.toD v6).length:=(by first | rfl | (simp only [List.length_map,List.length_set];omega) | (simp only [List.length_map,List.length_set,List.length_append,List.length_take,List.length_drop,List.length_replicate];omega) | (simp only [List.length_map] at *;omega));refine ⟨_,_,some [],(g45 ▸ attribute_Read_o_ok g44),?_⟩;(conv=>whnf);refine .inl (dOB (by kernel_rfl) ?_);obtain ⟨_,g46,h⟩:=bind_inv h;refine ⟨apnd_b0 (g:=D.u8) g46,?_⟩;refine ⟨rfl,?_⟩;obtain ⟨v47,g48,h⟩:=bind_inv h;refine ⟨rfl,apnd_b (f:=D.u8) (g:=D.u8) g48,_,apnd_z (f:=D.u8) g48,?_⟩;obtain ⟨v49,g50,h⟩:=bind_inv h;refine ⟨(by first | rfl | (simp only [List.length_map];omega) | (simp only [List.length_map,List.length_set,List.length_append,List.length_take,List.length_drop,List.length_replicate];omega)),geti_b (f:=Unknown.toD) g50,?_⟩;obtain ⟨v51,g52,h⟩:=bind_inv h;have g52l:=seti_len g52;refine ⟨rfl,?_⟩;refine ⟨(by first | rfl | (simp only [List.length_map];omega) | (simp only [List.length_map,List.length_set,List.length_append,List.length_take,List.length_drop,List.length_replicate];omega)),rfl,Unknown.toD v49,(geti_d (f:=Unknown.toD) g50),?_⟩;refine ⟨_,seti_z (f:=Unknown.toD) g52,?_⟩;(conv=>whnf);refine cOB (by kernel_rfl) ?_;obtain ⟨⟨v53,v54⟩,g55,h⟩:=bind_inv h;have g56:(List.map Unknown.toD v51).length=(List.map Unknown.toD v6).length:=(by first | rfl | (simp only [List.length_map,List.length_set];omega) | (simp only [List.length_map,List.length_set,List.length_append,List.length_take,List.length_drop,List.length_replicate];omega) | (simp only [List.length_map] at *;omega));refine ⟨_,_,some [],(g56 ▸ attribute_Read_o_ok g55),?_⟩;revert h;refine cut_join (fun v57=>⟨X::AV.d (D.i a1)::dd 5 (AV.d (D.l 3 Unknown.toD v6)::X::X::AV.d (D.b v13)::dd 50 (AV.d (D.l 3 Unknown.toD v6)::AV.d (D.i (v6.length:Int))::AV.d (D.i (i29:Int))::dd 56 (AV.d (D.b v57)::dd 10 ([])))),nn 131 ([])⟩) ?_ ?_
         ·intro k58 h;revert h;refine sel_if ?_ ?_<;>intro h
          ·exact join_end wk h
          ·exact join_end wk h
         ·rintro v57 h;(conv=>whnf);refine .go ?_;revert h;refine sel_if ?_ ?_<;>intro h
          ·cases h;exact ⟨rfl,rfl⟩
          ·exact join_end wk h
      ·rintro _ h;refine ⟨_,hwi29,?_⟩;exact hK33 _ _ wk h
    ·rintro _ h;revert h;refine cut_join (fun v59=>⟨dd 6 (AV.d (D.b v59)::dd 124 ([])),nn 131 ([])⟩) ?_ ?_
     ·intro k60 h;revert h;refine sel_if ?_ ?_<;>intro h
      ·obtain ⟨v61,g62,h⟩:=bind_inv h;refine ⟨_,_,some [],law18_awake_ok g62,?_⟩;exact join_end wk h
      ·refine ⟨v6.length,List.length_map _,?_⟩;revert h;refine sel_if ?_ ?_<;>intro h
       ·obtain ⟨v63,g64,h⟩:=bind_inv h;refine ⟨_,_,some [],law18_awake_ok g64,?_⟩;exact join_end wk h
       ·exact join_end wk h
     ·rintro v59 h;cases h;exact ⟨rfl,rfl⟩
theorem ref15_Copy_ok {wl:Prop} {a0:List Segment} {r:(List Segment)} (h:ref15_Copy a0=some r):CallsOK (Wl wl) Tryd.prog 68 [AV.d (D.l 2 Segment.toD a0)] [] (.d (D.l 2 Segment.toD r)) []:=by
 refine ok Tryd.f68 (by kernel_rfl) (by kernel_rfl) ⟨rfl,?_⟩;unfold ref15_Copy at h;refine ⟨a0.length,List.length_map _,?_⟩;revert h;refine cut_join (fun v1=>⟨X::X::X::AV.own 3 (List.map Segment.toD v1).length::dd 19 ([]),N::N::N::some (OB.row 84 2 (List.map Segment.toD v1) .no)::nn 19 ([])⟩) ?_ ?_
 ·intro k2 h;revert h;refine loop_for 6 2 Segment.toD rfl (fun i3 v4=>⟨X::X::X::AV.own 3 (List.map Segment.toD v4).length::X::X::AV.d (D.l 2 Segment.toD a0)::AV.d (D.i (a0.length:Int))::AV.d (D.i (i3:Int))::dd 14 ([]),N::N::N::some (OB.row 84 2 (List.map Segment.toD v4) .no)::nn 19 ([])⟩) ?_ ?_ ?_
  ·exact wk
  ·rintro v4 K5 h;(conv=>whnf);refine .go ?_;(conv=>whnf);refine sel_f lt_f ?_;exact join_end wk h
  ·rintro next6 i3 x7 v4 K5 hii3 hxi3 hwi3 h hK8;(conv=>whnf);refine .go ?_;(conv=>whnf);refine sel_t (lt_t hii3) ?_;(conv=>whnf);refine .go ?_;refine ⟨idx_b (f:=Segment.toD) hii3,Segment.toD x7,hxi3,rfl,?_⟩;(conv=>whnf);refine .inl (dOB (by kernel_rfl) ?_);obtain ⟨_,g9,h⟩:=bind_inv h;refine ⟨apnd_b0 (g:=D.i) g9,?_⟩;(conv=>whnf);refine .inl ?_;refine ⟨rfl,?_⟩;refine ⟨rfl,?_⟩;obtain ⟨v10,g11,h⟩:=bind_inv h;refine ⟨rfl,apnd_b (f:=Segment.toD) (g:=Segment.toD) g11,_,apnd_z (f:=Segment.toD) g11,?_⟩;(conv=>whnf);refine cOB (by kernel_rfl) ?_;refine ⟨_,hwi3,?_⟩;exact hK8 _ _ wk h
 ·rintro v1 h;(conv=>whnf);refine .inl ?_;(conv=>whnf);refine .inl ?_;refine ⟨rfl,?_⟩;cases h;exact ⟨rfl,rfl⟩
theorem ref18_Copy_ok {wl:Prop} {a0:Attrs} {r:Attrs} (h:ref18_Copy a0=some r):CallsOK (Wl wl) Tryd.prog 28 [AV.d (Attrs.toD a0)] [] (.d (Attrs.toD r)) []:=by
 refine ok Tryd.f28 (by kernel_rfl) (by kernel_rfl) ⟨rfl,?_⟩;unfold ref18_Copy at h;obtain ⟨v1,g2,h⟩:=bind_inv h;refine ⟨_,_,some [],ref15_Copy_ok g2,?_⟩;(conv=>whnf);refine .inl (dOB (by kernel_rfl) ?_);obtain ⟨_,g3,h⟩:=bind_inv h;refine ⟨apnd_b0 (g:=Community.toD) g3,?_⟩;obtain ⟨_,g4,h⟩:=bind_inv h;refine ⟨apnd_b0 (g:=Large.toD) g4,?_⟩;(conv=>whnf);refine cOB (by kernel_rfl) ?_;refine ⟨a0.Other.length,List.length_map _,?_⟩;revert h;refine cut_join (fun v5=>⟨X::AV.ref 1 0::AV.ref 2 0::AV.own 3 (List.map Unknown.toD v5).length::dd 36 ([]),N::some (OB.box [AV.d (D.i a0.Origin),AV.d (D.l 2 Segment.toD v1),AV.d (D.b a0.Next.V6),AV.d (D.u64 a0.Next.Hi),AV.d (D.u64 a0.Next.Lo),AV.d (D.i a0.MED),AV.d (D.i a0.Pref),AV.d (D.i a0.OTC),AV.own 12 (List.map Community.toD a0.Communities).length,AV.own 15 (List.map Large.toD a0.Large).length,AV.d (D.l 3 Unknown.toD a0.Other)])::some (OB.box Attrs.zv)::some (OB.row 30 3 (List.map Unknown.toD v5) .no)::nn 8 (some (OB.row 106 2 (List.map Community.toD a0.Communities) .no)::N::N::some (OB.row 108 3 (List.map Large.toD a0.Large) .no)::nn 24 ([]))⟩) ?_ ?_
 ·intro k6 h;revert h;refine loop_for 19 3 Unknown.toD rfl (fun i7 v8=>⟨X::AV.ref 1 0::AV.ref 2 0::AV.own 3 (List.map Unknown.toD v8).length::dd 15 (AV.d (D.l 3 Unknown.toD a0.Other)::AV.d (D.i (a0.Other.length:Int))::AV.d (D.i (i7:Int))::dd 18 ([])),N::some (OB.box [AV.d (D.i a0.Origin),AV.d (D.l 2 Segment.toD v1),AV.d (D.b a0.Next.V6),AV.d (D.u64 a0.Next.Hi),AV.d (D.u64 a0.Next.Lo),AV.d (D.i a0.MED),AV.d (D.i a0.Pref),AV.d (D.i a0.OTC),AV.own 12 (List.map Community.toD a0.Communities).length,AV.own 15 (List.map Large.toD a0.Large).length,AV.d (D.l 3 Unknown.toD a0.Other)])::some (OB.box Attrs.zv)::some (OB.row 30 3 (List.map Unknown.toD v8) .no)::nn 8 (some (OB.row 106 2 (List.map Community.toD a0.Communities) .no)::N::N::some (OB.row 108 3 (List.map Large.toD a0.Large) .no)::nn 24 ([]))⟩) ?_ ?_ ?_
  ·exact wk
  ·rintro v8 K9 h;(conv=>whnf);refine .go ?_;(conv=>whnf);refine sel_f lt_f ?_;exact join_end wk h
  ·rintro next10 i7 x11 v8 K9 hii7 hxi7 hwi7 h hK12;(conv=>whnf);refine .go ?_;(conv=>whnf);refine sel_t (lt_t hii7) ?_;(conv=>whnf);refine .go ?_;refine ⟨idx_b (f:=Unknown.toD) hii7,Unknown.toD x11,hxi7,rfl,?_⟩;(conv=>whnf);refine .inl (dOB (by kernel_rfl) ?_);obtain ⟨_,g13,h⟩:=bind_inv h;refine ⟨apnd_b0 (g:=D.u8) g13,?_⟩;(conv=>whnf);refine .inl ?_;refine ⟨rfl,?_⟩;refine ⟨rfl,?_⟩;obtain ⟨v14,g15,h⟩:=bind_inv h;refine ⟨rfl,apnd_b (f:=Unknown.toD) (g:=Unknown.toD) g15,_,apnd_z (f:=Unknown.toD) g15,?_⟩;(conv=>whnf);refine cOB (by kernel_rfl) ?_;refine ⟨_,hwi7,?_⟩;exact hK12 _ _ wk h
 ·rintro v5 h;(conv=>whnf);refine .inl ?_;refine ⟨rfl,?_⟩;refine ⟨rfl,?_⟩;refine ⟨rfl,?_⟩;cases h;exact ⟨rfl,rfl⟩
theorem law18_AttributeBack_ok {wl:Prop} {a0:List Int} {r:Bool} (h:law18_AttributeBack a0=some r):CallsOK (Wl wl) Tryd.prog 8 [AV.d (D.l 1 D.i a0)] [] (.d (D.b r)) []:=by
 refine ok Tryd.f8 (by kernel_rfl) (by kernel_rfl) ⟨rfl,?_⟩;unfold law18_AttributeBack at h;obtain ⟨v1,g2,h⟩:=bind_inv h;refine ⟨_,_,some [14],make_New_ok g2,?_⟩;obtain ⟨⟨v3,v4⟩,g5,h⟩:=bind_inv h;refine ⟨_,_,some [],make_Deck_Attrs_ok g5,?_⟩;obtain ⟨⟨v6,v7⟩,g8,h⟩:=bind_inv h;refine ⟨_,_,some [],attribute_Write_ok g8,?_⟩;obtain ⟨⟨v9,v10⟩,g11,h⟩:=bind_inv h;refine ⟨_,_,some [],attribute_Join_ok g11,?_⟩;obtain ⟨⟨v12,v13⟩,g14,h⟩:=bind_inv h;refine ⟨_,_,some [],attribute_Split_ok g14,?_⟩;obtain ⟨⟨v15,v16⟩,g17,h⟩:=bind_inv h;refine ⟨_,_,some [],attribute_Read_ok g17,?_⟩;obtain ⟨v18,g19,h⟩:=bind_inv h;refine ⟨_,_,some [],ref18_Copy_ok g19,?_⟩;revert h;refine cut_join (fun v20=>⟨dd 4 (AV.d (D.l 3 Unknown.toD v6)::AV.d (D.i v7)::X::AV.d (D.i v10)::AV.d (D.l 3 Unknown.toD v12)::AV.d (D.i v13)::AV.ref 10 0::AV.d (D.i v16)::AV.ref 12 0::dd 57 ([])),nn 10 (some (OB.box (Attrs.av v15))::N::some (OB.box (Attrs.av v20))::nn 57 ([]))⟩) ?_ ?_
 ·intro k21 h;revert h;refine sel_if ?_ ?_<;>intro h
  ·exact join_end wk h
  ·exact join_end wk h
 ·rintro v20 h;revert h;refine cut_join (fun v22=>⟨X::X::AV.d (D.b v22)::dd 67 ([]),nn 70 ([])⟩) ?_ ?_
  ·intro k23 h;revert h;refine sel_if ?_ ?_<;>intro h
   ·revert h;refine sel_if ?_ ?_<;>intro h
    ·revert h;refine sel_if ?_ ?_<;>intro h
     ·revert h;refine sel_if ?_ ?_<;>intro h
      ·obtain ⟨v24,g25,h⟩:=bind_inv h;refine ⟨_,_,some [],ref18_Same_ok g25,?_⟩;revert h;refine sel_if ?_ ?_<;>intro h
       ·obtain ⟨v26,g27,h⟩:=bind_inv h;refine ⟨_,_,some [],ref18_SameList_ok g27,?_⟩;revert h;refine sel_if ?_ ?_<;>intro h
        ·obtain ⟨v28,g29,h⟩:=bind_inv h;refine ⟨_,_,some [],law18_awake_ok g29,?_⟩;exact join_end wk h
        ·exact join_end wk h
       ·exact join_end wk h
      ·exact join_end wk h
     ·exact join_end wk h
    ·exact join_end wk h
   ·exact join_end wk h
  ·rintro v22 h;cases h;exact ⟨rfl,rfl⟩
end Go.AX.Q18
end
