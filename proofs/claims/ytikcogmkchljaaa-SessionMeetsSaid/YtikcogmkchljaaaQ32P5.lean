/-
  The functions do what their plain forms say (proofs written by a program of mine), part 5.
-/
import Derived.Test.YtikcogmkchljaaaQ32P4
namespace Go.AX.Q32
open Go Go.AX Go.Proofs
set_option maxRecDepth 100000
set_option maxHeartbeats 4000000
set_option linter.unusedVariables false
theorem law32_SessionReads_ok {a0 : List UInt8} {a1 : List Int} {a2 : Int} {a3 : Int} {r : Bool} (h : law32_SessionReads a0 a1 a2 a3 = some r) : CallsOK Try.prog 4 [AV.d (D.l 1 D.u8 a0), AV.d (D.l 1 D.i a1), AV.d (D.i a2), AV.d (D.i a3)] [] (.d (D.b r)) [] := by
  refine ok Try.f4 (by kernel_rfl) (by kernel_rfl) ⟨rfl, ?_⟩
  unfold law32_SessionReads at h
  conv => whnf
  refine ⟨a0.length, List.length_map _, ?_⟩
  conv => whnf
  refine .go ?_
  conv => whnf
  revert h; refine sel_if ?_ ?_ <;> intro h
  · conv => whnf
    replace h := bind_inv h; obtain ⟨v3, g4, h⟩ := h
    refine ⟨_, _, law32_awake_ok g4, .inl rfl, ?_⟩
    conv => whnf
    cases h
    exact ⟨rfl, rfl⟩
  · conv => whnf
    replace h := bind_inv h; obtain ⟨v5, g6, h⟩ := h
    refine ⟨_, _, mill_New_ok g6, .inr rfl, ?_⟩
    conv => whnf
    replace h := bind_inv h; obtain ⟨⟨v7, v8⟩, g9, h⟩ := h
    refine ⟨_, _, mill_Deck_Next_ok g9, .inl rfl, ?_⟩
    conv => whnf
    refine ⟨_, rfl, ?_⟩
    conv => whnf
    replace h := bind_inv h; obtain ⟨⟨v10, v11⟩, g12, h⟩ := h
    refine ⟨_, _, mill_Deck_Open_ok g12, .inl rfl, ?_⟩
    conv => whnf
    replace h := bind_inv h; obtain ⟨⟨v13, v14⟩, g15, h⟩ := h
    refine ⟨_, _, ref32_Encode_ok g15, .inl rfl, ?_⟩
    conv => whnf
    replace h := bind_inv h; obtain ⟨_, g17, h⟩ := h
    refine ⟨apnd_b0 (g := D.u8) g17, ?_⟩
    conv => whnf
    refine ⟨v13.length, by first | exact List.length_map _ | rfl | (simp only [List.length_map]; omega), ?_⟩
    conv => whnf
    revert h; refine cut_join (fun v24 => ⟨AV.d (D.l 1 D.u8 a0) :: X :: AV.d (D.i a2) :: AV.d (D.i a3) :: dd 6 (AV.d (D.l 1 D.u8 v13) :: X :: AV.own 39 (List.map D.u8 v24).length :: dd 140 ([])), nn 39 (some (OB.row 5 1 (List.map D.u8 v24) false) :: nn 113 ([]))⟩) ?_ ?_
    · intro k25 h
      conv => whnf
      revert h; refine sel_if ?_ ?_ <;> intro h
      · conv => whnf
        refine ⟨v13.length, by first | exact List.length_map _ | rfl | (simp only [List.length_map]; omega), ?_⟩
        conv => whnf
        replace h := bind_inv h; obtain ⟨v26, g27, h⟩ := h
        refine ⟨_, _, mill_Mod_ok g27, .inl rfl, ?_⟩
        conv => whnf
        refine ⟨_, u8_wrap _, ?_⟩
        conv => whnf
        replace h := bind_inv h; obtain ⟨v28, g29, h⟩ := h
        refine ⟨rfl, geti_b (f := D.u8) g29, ?_⟩
        conv => whnf
        replace h := bind_inv h; obtain ⟨v30, g31, h⟩ := h
        have g31l := seti_len g31
        refine ⟨rfl, rfl, D.u8 v28, (geti_d (f := D.u8) g29), ?_⟩
        conv => whnf
        refine ⟨_, seti_z (f := D.u8) g31, ?_⟩
        conv => whnf
        exact join_end (v := v30) ⟨rfl, And.intro (.refl _) (And.intro (.refl _) (And.intro (.refl _) (And.intro (.refl _) (And.intro (.ownL _ _ _ (by first | rfl | (simp only [List.length_map]; omega))) True.intro)))), And.intro (.inl ⟨_, rfl, id⟩) (True.intro), rfl⟩ h
      · conv => whnf
        exact join_end (v := v13) ⟨rfl, And.intro (.refl _) (And.intro (.refl _) (And.intro (.refl _) (And.intro (.refl _) (And.intro (.refl _) True.intro)))), And.intro (.inl ⟨_, rfl, id⟩) (True.intro), rfl⟩ h
    · rintro v24 h
      conv => whnf
      replace h := bind_inv h; obtain ⟨_, g33, h⟩ := h
      refine ⟨apnd_b0 (g := D.u8) g33, ?_⟩
      conv => whnf
      refine ⟨v13.length, by first | exact List.length_map _ | rfl | (simp only [List.length_map]; omega), ?_⟩
      conv => whnf
      revert h; refine cut_join (fun v90 => ⟨AV.d (D.l 1 D.u8 a0) :: X :: AV.d (D.i a2) :: AV.d (D.i a3) :: dd 6 (AV.d (D.l 1 D.u8 v13) :: X :: AV.own 39 (List.map D.u8 v24).length :: AV.own 52 (List.map D.u8 v90).length :: dd 139 ([])), nn 39 (some (OB.row 5 1 (List.map D.u8 v24) false) :: nn 12 (some (OB.row 5 1 (List.map D.u8 v90) false) :: nn 100 ([])))⟩) ?_ ?_
      · intro k91 h
        conv => whnf
        revert h; refine sel_if ?_ ?_ <;> intro h
        · conv => whnf
          refine ⟨rfl, ?_⟩
          conv => whnf
          refine ⟨rfl, ?_⟩
          conv => whnf
          refine ⟨rfl, ?_⟩
          conv => whnf
          refine ⟨rfl, ?_⟩
          conv => whnf
          refine ⟨rfl, ?_⟩
          conv => whnf
          refine ⟨rfl, ?_⟩
          conv => whnf
          refine ⟨rfl, ?_⟩
          conv => whnf
          replace h := bind_inv h; obtain ⟨v92, g93, h⟩ := h
          refine ⟨_, _, mill_Mod_ok g93, .inl rfl, ?_⟩
          conv => whnf
          replace h := bind_inv h; obtain ⟨v94, g95, h⟩ := h
          refine ⟨rfl, geti_b (f := (D.l 1 D.u8)) g95, ?_⟩
          conv => whnf
          refine ⟨rfl, (D.l 1 D.u8) v94, (geti_d (f := (D.l 1 D.u8)) g95), ?_⟩
          conv => whnf
          replace h := bind_inv h; obtain ⟨v96, g97, h⟩ := h
          refine ⟨_, _, mill_Mod_ok g97, .inl rfl, ?_⟩
          conv => whnf
          revert h; refine cut_join (fun v122 => ⟨AV.d (D.l 1 D.u8 a0) :: X :: AV.d (D.i a2) :: AV.d (D.i a3) :: dd 6 (AV.d (D.l 1 D.u8 v13) :: X :: AV.own 39 (List.map D.u8 v24).length :: AV.own 52 (List.map D.u8 v122).length :: dd 139 ([])), nn 39 (some (OB.row 5 1 (List.map D.u8 v24) false) :: nn 12 (some (OB.row 5 1 (List.map D.u8 v122) false) :: nn 100 ([])))⟩) ?_ ?_
          · intro k123 h
            conv => whnf
            revert h; refine sel_if ?_ ?_ <;> intro h
            · conv => whnf
              replace h := bind_inv h; obtain ⟨v124, g125, h⟩ := h
              refine ⟨rfl, apnd_b (f := D.u8) (g := D.u8) g125, _, apnd_z (f := D.u8) g125, ?_⟩
              conv => whnf
              replace h := bind_inv h; obtain ⟨v126, g127, h⟩ := h
              refine ⟨rfl, geti_b (f := D.u8) g127, ?_⟩
              conv => whnf
              refine ⟨rfl, D.u8 v126, (geti_d (f := D.u8) g127), ?_⟩
              conv => whnf
              refine ⟨v94.length, List.length_map _, ?_⟩
              conv => whnf
              refine ⟨_, u8_wrap _, ?_⟩
              conv => whnf
              refine ⟨_, u8_wrap _, ?_⟩
              conv => whnf
              replace h := bind_inv h; obtain ⟨v128, g129, h⟩ := h
              refine ⟨rfl, geti_b (f := D.u8) g129, ?_⟩
              conv => whnf
              replace h := bind_inv h; obtain ⟨v130, g131, h⟩ := h
              have g131l := seti_len g131
              refine ⟨rfl, rfl, D.u8 v128, (geti_d (f := D.u8) g129), ?_⟩
              conv => whnf
              refine ⟨_, seti_z (f := D.u8) g131, ?_⟩
              conv => whnf
              replace h := bind_inv h; obtain ⟨v132, g133, h⟩ := h
              refine ⟨(by first | rfl | (simp only [List.length_map]; omega)), geti_b (f := D.u8) g133, ?_⟩
              conv => whnf
              refine ⟨(by first | rfl | (simp only [List.length_map]; omega)), D.u8 v132, (geti_d (f := D.u8) g133), ?_⟩
              conv => whnf
              refine ⟨v94.length, List.length_map _, ?_⟩
              conv => whnf
              refine ⟨_, u8_wrap _, ?_⟩
              conv => whnf
              refine ⟨_, u8_wrap _, ?_⟩
              conv => whnf
              replace h := bind_inv h; obtain ⟨v134, g135, h⟩ := h
              refine ⟨(by first | rfl | (simp only [List.length_map]; omega)), geti_b (f := D.u8) g135, ?_⟩
              conv => whnf
              replace h := bind_inv h; obtain ⟨v136, g137, h⟩ := h
              have g137l := seti_len g137
              refine ⟨(by first | rfl | (simp only [List.length_map]; omega)), rfl, D.u8 v134, (geti_d (f := D.u8) g135), ?_⟩
              conv => whnf
              refine ⟨_, seti_z (f := D.u8) g137, ?_⟩
              conv => whnf
              exact join_end (v := v136) ⟨rfl, And.intro (.refl _) (And.intro (.refl _) (And.intro (.refl _) (And.intro (.refl _) (And.intro (.refl _) (And.intro (.ownL _ _ _ (by first | rfl | (simp only [List.length_map]; omega))) True.intro))))), And.intro (.inl ⟨_, rfl, id⟩) (And.intro (.inl ⟨_, rfl, id⟩) (True.intro)), rfl⟩ h
            · conv => whnf
              refine ⟨v94.length, List.length_map _, ?_⟩
              conv => whnf
              refine ⟨_, u8_wrap _, ?_⟩
              conv => whnf
              refine ⟨rfl, ?_⟩
              conv => whnf
              replace h := bind_inv h; obtain ⟨v138, g139, h⟩ := h
              refine ⟨rfl, apnd_b (f := D.u8) (g := D.u8) g139, _, apnd_z (f := D.u8) g139, ?_⟩
              conv => whnf
              replace h := bind_inv h; obtain ⟨v140, g141, h⟩ := h
              refine ⟨rfl, apnd_b (f := D.u8) (g := D.u8) g141, _, apnd_z (f := D.u8) g141, ?_⟩
              conv => whnf
              replace h := bind_inv h; obtain ⟨v142, g143, h⟩ := h
              refine ⟨rfl, geti_b (f := D.u8) g143, ?_⟩
              conv => whnf
              refine ⟨rfl, D.u8 v142, (geti_d (f := D.u8) g143), ?_⟩
              conv => whnf
              refine ⟨v94.length, List.length_map _, ?_⟩
              conv => whnf
              refine ⟨_, rfl, ?_⟩
              conv => whnf
              refine ⟨_, u8_wrap _, ?_⟩
              conv => whnf
              refine ⟨_, u8_wrap _, ?_⟩
              conv => whnf
              replace h := bind_inv h; obtain ⟨v144, g145, h⟩ := h
              refine ⟨rfl, geti_b (f := D.u8) g145, ?_⟩
              conv => whnf
              replace h := bind_inv h; obtain ⟨v146, g147, h⟩ := h
              have g147l := seti_len g147
              refine ⟨rfl, rfl, D.u8 v144, (geti_d (f := D.u8) g145), ?_⟩
              conv => whnf
              refine ⟨_, seti_z (f := D.u8) g147, ?_⟩
              conv => whnf
              exact join_end (v := v146) ⟨rfl, And.intro (.refl _) (And.intro (.refl _) (And.intro (.refl _) (And.intro (.refl _) (And.intro (.refl _) (And.intro (.ownL _ _ _ (by first | rfl | (simp only [List.length_map]; omega))) True.intro))))), And.intro (.inl ⟨_, rfl, id⟩) (And.intro (.inl ⟨_, rfl, id⟩) (True.intro)), rfl⟩ h
          · rintro v122 h
            conv => whnf
            exact join_end (v := v122) ⟨rfl, And.intro (.refl _) (And.intro (.refl _) (And.intro (.refl _) (And.intro (.refl _) (And.intro (.refl _) (And.intro (.refl _) True.intro))))), And.intro (.inl ⟨_, rfl, id⟩) (And.intro (.inl ⟨_, rfl, id⟩) (True.intro)), rfl⟩ h
        · conv => whnf
          exact join_end (v := v13) ⟨rfl, And.intro (.refl _) (And.intro (.refl _) (And.intro (.refl _) (And.intro (.refl _) (And.intro (.refl _) (And.intro (.refl _) True.intro))))), And.intro (.inl ⟨_, rfl, id⟩) (And.intro (.inl ⟨_, rfl, id⟩) (True.intro)), rfl⟩ h
      · rintro v90 h
        conv => whnf
        refine ⟨v13.length, List.length_map _, ?_⟩
        conv => whnf
        refine ⟨_, rfl, ?_⟩
        conv => whnf
        replace h := bind_inv h; obtain ⟨v148, g149, h⟩ := h
        refine ⟨_, _, mill_Mod_ok g149, .inl rfl, ?_⟩
        conv => whnf
        replace h := bind_inv h; obtain ⟨v150, g151, h⟩ := h
        refine ⟨part_b (f := D.u8) g151, _, part_z (f := D.u8) g151, ?_⟩
        conv => whnf
        refine ⟨_, u8_wrap _, ?_⟩
        conv => whnf
        refine ⟨_, u8_wrap _, ?_⟩
        conv => whnf
        refine ⟨_, u8_wrap _, ?_⟩
        conv => whnf
        refine ⟨rfl, ?_⟩
        conv => whnf
        refine ⟨rfl, ?_⟩
        conv => whnf
        refine ⟨rfl, ?_⟩
        conv => whnf
        refine ⟨([a0, v13, v24, v90, v150, ([(4 : UInt8), (toU8 a2), (toU8 a3), (0 : UInt8), (90 : UInt8), (0 : UInt8), (0 : UInt8), (0 : UInt8), (toU8 a2), (0 : UInt8)] : List UInt8)] : List (List UInt8)).length, by first | exact List.length_map _ | rfl | (simp only [List.length_map]; omega), ?_⟩
        conv => whnf
        revert h; refine cut_join (fun _ => ⟨dd 153 ([]), nn 153 ([])⟩) ?_ ?_
        · intro k191 h
          conv => whnf
          revert h; refine loop_own 127 30 1 false (D.l 1 D.u8) rfl (fun i210 _ => ⟨dd 127 (AV.own 127 (List.map (D.l 1 D.u8) ([a0, v13, v24, v90, v150, ([(4 : UInt8), (toU8 a2), (toU8 a3), (0 : UInt8), (90 : UInt8), (0 : UInt8), (0 : UInt8), (0 : UInt8), (toU8 a2), (0 : UInt8)] : List UInt8)] : List (List UInt8))).length :: AV.d (D.i (([a0, v13, v24, v90, v150, ([(4 : UInt8), (toU8 a2), (toU8 a3), (0 : UInt8), (90 : UInt8), (0 : UInt8), (0 : UInt8), (0 : UInt8), (toU8 a2), (0 : UInt8)] : List UInt8)] : List (List UInt8)).length : Int)) :: AV.d (D.i (i210 : Int)) :: dd 23 ([])), nn 127 (some (OB.row 30 1 (List.map (D.l 1 D.u8) ([a0, v13, v24, v90, v150, ([(4 : UInt8), (toU8 a2), (toU8 a3), (0 : UInt8), (90 : UInt8), (0 : UInt8), (0 : UInt8), (0 : UInt8), (toU8 a2), (0 : UInt8)] : List UInt8)] : List (List UInt8))) false) :: nn 25 ([]))⟩) ⟨rfl, And.intro (.refl _) (And.intro (.refl _) (And.intro (.refl _) True.intro)), And.intro (.inl ⟨_, rfl, id⟩) (True.intro), rfl⟩ ?_ ?_
          · rintro _ K212 h
            conv => whnf
            refine .go ?_
            conv => whnf
            exact join_end (v := ()) ⟨rfl, True.intro, True.intro, rfl⟩ h
          · rintro next214 i210 x211 _ K212 hii210 hxi210 hwi210 h hK213
            conv => whnf
            refine .go ?_
            conv => whnf
            refine sel_t (lt_t hii210) ?_
            conv => whnf
            refine .go ?_
            conv => whnf
            refine ⟨rfl, idx_b (f := (D.l 1 D.u8)) hii210, ?_⟩
            conv => whnf
            refine ⟨rfl, (D.l 1 D.u8) x211, hxi210, ?_⟩
            conv => whnf
            replace h := bind_inv h; obtain ⟨⟨v223, v224⟩, g225, h⟩ := h
            refine ⟨_, _, session_Decode_ok g225, .inl rfl, ?_⟩
            conv => whnf
            replace h := bind_inv h; obtain ⟨⟨v226, v227⟩, g228, h⟩ := h
            refine ⟨_, _, ref32_Decode_ok g228, .inl rfl, ?_⟩
            conv => whnf
            revert h; refine cut_join (fun v229 => ⟨dd 127 (AV.own 127 (List.map (D.l 1 D.u8) ([a0, v13, v24, v90, v150, ([(4 : UInt8), (toU8 a2), (toU8 a3), (0 : UInt8), (90 : UInt8), (0 : UInt8), (0 : UInt8), (0 : UInt8), (toU8 a2), (0 : UInt8)] : List UInt8)] : List (List UInt8))).length :: AV.d (D.i (([a0, v13, v24, v90, v150, ([(4 : UInt8), (toU8 a2), (toU8 a3), (0 : UInt8), (90 : UInt8), (0 : UInt8), (0 : UInt8), (0 : UInt8), (toU8 a2), (0 : UInt8)] : List UInt8)] : List (List UInt8)).length : Int)) :: AV.d (D.i (i210 : Int)) :: dd 20 (AV.d (D.b v229) :: X :: X :: [])), nn 127 (some (OB.row 30 1 (List.map (D.l 1 D.u8) ([a0, v13, v24, v90, v150, ([(4 : UInt8), (toU8 a2), (toU8 a3), (0 : UInt8), (90 : UInt8), (0 : UInt8), (0 : UInt8), (0 : UInt8), (toU8 a2), (0 : UInt8)] : List UInt8)] : List (List UInt8))) false) :: nn 25 ([]))⟩) ?_ ?_
            · intro k230 h
              conv => whnf
              revert h; refine sel_if ?_ ?_ <;> intro h
              · conv => whnf
                exact join_end (v := true) ⟨rfl, And.intro (.refl _) (And.intro (.refl _) (And.intro (.refl _) (And.intro (.refl _) True.intro))), And.intro (.inl ⟨_, rfl, id⟩) (True.intro), rfl⟩ h
              · conv => whnf
                exact join_end (v := (v224 != v227)) ⟨rfl, And.intro (.refl _) (And.intro (.refl _) (And.intro (.refl _) (And.intro (.refl _) True.intro))), And.intro (.inl ⟨_, rfl, id⟩) (True.intro), rfl⟩ h
            · rintro v229 h
              conv => whnf
              refine .go ?_
              conv => whnf
              revert h; refine sel_if ?_ ?_ <;> intro h
              · conv => whnf
                cases h
                exact ⟨rfl, rfl⟩
              · conv => whnf
                refine ⟨_, hwi210, ?_⟩
                conv => whnf
                exact hK213 _ () ⟨rfl, And.intro (.refl _) (And.intro (.refl _) (And.intro (.refl _) True.intro)), And.intro (.inl ⟨_, rfl, id⟩) (True.intro), rfl⟩ h
        · rintro _ h
          conv => whnf
          replace h := bind_inv h; obtain ⟨v231, g232, h⟩ := h
          refine ⟨_, _, law32_awake_ok g232, .inl rfl, ?_⟩
          conv => whnf
          cases h
          exact ⟨rfl, rfl⟩

theorem law32_SessionBack_ok {a0 : List Int} {a1 : Int} {r : Bool} (h : law32_SessionBack a0 a1 = some r) : CallsOK Try.prog 5 [AV.d (D.l 1 D.i a0), AV.d (D.i a1)] [] (.d (D.b r)) [] := by
  refine ok Try.f5 (by kernel_rfl) (by kernel_rfl) ⟨rfl, ?_⟩
  unfold law32_SessionBack at h
  conv => whnf
  replace h := bind_inv h; obtain ⟨v1, g2, h⟩ := h
  refine ⟨_, _, mill_New_ok g2, .inr rfl, ?_⟩
  conv => whnf
  replace h := bind_inv h; obtain ⟨v3, g4, h⟩ := h
  refine ⟨_, _, mill_Mod_ok g4, .inl rfl, ?_⟩
  conv => whnf
  refine ⟨_, rfl, ?_⟩
  conv => whnf
  replace h := bind_inv h; obtain ⟨⟨v5, v6⟩, g7, h⟩ := h
  refine ⟨_, _, mill_Deck_Open_ok g7, .inl rfl, ?_⟩
  conv => whnf
  replace h := bind_inv h; obtain ⟨⟨v8, v9⟩, g10, h⟩ := h
  refine ⟨_, _, session_Encode_ok g10, .inl rfl, ?_⟩
  conv => whnf
  replace h := bind_inv h; obtain ⟨⟨v11, v12⟩, g13, h⟩ := h
  refine ⟨_, _, session_Decode_ok g13, .inl rfl, ?_⟩
  conv => whnf
  revert h; refine cut_join (fun v16 => ⟨dd 4 (AV.d (D.b v16) :: dd 40 ([])), nn 45 ([])⟩) ?_ ?_
  · intro k17 h
    conv => whnf
    revert h; refine sel_if ?_ ?_ <;> intro h
    · conv => whnf
      revert h; refine sel_if ?_ ?_ <;> intro h
      · conv => whnf
        revert h; refine sel_if ?_ ?_ <;> intro h
        · conv => whnf
          refine ⟨v8.length, List.length_map _, ?_⟩
          conv => whnf
          revert h; refine sel_if ?_ ?_ <;> intro h
          · conv => whnf
            replace h := bind_inv h; obtain ⟨v18, g19, h⟩ := h
            refine ⟨_, _, law32_awake_ok g19, .inl rfl, ?_⟩
            conv => whnf
            exact join_end (v := v18) ⟨rfl, And.intro (.refl _) True.intro, True.intro, rfl⟩ h
          · conv => whnf
            exact join_end (v := false) ⟨rfl, And.intro (.refl _) True.intro, True.intro, rfl⟩ h
        · conv => whnf
          exact join_end (v := false) ⟨rfl, And.intro (.refl _) True.intro, True.intro, rfl⟩ h
      · conv => whnf
        exact join_end (v := false) ⟨rfl, And.intro (.refl _) True.intro, True.intro, rfl⟩ h
    · conv => whnf
      exact join_end (v := false) ⟨rfl, And.intro (.refl _) True.intro, True.intro, rfl⟩ h
  · rintro v16 h
    conv => whnf
    cases h
    exact ⟨rfl, rfl⟩

theorem session_tick_ok {a0 : Int} {r : Bool} (h : session_tick a0 = some r) : CallsOK Try.prog 43 [AV.d (D.i a0)] [] (.d (D.b r)) [] := by
  refine ok Try.f43 (by kernel_rfl) (by kernel_rfl) ⟨rfl, ?_⟩
  unfold session_tick at h
  conv => whnf
  revert h; refine cut_join (fun v1 => ⟨X :: X :: AV.d (D.b v1) :: dd 6 ([]), nn 9 ([])⟩) ?_ ?_
  · intro k2 h
    conv => whnf
    revert h; refine sel_if ?_ ?_ <;> intro h
    · conv => whnf
      exact join_end (v := (decide (a0 ≤ 1073741824))) ⟨rfl, And.intro (.refl _) True.intro, True.intro, rfl⟩ h
    · conv => whnf
      exact join_end (v := false) ⟨rfl, And.intro (.refl _) True.intro, True.intro, rfl⟩ h
  · rintro v1 h
    conv => whnf
    cases h
    exact ⟨rfl, rfl⟩

theorem session_Start_ok {a0 : Session} {a1 : Int} {r : Session × (List Message) × Int} (h : session_Start a0 a1 = some r) : CallsOK Try.prog 24 [AV.d (Session.toD a0), AV.d (D.i a1)] [] (.tup [.d (Session.toD r.1), .d (D.l 2 Message.toD r.2.1), .d (D.i r.2.2)]) [] := by
  refine ok Try.f24 (by kernel_rfl) (by kernel_rfl) ⟨rfl, ?_⟩
  unfold session_Start at h
  conv => whnf
  replace h := bind_inv h; obtain ⟨⟨v1, v2⟩, g3, h⟩ := h
  refine ⟨_, _, session_Encode_ok g3, .inl rfl, ?_⟩
  conv => whnf
  revert h; refine cut_join (fun v6 => ⟨X :: AV.d (D.i a1) :: AV.ref 2 0 :: X :: AV.ref 4 0 :: X :: X :: AV.d (D.l 1 D.u8 v1) :: dd 23 (AV.d (D.b v6) :: dd 16 ([])), N :: N :: some (OB.box [AV.d (D.i a0.State), AV.d (D.i a0.Mine.ASN), AV.d (D.i a0.Mine.ID), AV.d (D.i a0.Mine.Hold), AV.d (D.i a0.Mine.Role), AV.d (D.i a0.Mine.Grace), AV.d (D.b a0.Mine.Again), AV.d (D.i a0.ASN), AV.d (D.i a0.Theirs.ASN), AV.d (D.i a0.Theirs.ID), AV.d (D.i a0.Theirs.Hold), AV.d (D.i a0.Theirs.Role), AV.d (D.i a0.Theirs.Grace), AV.d (D.b a0.Theirs.Again), AV.d (D.i a0.Sent), AV.d (D.i a0.Heard)]) :: N :: some (OB.box [AV.d (D.i 0), AV.d (D.i 0), AV.d (D.i 0), AV.d (D.i 0), AV.d (D.i 0), AV.d (D.i 0), AV.d (D.b false), AV.d (D.i 0), AV.d (D.i 0), AV.d (D.i 0), AV.d (D.i 0), AV.d (D.i 0), AV.d (D.i 0), AV.d (D.b false), AV.d (D.i 0), AV.d (D.i 0)]) :: nn 43 ([])⟩) ?_ ?_
  · intro k7 h
    conv => whnf
    revert h; refine sel_if ?_ ?_ <;> intro h
    · conv => whnf
      exact join_end (v := true) ⟨rfl, And.intro (.refl _) (And.intro (.refl _) (And.intro (.refl _) (And.intro (.refl _) (And.intro (.refl _) True.intro)))), And.intro ⟨_, rfl, And.intro ⟨rfl, .refl _⟩ (And.intro ⟨rfl, .refl _⟩ (And.intro ⟨rfl, .refl _⟩ (And.intro ⟨rfl, .refl _⟩ (And.intro ⟨rfl, .refl _⟩ (And.intro ⟨rfl, .refl _⟩ (And.intro ⟨rfl, .refl _⟩ (And.intro ⟨rfl, .refl _⟩ (And.intro ⟨rfl, .refl _⟩ (And.intro ⟨rfl, .refl _⟩ (And.intro ⟨rfl, .refl _⟩ (And.intro ⟨rfl, .refl _⟩ (And.intro ⟨rfl, .refl _⟩ (And.intro ⟨rfl, .refl _⟩ (And.intro ⟨rfl, .refl _⟩ (And.intro ⟨rfl, .refl _⟩ (True.intro))))))))))))))))⟩ (And.intro ⟨_, rfl, And.intro ⟨rfl, .refl _⟩ (And.intro ⟨rfl, .refl _⟩ (And.intro ⟨rfl, .refl _⟩ (And.intro ⟨rfl, .refl _⟩ (And.intro ⟨rfl, .refl _⟩ (And.intro ⟨rfl, .refl _⟩ (And.intro ⟨rfl, .refl _⟩ (And.intro ⟨rfl, .refl _⟩ (And.intro ⟨rfl, .refl _⟩ (And.intro ⟨rfl, .refl _⟩ (And.intro ⟨rfl, .refl _⟩ (And.intro ⟨rfl, .refl _⟩ (And.intro ⟨rfl, .refl _⟩ (And.intro ⟨rfl, .refl _⟩ (And.intro ⟨rfl, .refl _⟩ (And.intro ⟨rfl, .refl _⟩ (True.intro))))))))))))))))⟩ (True.intro)), rfl⟩ h
    · conv => whnf
      revert h; refine sel_if ?_ ?_ <;> intro h
      · conv => whnf
        exact join_end (v := true) ⟨rfl, And.intro (.refl _) (And.intro (.refl _) (And.intro (.refl _) (And.intro (.refl _) (And.intro (.refl _) True.intro)))), And.intro ⟨_, rfl, And.intro ⟨rfl, .refl _⟩ (And.intro ⟨rfl, .refl _⟩ (And.intro ⟨rfl, .refl _⟩ (And.intro ⟨rfl, .refl _⟩ (And.intro ⟨rfl, .refl _⟩ (And.intro ⟨rfl, .refl _⟩ (And.intro ⟨rfl, .refl _⟩ (And.intro ⟨rfl, .refl _⟩ (And.intro ⟨rfl, .refl _⟩ (And.intro ⟨rfl, .refl _⟩ (And.intro ⟨rfl, .refl _⟩ (And.intro ⟨rfl, .refl _⟩ (And.intro ⟨rfl, .refl _⟩ (And.intro ⟨rfl, .refl _⟩ (And.intro ⟨rfl, .refl _⟩ (And.intro ⟨rfl, .refl _⟩ (True.intro))))))))))))))))⟩ (And.intro ⟨_, rfl, And.intro ⟨rfl, .refl _⟩ (And.intro ⟨rfl, .refl _⟩ (And.intro ⟨rfl, .refl _⟩ (And.intro ⟨rfl, .refl _⟩ (And.intro ⟨rfl, .refl _⟩ (And.intro ⟨rfl, .refl _⟩ (And.intro ⟨rfl, .refl _⟩ (And.intro ⟨rfl, .refl _⟩ (And.intro ⟨rfl, .refl _⟩ (And.intro ⟨rfl, .refl _⟩ (And.intro ⟨rfl, .refl _⟩ (And.intro ⟨rfl, .refl _⟩ (And.intro ⟨rfl, .refl _⟩ (And.intro ⟨rfl, .refl _⟩ (And.intro ⟨rfl, .refl _⟩ (And.intro ⟨rfl, .refl _⟩ (True.intro))))))))))))))))⟩ (True.intro)), rfl⟩ h
      · conv => whnf
        revert h; refine sel_if ?_ ?_ <;> intro h
        · conv => whnf
          exact join_end (v := true) ⟨rfl, And.intro (.refl _) (And.intro (.refl _) (And.intro (.refl _) (And.intro (.refl _) (And.intro (.refl _) True.intro)))), And.intro ⟨_, rfl, And.intro ⟨rfl, .refl _⟩ (And.intro ⟨rfl, .refl _⟩ (And.intro ⟨rfl, .refl _⟩ (And.intro ⟨rfl, .refl _⟩ (And.intro ⟨rfl, .refl _⟩ (And.intro ⟨rfl, .refl _⟩ (And.intro ⟨rfl, .refl _⟩ (And.intro ⟨rfl, .refl _⟩ (And.intro ⟨rfl, .refl _⟩ (And.intro ⟨rfl, .refl _⟩ (And.intro ⟨rfl, .refl _⟩ (And.intro ⟨rfl, .refl _⟩ (And.intro ⟨rfl, .refl _⟩ (And.intro ⟨rfl, .refl _⟩ (And.intro ⟨rfl, .refl _⟩ (And.intro ⟨rfl, .refl _⟩ (True.intro))))))))))))))))⟩ (And.intro ⟨_, rfl, And.intro ⟨rfl, .refl _⟩ (And.intro ⟨rfl, .refl _⟩ (And.intro ⟨rfl, .refl _⟩ (And.intro ⟨rfl, .refl _⟩ (And.intro ⟨rfl, .refl _⟩ (And.intro ⟨rfl, .refl _⟩ (And.intro ⟨rfl, .refl _⟩ (And.intro ⟨rfl, .refl _⟩ (And.intro ⟨rfl, .refl _⟩ (And.intro ⟨rfl, .refl _⟩ (And.intro ⟨rfl, .refl _⟩ (And.intro ⟨rfl, .refl _⟩ (And.intro ⟨rfl, .refl _⟩ (And.intro ⟨rfl, .refl _⟩ (And.intro ⟨rfl, .refl _⟩ (And.intro ⟨rfl, .refl _⟩ (True.intro))))))))))))))))⟩ (True.intro)), rfl⟩ h
        · conv => whnf
          replace h := bind_inv h; obtain ⟨v8, g9, h⟩ := h
          refine ⟨_, _, session_tick_ok g9, .inl rfl, ?_⟩
          conv => whnf
          exact join_end (v := (!v8)) ⟨rfl, And.intro (.refl _) (And.intro (.refl _) (And.intro (.refl _) (And.intro (.refl _) (And.intro (.refl _) True.intro)))), And.intro ⟨_, rfl, And.intro ⟨rfl, .refl _⟩ (And.intro ⟨rfl, .refl _⟩ (And.intro ⟨rfl, .refl _⟩ (And.intro ⟨rfl, .refl _⟩ (And.intro ⟨rfl, .refl _⟩ (And.intro ⟨rfl, .refl _⟩ (And.intro ⟨rfl, .refl _⟩ (And.intro ⟨rfl, .refl _⟩ (And.intro ⟨rfl, .refl _⟩ (And.intro ⟨rfl, .refl _⟩ (And.intro ⟨rfl, .refl _⟩ (And.intro ⟨rfl, .refl _⟩ (And.intro ⟨rfl, .refl _⟩ (And.intro ⟨rfl, .refl _⟩ (And.intro ⟨rfl, .refl _⟩ (And.intro ⟨rfl, .refl _⟩ (True.intro))))))))))))))))⟩ (And.intro ⟨_, rfl, And.intro ⟨rfl, .refl _⟩ (And.intro ⟨rfl, .refl _⟩ (And.intro ⟨rfl, .refl _⟩ (And.intro ⟨rfl, .refl _⟩ (And.intro ⟨rfl, .refl _⟩ (And.intro ⟨rfl, .refl _⟩ (And.intro ⟨rfl, .refl _⟩ (And.intro ⟨rfl, .refl _⟩ (And.intro ⟨rfl, .refl _⟩ (And.intro ⟨rfl, .refl _⟩ (And.intro ⟨rfl, .refl _⟩ (And.intro ⟨rfl, .refl _⟩ (And.intro ⟨rfl, .refl _⟩ (And.intro ⟨rfl, .refl _⟩ (And.intro ⟨rfl, .refl _⟩ (And.intro ⟨rfl, .refl _⟩ (True.intro))))))))))))))))⟩ (True.intro)), rfl⟩ h
  · rintro v6 h
    conv => whnf
    refine .go ?_
    conv => whnf
    revert h; refine sel_if ?_ ?_ <;> intro h
    · conv => whnf
      refine ⟨rfl, ?_⟩
      conv => whnf
      cases h
      exact ⟨rfl, rfl⟩
    · conv => whnf
      refine .go ?_
      conv => whnf
      revert h; refine sel_if ?_ ?_ <;> intro h
      · conv => whnf
        refine ⟨rfl, ?_⟩
        conv => whnf
        cases h
        exact ⟨rfl, rfl⟩
      · conv => whnf
        refine ⟨rfl, ?_⟩
        conv => whnf
        cases h
        exact ⟨rfl, rfl⟩

theorem ref32_Start_ok {a0 : Session} {a1 : Int} {r : Session × (List Message) × Int} (h : ref32_Start a0 a1 = some r) : CallsOK Try.prog 25 [AV.d (Session.toD a0), AV.d (D.i a1)] [] (.tup [.d (Session.toD r.1), .d (D.l 2 Message.toD r.2.1), .d (D.i r.2.2)]) [] := by
  refine ok Try.f25 (by kernel_rfl) (by kernel_rfl) ⟨rfl, ?_⟩
  unfold ref32_Start at h
  conv => whnf
  revert h; refine cut_join (fun v3 => ⟨X :: AV.d (D.i a1) :: AV.ref 2 0 :: X :: AV.ref 4 0 :: dd 26 (AV.d (D.b v3) :: dd 22 ([])), N :: N :: some (OB.box [AV.d (D.i a0.State), AV.d (D.i a0.Mine.ASN), AV.d (D.i a0.Mine.ID), AV.d (D.i a0.Mine.Hold), AV.d (D.i a0.Mine.Role), AV.d (D.i a0.Mine.Grace), AV.d (D.b a0.Mine.Again), AV.d (D.i a0.ASN), AV.d (D.i a0.Theirs.ASN), AV.d (D.i a0.Theirs.ID), AV.d (D.i a0.Theirs.Hold), AV.d (D.i a0.Theirs.Role), AV.d (D.i a0.Theirs.Grace), AV.d (D.b a0.Theirs.Again), AV.d (D.i a0.Sent), AV.d (D.i a0.Heard)]) :: N :: some (OB.box [AV.d (D.i 0), AV.d (D.i 0), AV.d (D.i 0), AV.d (D.i 0), AV.d (D.i 0), AV.d (D.i 0), AV.d (D.b false), AV.d (D.i 0), AV.d (D.i 0), AV.d (D.i 0), AV.d (D.i 0), AV.d (D.i 0), AV.d (D.i 0), AV.d (D.b false), AV.d (D.i 0), AV.d (D.i 0)]) :: nn 49 ([])⟩) ?_ ?_
  · intro k4 h
    conv => whnf
    replace h := bind_inv h; obtain ⟨v5, g6, h⟩ := h
    refine ⟨_, _, ref32_Valid_ok g6, .inl rfl, ?_⟩
    conv => whnf
    revert h; refine sel_if ?_ ?_ <;> intro h
    · conv => whnf
      exact join_end (v := true) ⟨rfl, And.intro (.refl _) (And.intro (.refl _) (And.intro (.refl _) (And.intro (.refl _) True.intro))), And.intro ⟨_, rfl, And.intro ⟨rfl, .refl _⟩ (And.intro ⟨rfl, .refl _⟩ (And.intro ⟨rfl, .refl _⟩ (And.intro ⟨rfl, .refl _⟩ (And.intro ⟨rfl, .refl _⟩ (And.intro ⟨rfl, .refl _⟩ (And.intro ⟨rfl, .refl _⟩ (And.intro ⟨rfl, .refl _⟩ (And.intro ⟨rfl, .refl _⟩ (And.intro ⟨rfl, .refl _⟩ (And.intro ⟨rfl, .refl _⟩ (And.intro ⟨rfl, .refl _⟩ (And.intro ⟨rfl, .refl _⟩ (And.intro ⟨rfl, .refl _⟩ (And.intro ⟨rfl, .refl _⟩ (And.intro ⟨rfl, .refl _⟩ (True.intro))))))))))))))))⟩ (And.intro ⟨_, rfl, And.intro ⟨rfl, .refl _⟩ (And.intro ⟨rfl, .refl _⟩ (And.intro ⟨rfl, .refl _⟩ (And.intro ⟨rfl, .refl _⟩ (And.intro ⟨rfl, .refl _⟩ (And.intro ⟨rfl, .refl _⟩ (And.intro ⟨rfl, .refl _⟩ (And.intro ⟨rfl, .refl _⟩ (And.intro ⟨rfl, .refl _⟩ (And.intro ⟨rfl, .refl _⟩ (And.intro ⟨rfl, .refl _⟩ (And.intro ⟨rfl, .refl _⟩ (And.intro ⟨rfl, .refl _⟩ (And.intro ⟨rfl, .refl _⟩ (And.intro ⟨rfl, .refl _⟩ (And.intro ⟨rfl, .refl _⟩ (True.intro))))))))))))))))⟩ (True.intro)), rfl⟩ h
    · conv => whnf
      revert h; refine sel_if ?_ ?_ <;> intro h
      · conv => whnf
        exact join_end (v := true) ⟨rfl, And.intro (.refl _) (And.intro (.refl _) (And.intro (.refl _) (And.intro (.refl _) True.intro))), And.intro ⟨_, rfl, And.intro ⟨rfl, .refl _⟩ (And.intro ⟨rfl, .refl _⟩ (And.intro ⟨rfl, .refl _⟩ (And.intro ⟨rfl, .refl _⟩ (And.intro ⟨rfl, .refl _⟩ (And.intro ⟨rfl, .refl _⟩ (And.intro ⟨rfl, .refl _⟩ (And.intro ⟨rfl, .refl _⟩ (And.intro ⟨rfl, .refl _⟩ (And.intro ⟨rfl, .refl _⟩ (And.intro ⟨rfl, .refl _⟩ (And.intro ⟨rfl, .refl _⟩ (And.intro ⟨rfl, .refl _⟩ (And.intro ⟨rfl, .refl _⟩ (And.intro ⟨rfl, .refl _⟩ (And.intro ⟨rfl, .refl _⟩ (True.intro))))))))))))))))⟩ (And.intro ⟨_, rfl, And.intro ⟨rfl, .refl _⟩ (And.intro ⟨rfl, .refl _⟩ (And.intro ⟨rfl, .refl _⟩ (And.intro ⟨rfl, .refl _⟩ (And.intro ⟨rfl, .refl _⟩ (And.intro ⟨rfl, .refl _⟩ (And.intro ⟨rfl, .refl _⟩ (And.intro ⟨rfl, .refl _⟩ (And.intro ⟨rfl, .refl _⟩ (And.intro ⟨rfl, .refl _⟩ (And.intro ⟨rfl, .refl _⟩ (And.intro ⟨rfl, .refl _⟩ (And.intro ⟨rfl, .refl _⟩ (And.intro ⟨rfl, .refl _⟩ (And.intro ⟨rfl, .refl _⟩ (And.intro ⟨rfl, .refl _⟩ (True.intro))))))))))))))))⟩ (True.intro)), rfl⟩ h
      · conv => whnf
        revert h; refine sel_if ?_ ?_ <;> intro h
        · conv => whnf
          exact join_end (v := true) ⟨rfl, And.intro (.refl _) (And.intro (.refl _) (And.intro (.refl _) (And.intro (.refl _) True.intro))), And.intro ⟨_, rfl, And.intro ⟨rfl, .refl _⟩ (And.intro ⟨rfl, .refl _⟩ (And.intro ⟨rfl, .refl _⟩ (And.intro ⟨rfl, .refl _⟩ (And.intro ⟨rfl, .refl _⟩ (And.intro ⟨rfl, .refl _⟩ (And.intro ⟨rfl, .refl _⟩ (And.intro ⟨rfl, .refl _⟩ (And.intro ⟨rfl, .refl _⟩ (And.intro ⟨rfl, .refl _⟩ (And.intro ⟨rfl, .refl _⟩ (And.intro ⟨rfl, .refl _⟩ (And.intro ⟨rfl, .refl _⟩ (And.intro ⟨rfl, .refl _⟩ (And.intro ⟨rfl, .refl _⟩ (And.intro ⟨rfl, .refl _⟩ (True.intro))))))))))))))))⟩ (And.intro ⟨_, rfl, And.intro ⟨rfl, .refl _⟩ (And.intro ⟨rfl, .refl _⟩ (And.intro ⟨rfl, .refl _⟩ (And.intro ⟨rfl, .refl _⟩ (And.intro ⟨rfl, .refl _⟩ (And.intro ⟨rfl, .refl _⟩ (And.intro ⟨rfl, .refl _⟩ (And.intro ⟨rfl, .refl _⟩ (And.intro ⟨rfl, .refl _⟩ (And.intro ⟨rfl, .refl _⟩ (And.intro ⟨rfl, .refl _⟩ (And.intro ⟨rfl, .refl _⟩ (And.intro ⟨rfl, .refl _⟩ (And.intro ⟨rfl, .refl _⟩ (And.intro ⟨rfl, .refl _⟩ (And.intro ⟨rfl, .refl _⟩ (True.intro))))))))))))))))⟩ (True.intro)), rfl⟩ h
        · conv => whnf
          revert h; refine sel_if ?_ ?_ <;> intro h
          · conv => whnf
            exact join_end (v := true) ⟨rfl, And.intro (.refl _) (And.intro (.refl _) (And.intro (.refl _) (And.intro (.refl _) True.intro))), And.intro ⟨_, rfl, And.intro ⟨rfl, .refl _⟩ (And.intro ⟨rfl, .refl _⟩ (And.intro ⟨rfl, .refl _⟩ (And.intro ⟨rfl, .refl _⟩ (And.intro ⟨rfl, .refl _⟩ (And.intro ⟨rfl, .refl _⟩ (And.intro ⟨rfl, .refl _⟩ (And.intro ⟨rfl, .refl _⟩ (And.intro ⟨rfl, .refl _⟩ (And.intro ⟨rfl, .refl _⟩ (And.intro ⟨rfl, .refl _⟩ (And.intro ⟨rfl, .refl _⟩ (And.intro ⟨rfl, .refl _⟩ (And.intro ⟨rfl, .refl _⟩ (And.intro ⟨rfl, .refl _⟩ (And.intro ⟨rfl, .refl _⟩ (True.intro))))))))))))))))⟩ (And.intro ⟨_, rfl, And.intro ⟨rfl, .refl _⟩ (And.intro ⟨rfl, .refl _⟩ (And.intro ⟨rfl, .refl _⟩ (And.intro ⟨rfl, .refl _⟩ (And.intro ⟨rfl, .refl _⟩ (And.intro ⟨rfl, .refl _⟩ (And.intro ⟨rfl, .refl _⟩ (And.intro ⟨rfl, .refl _⟩ (And.intro ⟨rfl, .refl _⟩ (And.intro ⟨rfl, .refl _⟩ (And.intro ⟨rfl, .refl _⟩ (And.intro ⟨rfl, .refl _⟩ (And.intro ⟨rfl, .refl _⟩ (And.intro ⟨rfl, .refl _⟩ (And.intro ⟨rfl, .refl _⟩ (And.intro ⟨rfl, .refl _⟩ (True.intro))))))))))))))))⟩ (True.intro)), rfl⟩ h
          · conv => whnf
            exact join_end (v := (decide (a1 > 1073741824))) ⟨rfl, And.intro (.refl _) (And.intro (.refl _) (And.intro (.refl _) (And.intro (.refl _) True.intro))), And.intro ⟨_, rfl, And.intro ⟨rfl, .refl _⟩ (And.intro ⟨rfl, .refl _⟩ (And.intro ⟨rfl, .refl _⟩ (And.intro ⟨rfl, .refl _⟩ (And.intro ⟨rfl, .refl _⟩ (And.intro ⟨rfl, .refl _⟩ (And.intro ⟨rfl, .refl _⟩ (And.intro ⟨rfl, .refl _⟩ (And.intro ⟨rfl, .refl _⟩ (And.intro ⟨rfl, .refl _⟩ (And.intro ⟨rfl, .refl _⟩ (And.intro ⟨rfl, .refl _⟩ (And.intro ⟨rfl, .refl _⟩ (And.intro ⟨rfl, .refl _⟩ (And.intro ⟨rfl, .refl _⟩ (And.intro ⟨rfl, .refl _⟩ (True.intro))))))))))))))))⟩ (And.intro ⟨_, rfl, And.intro ⟨rfl, .refl _⟩ (And.intro ⟨rfl, .refl _⟩ (And.intro ⟨rfl, .refl _⟩ (And.intro ⟨rfl, .refl _⟩ (And.intro ⟨rfl, .refl _⟩ (And.intro ⟨rfl, .refl _⟩ (And.intro ⟨rfl, .refl _⟩ (And.intro ⟨rfl, .refl _⟩ (And.intro ⟨rfl, .refl _⟩ (And.intro ⟨rfl, .refl _⟩ (And.intro ⟨rfl, .refl _⟩ (And.intro ⟨rfl, .refl _⟩ (And.intro ⟨rfl, .refl _⟩ (And.intro ⟨rfl, .refl _⟩ (And.intro ⟨rfl, .refl _⟩ (And.intro ⟨rfl, .refl _⟩ (True.intro))))))))))))))))⟩ (True.intro)), rfl⟩ h
  · rintro v3 h
    conv => whnf
    refine .go ?_
    conv => whnf
    revert h; refine sel_if ?_ ?_ <;> intro h
    · conv => whnf
      refine ⟨rfl, ?_⟩
      conv => whnf
      cases h
      exact ⟨rfl, rfl⟩
    · conv => whnf
      refine .go ?_
      conv => whnf
      revert h; refine sel_if ?_ ?_ <;> intro h
      · conv => whnf
        refine ⟨rfl, ?_⟩
        conv => whnf
        cases h
        exact ⟨rfl, rfl⟩
      · conv => whnf
        replace h := bind_inv h; obtain ⟨⟨v7, v8⟩, g9, h⟩ := h
        refine ⟨_, _, ref32_Encode_ok g9, .inl rfl, ?_⟩
        conv => whnf
        refine ⟨rfl, ?_⟩
        conv => whnf
        cases h
        exact ⟨rfl, rfl⟩

theorem session_ended_ok {a0 : Session} {a1 : Int} {r : Session × (List Message)} (h : session_ended a0 a1 = some r) : CallsOK Try.prog 47 [AV.d (Session.toD a0), AV.d (D.i a1)] [] (.tup [.d (Session.toD r.1), .d (D.l 2 Message.toD r.2)]) [] := by
  refine ok Try.f47 (by kernel_rfl) (by kernel_rfl) ⟨rfl, ?_⟩
  unfold session_ended at h
  conv => whnf
  refine .go ?_
  conv => whnf
  revert h; refine sel_if ?_ ?_ <;> intro h
  · conv => whnf
    cases h
    exact ⟨rfl, rfl⟩
  · conv => whnf
    refine dOB (by kernel_rfl) ?_
    conv => whnf
    replace h := bind_inv h; obtain ⟨v1, g2, h⟩ := h
    refine ⟨_, _, session_Notify_ok g2, .inl rfl, ?_⟩
    conv => whnf
    refine cOB (by kernel_rfl) ?_
    conv => whnf
    refine ⟨rfl, ?_⟩
    conv => whnf
    cases h
    exact ⟨rfl, rfl⟩

theorem session_keepalive_ok  {r : (List Message)} (h : session_keepalive = some r) : CallsOK Try.prog 48 [] [] (.d (D.l 2 Message.toD r)) [] := by
  refine ok Try.f48 (by kernel_rfl) (by kernel_rfl) ⟨rfl, ?_⟩
  unfold session_keepalive at h
  conv => whnf
  refine ⟨rfl, ?_⟩
  conv => whnf
  cases h
  exact ⟨rfl, rfl⟩

theorem role_inverse_ok  {r : A5_Int} (h : role_inverse = some r) : CallsOK Try.prog 56 [] [] (.d (A5_Int.toD r)) [] := by
  refine ok Try.f56 (by kernel_rfl) (by kernel_rfl) ⟨rfl, ?_⟩
  unfold role_inverse at h
  conv => whnf
  cases h
  exact ⟨rfl, rfl⟩

theorem role_known_ok {a0 : Int} {r : Bool} (h : role_known a0 = some r) : CallsOK Try.prog 54 [AV.d (D.i a0)] [] (.d (D.b r)) [] := by
  refine ok Try.f54 (by kernel_rfl) (by kernel_rfl) ⟨rfl, ?_⟩
  unfold role_known at h
  conv => whnf
  revert h; refine cut_join (fun v3 => ⟨X :: X :: AV.d (D.b v3) :: dd 8 ([]), nn 11 ([])⟩) ?_ ?_
  · intro k4 h
    conv => whnf
    revert h; refine sel_if ?_ ?_ <;> intro h
    · conv => whnf
      replace h := bind_inv h; obtain ⟨v5, g6, h⟩ := h
      refine ⟨_, _, role_inverse_ok g6, .inl rfl, ?_⟩
      conv => whnf
      exact join_end (v := (decide (a0 < 5))) ⟨rfl, And.intro (.refl _) True.intro, True.intro, rfl⟩ h
    · conv => whnf
      exact join_end (v := false) ⟨rfl, And.intro (.refl _) True.intro, True.intro, rfl⟩ h
  · rintro v3 h
    conv => whnf
    cases h
    exact ⟨rfl, rfl⟩

theorem role_Inverse_ok {a0 : Int} {r : Int} (h : role_Inverse a0 = some r) : CallsOK Try.prog 55 [AV.d (D.i a0)] [] (.d (D.i r)) [] := by
  refine ok Try.f55 (by kernel_rfl) (by kernel_rfl) ⟨rfl, ?_⟩
  unfold role_Inverse at h
  conv => whnf
  replace h := bind_inv h; obtain ⟨v1, g2, h⟩ := h
  refine ⟨_, _, role_known_ok g2, .inl rfl, ?_⟩
  conv => whnf
  refine .go ?_
  conv => whnf
  revert h; refine sel_if ?_ ?_ <;> intro h
  · conv => whnf
    cases h
    exact ⟨rfl, rfl⟩
  · conv => whnf
    replace h := bind_inv h; obtain ⟨v3, g4, h⟩ := h
    refine ⟨_, _, role_inverse_ok g4, .inl rfl, ?_⟩
    conv => whnf
    replace h := bind_inv h; obtain ⟨v5, g6, h⟩ := h
    refine ⟨geti_b (f := id) g6, .d (D.i v5), geti_a (f := fun x => AV.d (D.i x)) g6, ?_⟩
    conv => whnf
    cases h
    exact ⟨rfl, rfl⟩

theorem role_Fits_ok {a0 : Int} {a1 : Int} {r : Bool} (h : role_Fits a0 a1 = some r) : CallsOK Try.prog 53 [AV.d (D.i a0), AV.d (D.i a1)] [] (.d (D.b r)) [] := by
  refine ok Try.f53 (by kernel_rfl) (by kernel_rfl) ⟨rfl, ?_⟩
  unfold role_Fits at h
  conv => whnf
  revert h; refine cut_join (fun v5 => ⟨dd 4 (AV.d (D.b v5) :: dd 8 ([])), nn 13 ([])⟩) ?_ ?_
  · intro k6 h
    conv => whnf
    replace h := bind_inv h; obtain ⟨v7, g8, h⟩ := h
    refine ⟨_, _, role_known_ok g8, .inl rfl, ?_⟩
    conv => whnf
    revert h; refine sel_if ?_ ?_ <;> intro h
    · conv => whnf
      replace h := bind_inv h; obtain ⟨v9, g10, h⟩ := h
      refine ⟨_, _, role_Inverse_ok g10, .inl rfl, ?_⟩
      conv => whnf
      exact join_end (v := (a1 == v9)) ⟨rfl, And.intro (.refl _) True.intro, True.intro, rfl⟩ h
    · conv => whnf
      exact join_end (v := false) ⟨rfl, And.intro (.refl _) True.intro, True.intro, rfl⟩ h
  · rintro v5 h
    conv => whnf
    cases h
    exact ⟨rfl, rfl⟩
end Go.AX.Q32
