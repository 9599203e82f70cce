/-
  The functions do what their plain forms say (proofs written by a program of mine), part 8.
-/
import Derived.Test.YtoankoojoeaooaaQ23P7
namespace Go.AX.Q23
open Go Go.AX Go.Proofs
set_option maxRecDepth 100000
set_option maxHeartbeats 4000000
set_option linter.unusedVariables false
theorem ref23_Valley_ok {a0 : List Hop} {r : Bool} (h : ref23_Valley a0 = some r) : CallsOK Try.prog 26 [AV.d (D.l 3 Hop.toD a0)] [] (.d (D.b r)) [] := by
  refine ok Try.f26 (by kernel_rfl) (by kernel_rfl) ⟨rfl, ?_⟩
  unfold ref23_Valley at h
  conv => whnf
  revert h; refine cut_join (fun v36 => ⟨AV.d (D.l 3 Hop.toD a0) :: X :: X :: AV.d (D.i v36) :: dd 66 ([]), nn 70 ([])⟩) ?_ ?_
  · intro k37 h
    conv => whnf
    revert h; refine loop_while (fun v59 => ⟨AV.d (D.l 3 Hop.toD a0) :: X :: X :: AV.d (D.i v59) :: dd 66 ([]), nn 70 ([])⟩) ⟨rfl, And.intro (.refl _) (And.intro (.refl _) True.intro), True.intro, rfl⟩ ?_
    rintro next62 v59 K60 h hK61
    conv => whnf
    revert h; refine cut_join (fun v67 => ⟨AV.d (D.l 3 Hop.toD a0) :: X :: X :: AV.d (D.i v59) :: dd 19 (AV.d (D.b v67) :: dd 46 ([])), nn 70 ([])⟩) ?_ ?_
    · intro k68 h
      conv => whnf
      refine ⟨a0.length, List.length_map _, ?_⟩
      conv => whnf
      revert h; refine sel_if ?_ ?_ <;> intro h
      · conv => whnf
        replace h := bind_inv h; obtain ⟨v69, g70, h⟩ := h
        refine ⟨geti_b (f := Hop.toD) g70, Hop.toD v69, geti_d (f := Hop.toD) g70, rfl, ?_⟩
        conv => whnf
        revert h; refine sel_if ?_ ?_ <;> intro h
        · conv => whnf
          exact join_end (v := true) ⟨rfl, And.intro (.refl _) (And.intro (.refl _) (And.intro (.refl _) True.intro)), True.intro, rfl⟩ h
        · conv => whnf
          replace h := bind_inv h; obtain ⟨v71, g72, h⟩ := h
          refine ⟨geti_b (f := Hop.toD) g72, Hop.toD v71, geti_d (f := Hop.toD) g72, rfl, ?_⟩
          conv => whnf
          exact join_end (v := (v71.Role == 2)) ⟨rfl, And.intro (.refl _) (And.intro (.refl _) (And.intro (.refl _) True.intro)), True.intro, rfl⟩ h
      · conv => whnf
        exact join_end (v := false) ⟨rfl, And.intro (.refl _) (And.intro (.refl _) (And.intro (.refl _) True.intro)), True.intro, rfl⟩ h
    · rintro v67 h
      conv => whnf
      refine .go ?_
      conv => whnf
      revert h; refine sel_if ?_ ?_ <;> intro h
      · conv => whnf
        refine .go ?_
        conv => whnf
        refine ⟨_, rfl, ?_⟩
        conv => whnf
        exact hK61 _ (i64w (v59 + 1)) ⟨rfl, And.intro (.refl _) (And.intro (.refl _) True.intro), True.intro, rfl⟩ h
      · conv => whnf
        exact join_end (v := v59) ⟨rfl, And.intro (.refl _) (And.intro (.refl _) True.intro), True.intro, rfl⟩ h
  · rintro v36 h
    conv => whnf
    revert h; refine cut_join (fun v75 => ⟨AV.d (D.l 3 Hop.toD a0) :: X :: X :: AV.d (D.i v36) :: dd 33 (AV.d (D.b v75) :: dd 32 ([])), nn 70 ([])⟩) ?_ ?_
    · intro k76 h
      conv => whnf
      refine ⟨a0.length, List.length_map _, ?_⟩
      conv => whnf
      revert h; refine sel_if ?_ ?_ <;> intro h
      · conv => whnf
        replace h := bind_inv h; obtain ⟨v77, g78, h⟩ := h
        refine ⟨geti_b (f := Hop.toD) g78, Hop.toD v77, geti_d (f := Hop.toD) g78, rfl, ?_⟩
        conv => whnf
        exact join_end (v := (v77.Role == 4)) ⟨rfl, And.intro (.refl _) (And.intro (.refl _) (And.intro (.refl _) True.intro)), True.intro, rfl⟩ h
      · conv => whnf
        exact join_end (v := false) ⟨rfl, And.intro (.refl _) (And.intro (.refl _) (And.intro (.refl _) True.intro)), True.intro, rfl⟩ h
    · rintro v75 h
      conv => whnf
      revert h; refine cut_join (fun v79 => ⟨AV.d (D.l 3 Hop.toD a0) :: X :: X :: AV.d (D.i v79) :: dd 66 ([]), nn 70 ([])⟩) ?_ ?_
      · intro k80 h
        conv => whnf
        revert h; refine sel_if ?_ ?_ <;> intro h
        · conv => whnf
          refine ⟨_, rfl, ?_⟩
          conv => whnf
          exact join_end (v := (i64w (v36 + 1))) ⟨rfl, And.intro (.refl _) (And.intro (.refl _) True.intro), True.intro, rfl⟩ h
        · conv => whnf
          exact join_end (v := v36) ⟨rfl, And.intro (.refl _) (And.intro (.refl _) True.intro), True.intro, rfl⟩ h
      · rintro v79 h
        conv => whnf
        revert h; refine cut_join (fun v116 => ⟨AV.d (D.l 3 Hop.toD a0) :: X :: X :: AV.d (D.i v116) :: dd 66 ([]), nn 70 ([])⟩) ?_ ?_
        · intro k117 h
          conv => whnf
          revert h; refine loop_while (fun v139 => ⟨AV.d (D.l 3 Hop.toD a0) :: X :: X :: AV.d (D.i v139) :: dd 66 ([]), nn 70 ([])⟩) ⟨rfl, And.intro (.refl _) (And.intro (.refl _) True.intro), True.intro, rfl⟩ ?_
          rintro next142 v139 K140 h hK141
          conv => whnf
          revert h; refine cut_join (fun v147 => ⟨AV.d (D.l 3 Hop.toD a0) :: X :: X :: AV.d (D.i v139) :: dd 55 (AV.d (D.b v147) :: dd 10 ([])), nn 70 ([])⟩) ?_ ?_
          · intro k148 h
            conv => whnf
            refine ⟨a0.length, List.length_map _, ?_⟩
            conv => whnf
            revert h; refine sel_if ?_ ?_ <;> intro h
            · conv => whnf
              replace h := bind_inv h; obtain ⟨v149, g150, h⟩ := h
              refine ⟨geti_b (f := Hop.toD) g150, Hop.toD v149, geti_d (f := Hop.toD) g150, rfl, ?_⟩
              conv => whnf
              revert h; refine sel_if ?_ ?_ <;> intro h
              · conv => whnf
                exact join_end (v := true) ⟨rfl, And.intro (.refl _) (And.intro (.refl _) (And.intro (.refl _) True.intro)), True.intro, rfl⟩ h
              · conv => whnf
                replace h := bind_inv h; obtain ⟨v151, g152, h⟩ := h
                refine ⟨geti_b (f := Hop.toD) g152, Hop.toD v151, geti_d (f := Hop.toD) g152, rfl, ?_⟩
                conv => whnf
                exact join_end (v := (v151.Role == 1)) ⟨rfl, And.intro (.refl _) (And.intro (.refl _) (And.intro (.refl _) True.intro)), True.intro, rfl⟩ h
            · conv => whnf
              exact join_end (v := false) ⟨rfl, And.intro (.refl _) (And.intro (.refl _) (And.intro (.refl _) True.intro)), True.intro, rfl⟩ h
          · rintro v147 h
            conv => whnf
            refine .go ?_
            conv => whnf
            revert h; refine sel_if ?_ ?_ <;> intro h
            · conv => whnf
              refine .go ?_
              conv => whnf
              refine ⟨_, rfl, ?_⟩
              conv => whnf
              exact hK141 _ (i64w (v139 + 1)) ⟨rfl, And.intro (.refl _) (And.intro (.refl _) True.intro), True.intro, rfl⟩ h
            · conv => whnf
              exact join_end (v := v139) ⟨rfl, And.intro (.refl _) (And.intro (.refl _) True.intro), True.intro, rfl⟩ h
        · rintro v116 h
          conv => whnf
          revert h; refine cut_join (fun v155 => ⟨X :: X :: AV.d (D.b v155) :: dd 67 ([]), nn 70 ([])⟩) ?_ ?_
          · intro k156 h
            conv => whnf
            refine ⟨a0.length, List.length_map _, ?_⟩
            conv => whnf
            revert h; refine sel_if ?_ ?_ <;> intro h
            · conv => whnf
              replace h := bind_inv h; obtain ⟨v157, g158, h⟩ := h
              refine ⟨_, _, ref23_joined_ok g158, .inl rfl, ?_⟩
              conv => whnf
              exact join_end (v := v157) ⟨rfl, And.intro (.refl _) True.intro, True.intro, rfl⟩ h
            · conv => whnf
              exact join_end (v := false) ⟨rfl, And.intro (.refl _) True.intro, True.intro, rfl⟩ h
          · rintro v155 h
            conv => whnf
            cases h
            exact ⟨rfl, rfl⟩

theorem law23_RoleWays_ok {a0 : List Hop} {a1 : List Int} {r : Bool} (h : law23_RoleWays a0 a1 = some r) : CallsOK Try.prog 5 [AV.d (D.l 3 Hop.toD a0), AV.d (D.l 1 D.i a1)] [] (.d (D.b r)) [] := by
  refine ok Try.f5 (by kernel_rfl) (by kernel_rfl) ⟨rfl, ?_⟩
  unfold law23_RoleWays at h
  conv => whnf
  refine ⟨a0.length, List.length_map _, ?_⟩
  conv => whnf
  refine .go ?_
  conv => whnf
  revert h; refine sel_if ?_ ?_ <;> intro h
  · conv => whnf
    replace h := bind_inv h; obtain ⟨v3, g4, h⟩ := h
    refine ⟨_, _, law23_awake_ok g4, .inl rfl, ?_⟩
    conv => whnf
    cases h
    exact ⟨rfl, rfl⟩
  · conv => whnf
    replace h := bind_inv h; obtain ⟨v5, g6, h⟩ := h
    refine ⟨_, _, mill_New_ok g6, .inr rfl, ?_⟩
    conv => whnf
    replace h := bind_inv h; obtain ⟨⟨v7, v8⟩, g9, h⟩ := h
    refine ⟨_, _, law23_hops_ok g9, .inl rfl, ?_⟩
    conv => whnf
    refine ⟨([a0, v7] : List (List Hop)).length, by first | exact List.length_map _ | rfl | (simp only [List.length_map]; omega), ?_⟩
    conv => whnf
    revert h; refine cut_join (fun _ => ⟨dd 35 ([]), nn 35 ([])⟩) ?_ ?_
    · intro k89 h
      conv => whnf
      revert h; refine loop_own 15 47 1 false (D.l 3 Hop.toD) rfl (fun i128 _ => ⟨dd 15 (AV.own 15 (List.map (D.l 3 Hop.toD) ([a0, v7] : List (List Hop))).length :: AV.d (D.i (([a0, v7] : List (List Hop)).length : Int)) :: AV.d (D.i (i128 : Int)) :: dd 17 ([])), nn 15 (some (OB.row 47 1 (List.map (D.l 3 Hop.toD) ([a0, v7] : List (List Hop))) false) :: nn 19 ([]))⟩) ⟨rfl, And.intro (.refl _) (And.intro (.refl _) (And.intro (.refl _) True.intro)), And.intro (.inl ⟨_, rfl, id⟩) (True.intro), rfl⟩ ?_ ?_
      · rintro _ K130 h
        conv => whnf
        refine .go ?_
        conv => whnf
        exact join_end (v := ()) ⟨rfl, True.intro, True.intro, rfl⟩ h
      · rintro next132 i128 x129 _ K130 hii128 hxi128 hwi128 h hK131
        conv => whnf
        refine .go ?_
        conv => whnf
        refine sel_t (lt_t hii128) ?_
        conv => whnf
        refine .go ?_
        conv => whnf
        refine ⟨rfl, idx_b (f := (D.l 3 Hop.toD)) hii128, ?_⟩
        conv => whnf
        refine ⟨rfl, (D.l 3 Hop.toD) x129, hxi128, ?_⟩
        conv => whnf
        revert h; refine cut_join (fun v159 => ⟨dd 15 (AV.own 15 (List.map (D.l 3 Hop.toD) ([a0, v7] : List (List Hop))).length :: AV.d (D.i (([a0, v7] : List (List Hop)).length : Int)) :: AV.d (D.i (i128 : Int)) :: dd 14 (AV.d (D.b v159) :: X :: X :: [])), nn 15 (some (OB.row 47 1 (List.map (D.l 3 Hop.toD) ([a0, v7] : List (List Hop))) false) :: nn 19 ([]))⟩) ?_ ?_
        · intro k160 h
          conv => whnf
          replace h := bind_inv h; obtain ⟨v161, g162, h⟩ := h
          refine ⟨_, _, role_Travels_ok g162, .inl rfl, ?_⟩
          conv => whnf
          replace h := bind_inv h; obtain ⟨v163, g164, h⟩ := h
          refine ⟨_, _, ref23_Travels_ok g164, .inl rfl, ?_⟩
          conv => whnf
          revert h; refine sel_if ?_ ?_ <;> intro h
          · conv => whnf
            exact join_end (v := true) ⟨rfl, And.intro (.refl _) (And.intro (.refl _) (And.intro (.refl _) (And.intro (.refl _) True.intro))), And.intro (.inl ⟨_, rfl, id⟩) (True.intro), rfl⟩ h
          · conv => whnf
            replace h := bind_inv h; obtain ⟨v165, g166, h⟩ := h
            refine ⟨_, _, role_Valley_ok g166, .inl rfl, ?_⟩
            conv => whnf
            replace h := bind_inv h; obtain ⟨v167, g168, h⟩ := h
            refine ⟨_, _, ref23_Valley_ok g168, .inl rfl, ?_⟩
            conv => whnf
            exact join_end (v := (!(v165 == v167))) ⟨rfl, And.intro (.refl _) (And.intro (.refl _) (And.intro (.refl _) (And.intro (.refl _) True.intro))), And.intro (.inl ⟨_, rfl, id⟩) (True.intro), rfl⟩ h
        · rintro v159 h
          conv => whnf
          refine .go ?_
          conv => whnf
          revert h; refine sel_if ?_ ?_ <;> intro h
          · conv => whnf
            cases h
            exact ⟨rfl, rfl⟩
          · conv => whnf
            refine ⟨_, hwi128, ?_⟩
            conv => whnf
            exact hK131 _ () ⟨rfl, And.intro (.refl _) (And.intro (.refl _) (And.intro (.refl _) True.intro)), And.intro (.inl ⟨_, rfl, id⟩) (True.intro), rfl⟩ h
    · rintro _ h
      conv => whnf
      replace h := bind_inv h; obtain ⟨v169, g170, h⟩ := h
      refine ⟨_, _, law23_awake_ok g170, .inl rfl, ?_⟩
      conv => whnf
      cases h
      exact ⟨rfl, rfl⟩

theorem law23_RoleValleys_ok {a0 : List Hop} {a1 : List Int} {r : Bool} (h : law23_RoleValleys a0 a1 = some r) : CallsOK Try.prog 6 [AV.d (D.l 3 Hop.toD a0), AV.d (D.l 1 D.i a1)] [] (.d (D.b r)) [] := by
  refine ok Try.f6 (by kernel_rfl) (by kernel_rfl) ⟨rfl, ?_⟩
  unfold law23_RoleValleys at h
  conv => whnf
  refine ⟨a0.length, List.length_map _, ?_⟩
  conv => whnf
  refine .go ?_
  conv => whnf
  revert h; refine sel_if ?_ ?_ <;> intro h
  · conv => whnf
    replace h := bind_inv h; obtain ⟨v3, g4, h⟩ := h
    refine ⟨_, _, law23_awake_ok g4, .inl rfl, ?_⟩
    conv => whnf
    cases h
    exact ⟨rfl, rfl⟩
  · conv => whnf
    replace h := bind_inv h; obtain ⟨v5, g6, h⟩ := h
    refine ⟨_, _, mill_New_ok g6, .inr rfl, ?_⟩
    conv => whnf
    replace h := bind_inv h; obtain ⟨⟨v7, v8⟩, g9, h⟩ := h
    refine ⟨_, _, law23_hops_ok g9, .inl rfl, ?_⟩
    conv => whnf
    refine ⟨([a0, v7] : List (List Hop)).length, by first | exact List.length_map _ | rfl | (simp only [List.length_map]; omega), ?_⟩
    conv => whnf
    revert h; refine cut_join (fun _ => ⟨dd 28 ([]), nn 28 ([])⟩) ?_ ?_
    · intro k33 h
      conv => whnf
      revert h; refine loop_own 15 47 1 false (D.l 3 Hop.toD) rfl (fun i44 _ => ⟨dd 15 (AV.own 15 (List.map (D.l 3 Hop.toD) ([a0, v7] : List (List Hop))).length :: AV.d (D.i (([a0, v7] : List (List Hop)).length : Int)) :: AV.d (D.i (i44 : Int)) :: dd 10 ([])), nn 15 (some (OB.row 47 1 (List.map (D.l 3 Hop.toD) ([a0, v7] : List (List Hop))) false) :: nn 12 ([]))⟩) ⟨rfl, And.intro (.refl _) (And.intro (.refl _) (And.intro (.refl _) True.intro)), And.intro (.inl ⟨_, rfl, id⟩) (True.intro), rfl⟩ ?_ ?_
      · rintro _ K46 h
        conv => whnf
        refine .go ?_
        conv => whnf
        exact join_end (v := ()) ⟨rfl, True.intro, True.intro, rfl⟩ h
      · rintro next48 i44 x45 _ K46 hii44 hxi44 hwi44 h hK47
        conv => whnf
        refine .go ?_
        conv => whnf
        refine sel_t (lt_t hii44) ?_
        conv => whnf
        refine .go ?_
        conv => whnf
        refine ⟨rfl, idx_b (f := (D.l 3 Hop.toD)) hii44, ?_⟩
        conv => whnf
        refine ⟨rfl, (D.l 3 Hop.toD) x45, hxi44, ?_⟩
        conv => whnf
        replace h := bind_inv h; obtain ⟨v53, g54, h⟩ := h
        refine ⟨_, _, role_Travels_ok g54, .inl rfl, ?_⟩
        conv => whnf
        replace h := bind_inv h; obtain ⟨v55, g56, h⟩ := h
        refine ⟨_, _, role_Valley_ok g56, .inl rfl, ?_⟩
        conv => whnf
        refine .go ?_
        conv => whnf
        revert h; refine sel_if ?_ ?_ <;> intro h
        · conv => whnf
          cases h
          exact ⟨rfl, rfl⟩
        · conv => whnf
          refine ⟨_, hwi44, ?_⟩
          conv => whnf
          exact hK47 _ () ⟨rfl, And.intro (.refl _) (And.intro (.refl _) (And.intro (.refl _) True.intro)), And.intro (.inl ⟨_, rfl, id⟩) (True.intro), rfl⟩ h
    · rintro _ h
      conv => whnf
      replace h := bind_inv h; obtain ⟨v57, g58, h⟩ := h
      refine ⟨_, _, law23_awake_ok g58, .inl rfl, ?_⟩
      conv => whnf
      cases h
      exact ⟨rfl, rfl⟩

theorem law23_RoleDown_ok {a0 : List Int} {a1 : Int} {a2 : Int} {a3 : Int} {a4 : Int} {r : Bool} (h : law23_RoleDown a0 a1 a2 a3 a4 = some r) : CallsOK Try.prog 7 [AV.d (D.l 1 D.i a0), AV.d (D.i a1), AV.d (D.i a2), AV.d (D.i a3), AV.d (D.i a4)] [] (.d (D.b r)) [] := by
  refine ok Try.f7 (by kernel_rfl) (by kernel_rfl) ⟨rfl, ?_⟩
  unfold law23_RoleDown at h
  conv => whnf
  replace h := bind_inv h; obtain ⟨v1, g2, h⟩ := h
  refine ⟨_, _, mill_New_ok g2, .inr rfl, ?_⟩
  conv => whnf
  replace h := bind_inv h; obtain ⟨⟨v3, v4⟩, g5, h⟩ := h
  refine ⟨_, _, mill_Deck_Attrs_ok g5, .inl rfl, ?_⟩
  conv => whnf
  replace h := bind_inv h; obtain ⟨v6, g7, h⟩ := h
  refine ⟨_, _, mill_Mod_ok g7, .inl rfl, ?_⟩
  conv => whnf
  replace h := bind_inv h; obtain ⟨v8, g9, h⟩ := h
  refine ⟨_, _, mill_Mod_ok g9, .inl rfl, ?_⟩
  conv => whnf
  replace h := bind_inv h; obtain ⟨v10, g11, h⟩ := h
  refine ⟨_, _, mill_Mod_ok g11, .inl rfl, ?_⟩
  conv => whnf
  refine ⟨_, rfl, ?_⟩
  conv => whnf
  replace h := bind_inv h; obtain ⟨v12, g13, h⟩ := h
  refine ⟨_, _, mill_Mod_ok g13, .inl rfl, ?_⟩
  conv => whnf
  refine ⟨_, rfl, ?_⟩
  conv => whnf
  replace h := bind_inv h; obtain ⟨⟨v14, v15⟩, g16, h⟩ := h
  refine ⟨_, _, role_Receive_ok g16, .inl rfl, ?_⟩
  conv => whnf
  refine .go ?_
  conv => whnf
  revert h; refine sel_if ?_ ?_ <;> intro h
  · conv => whnf
    revert h; refine cut_join (fun v25 => ⟨dd 10 (AV.d (D.b v25) :: dd 101 ([])), nn 112 ([])⟩) ?_ ?_
    · intro k26 h
      conv => whnf
      revert h; refine sel_if ?_ ?_ <;> intro h
      · conv => whnf
        revert h; refine sel_if ?_ ?_ <;> intro h
        · conv => whnf
          replace h := bind_inv h; obtain ⟨v27, g28, h⟩ := h
          refine ⟨_, _, law23_awake_ok g28, .inl rfl, ?_⟩
          conv => whnf
          exact join_end (v := v27) ⟨rfl, And.intro (.refl _) True.intro, True.intro, rfl⟩ h
        · conv => whnf
          exact join_end (v := false) ⟨rfl, And.intro (.refl _) True.intro, True.intro, rfl⟩ h
      · conv => whnf
        exact join_end (v := false) ⟨rfl, And.intro (.refl _) True.intro, True.intro, rfl⟩ h
    · rintro v25 h
      conv => whnf
      cases h
      exact ⟨rfl, rfl⟩
  · conv => whnf
    replace h := bind_inv h; obtain ⟨⟨v29, v30⟩, g31, h⟩ := h
    refine ⟨_, _, role_Send_ok g31, .inl rfl, ?_⟩
    conv => whnf
    revert h; refine cut_join (fun v32 => ⟨dd 13 (AV.d (D.i v8) :: X :: X :: AV.ref 16 0 :: X :: AV.ref 18 0 :: AV.d (D.i v30) :: AV.d (D.b v32) :: dd 91 ([])), nn 16 (some (OB.box [AV.d (D.i v14.Origin), AV.d (D.l 2 Segment.toD v14.Path), AV.d (D.b v14.Next.V6), AV.d (D.u64 v14.Next.Hi), AV.d (D.u64 v14.Next.Lo), AV.d (D.i v14.MED), AV.d (D.i v14.Pref), AV.d (D.i v14.OTC), AV.d (D.l 2 Community.toD v14.Communities), AV.d (D.l 3 Large.toD v14.Large), AV.d (D.l 3 Unknown.toD v14.Other)]) :: N :: some (OB.box [AV.d (D.i v29.Origin), AV.d (D.l 2 Segment.toD v29.Path), AV.d (D.b v29.Next.V6), AV.d (D.u64 v29.Next.Hi), AV.d (D.u64 v29.Next.Lo), AV.d (D.i v29.MED), AV.d (D.i v29.Pref), AV.d (D.i v29.OTC), AV.d (D.l 2 Community.toD v29.Communities), AV.d (D.l 3 Large.toD v29.Large), AV.d (D.l 3 Unknown.toD v29.Other)]) :: nn 93 ([]))⟩) ?_ ?_
    · intro k33 h
      conv => whnf
      revert h; refine sel_if ?_ ?_ <;> intro h
      · conv => whnf
        exact join_end (v := true) ⟨rfl, And.intro (.refl _) (And.intro (.refl _) (And.intro (.refl _) (And.intro (.refl _) (And.intro (.refl _) True.intro)))), And.intro ⟨_, rfl, And.intro ⟨rfl, .refl _⟩ (And.intro ⟨rfl, .refl _⟩ (And.intro ⟨rfl, .refl _⟩ (And.intro ⟨rfl, .refl _⟩ (And.intro ⟨rfl, .refl _⟩ (And.intro ⟨rfl, .refl _⟩ (And.intro ⟨rfl, .refl _⟩ (And.intro ⟨rfl, .refl _⟩ (And.intro ⟨rfl, .refl _⟩ (And.intro ⟨rfl, .refl _⟩ (And.intro ⟨rfl, .refl _⟩ (True.intro)))))))))))⟩ (And.intro ⟨_, rfl, And.intro ⟨rfl, .refl _⟩ (And.intro ⟨rfl, .refl _⟩ (And.intro ⟨rfl, .refl _⟩ (And.intro ⟨rfl, .refl _⟩ (And.intro ⟨rfl, .refl _⟩ (And.intro ⟨rfl, .refl _⟩ (And.intro ⟨rfl, .refl _⟩ (And.intro ⟨rfl, .refl _⟩ (And.intro ⟨rfl, .refl _⟩ (And.intro ⟨rfl, .refl _⟩ (And.intro ⟨rfl, .refl _⟩ (True.intro)))))))))))⟩ (True.intro)), rfl⟩ h
      · conv => whnf
        revert h; refine sel_if ?_ ?_ <;> intro h
        · conv => whnf
          exact join_end (v := true) ⟨rfl, And.intro (.refl _) (And.intro (.refl _) (And.intro (.refl _) (And.intro (.refl _) (And.intro (.refl _) True.intro)))), And.intro ⟨_, rfl, And.intro ⟨rfl, .refl _⟩ (And.intro ⟨rfl, .refl _⟩ (And.intro ⟨rfl, .refl _⟩ (And.intro ⟨rfl, .refl _⟩ (And.intro ⟨rfl, .refl _⟩ (And.intro ⟨rfl, .refl _⟩ (And.intro ⟨rfl, .refl _⟩ (And.intro ⟨rfl, .refl _⟩ (And.intro ⟨rfl, .refl _⟩ (And.intro ⟨rfl, .refl _⟩ (And.intro ⟨rfl, .refl _⟩ (True.intro)))))))))))⟩ (And.intro ⟨_, rfl, And.intro ⟨rfl, .refl _⟩ (And.intro ⟨rfl, .refl _⟩ (And.intro ⟨rfl, .refl _⟩ (And.intro ⟨rfl, .refl _⟩ (And.intro ⟨rfl, .refl _⟩ (And.intro ⟨rfl, .refl _⟩ (And.intro ⟨rfl, .refl _⟩ (And.intro ⟨rfl, .refl _⟩ (And.intro ⟨rfl, .refl _⟩ (And.intro ⟨rfl, .refl _⟩ (And.intro ⟨rfl, .refl _⟩ (True.intro)))))))))))⟩ (True.intro)), rfl⟩ h
        · conv => whnf
          exact join_end (v := (v6 == 4)) ⟨rfl, And.intro (.refl _) (And.intro (.refl _) (And.intro (.refl _) (And.intro (.refl _) (And.intro (.refl _) True.intro)))), And.intro ⟨_, rfl, And.intro ⟨rfl, .refl _⟩ (And.intro ⟨rfl, .refl _⟩ (And.intro ⟨rfl, .refl _⟩ (And.intro ⟨rfl, .refl _⟩ (And.intro ⟨rfl, .refl _⟩ (And.intro ⟨rfl, .refl _⟩ (And.intro ⟨rfl, .refl _⟩ (And.intro ⟨rfl, .refl _⟩ (And.intro ⟨rfl, .refl _⟩ (And.intro ⟨rfl, .refl _⟩ (And.intro ⟨rfl, .refl _⟩ (True.intro)))))))))))⟩ (And.intro ⟨_, rfl, And.intro ⟨rfl, .refl _⟩ (And.intro ⟨rfl, .refl _⟩ (And.intro ⟨rfl, .refl _⟩ (And.intro ⟨rfl, .refl _⟩ (And.intro ⟨rfl, .refl _⟩ (And.intro ⟨rfl, .refl _⟩ (And.intro ⟨rfl, .refl _⟩ (And.intro ⟨rfl, .refl _⟩ (And.intro ⟨rfl, .refl _⟩ (And.intro ⟨rfl, .refl _⟩ (And.intro ⟨rfl, .refl _⟩ (True.intro)))))))))))⟩ (True.intro)), rfl⟩ h
    · rintro v32 h
      conv => whnf
      revert h; refine cut_join (fun v34 => ⟨dd 16 (AV.ref 16 0 :: X :: AV.ref 18 0 :: AV.d (D.i v30) :: AV.d (D.b v32) :: AV.d (D.b v34) :: dd 90 ([])), nn 16 (some (OB.box [AV.d (D.i v14.Origin), AV.d (D.l 2 Segment.toD v14.Path), AV.d (D.b v14.Next.V6), AV.d (D.u64 v14.Next.Hi), AV.d (D.u64 v14.Next.Lo), AV.d (D.i v14.MED), AV.d (D.i v14.Pref), AV.d (D.i v14.OTC), AV.d (D.l 2 Community.toD v14.Communities), AV.d (D.l 3 Large.toD v14.Large), AV.d (D.l 3 Unknown.toD v14.Other)]) :: N :: some (OB.box [AV.d (D.i v29.Origin), AV.d (D.l 2 Segment.toD v29.Path), AV.d (D.b v29.Next.V6), AV.d (D.u64 v29.Next.Hi), AV.d (D.u64 v29.Next.Lo), AV.d (D.i v29.MED), AV.d (D.i v29.Pref), AV.d (D.i v29.OTC), AV.d (D.l 2 Community.toD v29.Communities), AV.d (D.l 3 Large.toD v29.Large), AV.d (D.l 3 Unknown.toD v29.Other)]) :: nn 93 ([]))⟩) ?_ ?_
      · intro k35 h
        conv => whnf
        revert h; refine sel_if ?_ ?_ <;> intro h
        · conv => whnf
          exact join_end (v := true) ⟨rfl, And.intro (.refl _) (And.intro (.refl _) (And.intro (.refl _) (And.intro (.refl _) (And.intro (.refl _) True.intro)))), And.intro ⟨_, rfl, And.intro ⟨rfl, .refl _⟩ (And.intro ⟨rfl, .refl _⟩ (And.intro ⟨rfl, .refl _⟩ (And.intro ⟨rfl, .refl _⟩ (And.intro ⟨rfl, .refl _⟩ (And.intro ⟨rfl, .refl _⟩ (And.intro ⟨rfl, .refl _⟩ (And.intro ⟨rfl, .refl _⟩ (And.intro ⟨rfl, .refl _⟩ (And.intro ⟨rfl, .refl _⟩ (And.intro ⟨rfl, .refl _⟩ (True.intro)))))))))))⟩ (And.intro ⟨_, rfl, And.intro ⟨rfl, .refl _⟩ (And.intro ⟨rfl, .refl _⟩ (And.intro ⟨rfl, .refl _⟩ (And.intro ⟨rfl, .refl _⟩ (And.intro ⟨rfl, .refl _⟩ (And.intro ⟨rfl, .refl _⟩ (And.intro ⟨rfl, .refl _⟩ (And.intro ⟨rfl, .refl _⟩ (And.intro ⟨rfl, .refl _⟩ (And.intro ⟨rfl, .refl _⟩ (And.intro ⟨rfl, .refl _⟩ (True.intro)))))))))))⟩ (True.intro)), rfl⟩ h
        · conv => whnf
          exact join_end (v := (v8 == 1)) ⟨rfl, And.intro (.refl _) (And.intro (.refl _) (And.intro (.refl _) (And.intro (.refl _) (And.intro (.refl _) True.intro)))), And.intro ⟨_, rfl, And.intro ⟨rfl, .refl _⟩ (And.intro ⟨rfl, .refl _⟩ (And.intro ⟨rfl, .refl _⟩ (And.intro ⟨rfl, .refl _⟩ (And.intro ⟨rfl, .refl _⟩ (And.intro ⟨rfl, .refl _⟩ (And.intro ⟨rfl, .refl _⟩ (And.intro ⟨rfl, .refl _⟩ (And.intro ⟨rfl, .refl _⟩ (And.intro ⟨rfl, .refl _⟩ (And.intro ⟨rfl, .refl _⟩ (True.intro)))))))))))⟩ (And.intro ⟨_, rfl, And.intro ⟨rfl, .refl _⟩ (And.intro ⟨rfl, .refl _⟩ (And.intro ⟨rfl, .refl _⟩ (And.intro ⟨rfl, .refl _⟩ (And.intro ⟨rfl, .refl _⟩ (And.intro ⟨rfl, .refl _⟩ (And.intro ⟨rfl, .refl _⟩ (And.intro ⟨rfl, .refl _⟩ (And.intro ⟨rfl, .refl _⟩ (And.intro ⟨rfl, .refl _⟩ (And.intro ⟨rfl, .refl _⟩ (True.intro)))))))))))⟩ (True.intro)), rfl⟩ h
      · rintro v34 h
        conv => whnf
        revert h; refine cut_join (fun v36 => ⟨dd 16 (AV.ref 16 0 :: X :: AV.ref 18 0 :: AV.d (D.i v30) :: X :: AV.d (D.b v34) :: dd 59 (AV.d (D.b v36) :: dd 30 ([]))), nn 16 (some (OB.box [AV.d (D.i v14.Origin), AV.d (D.l 2 Segment.toD v14.Path), AV.d (D.b v14.Next.V6), AV.d (D.u64 v14.Next.Hi), AV.d (D.u64 v14.Next.Lo), AV.d (D.i v14.MED), AV.d (D.i v14.Pref), AV.d (D.i v14.OTC), AV.d (D.l 2 Community.toD v14.Communities), AV.d (D.l 3 Large.toD v14.Large), AV.d (D.l 3 Unknown.toD v14.Other)]) :: N :: some (OB.box [AV.d (D.i v29.Origin), AV.d (D.l 2 Segment.toD v29.Path), AV.d (D.b v29.Next.V6), AV.d (D.u64 v29.Next.Hi), AV.d (D.u64 v29.Next.Lo), AV.d (D.i v29.MED), AV.d (D.i v29.Pref), AV.d (D.i v29.OTC), AV.d (D.l 2 Community.toD v29.Communities), AV.d (D.l 3 Large.toD v29.Large), AV.d (D.l 3 Unknown.toD v29.Other)]) :: nn 93 ([]))⟩) ?_ ?_
        · intro k37 h
          conv => whnf
          revert h; refine sel_if ?_ ?_ <;> intro h
          · conv => whnf
            exact join_end (v := (!v34)) ⟨rfl, And.intro (.refl _) (And.intro (.refl _) (And.intro (.refl _) (And.intro (.refl _) (And.intro (.refl _) True.intro)))), And.intro ⟨_, rfl, And.intro ⟨rfl, .refl _⟩ (And.intro ⟨rfl, .refl _⟩ (And.intro ⟨rfl, .refl _⟩ (And.intro ⟨rfl, .refl _⟩ (And.intro ⟨rfl, .refl _⟩ (And.intro ⟨rfl, .refl _⟩ (And.intro ⟨rfl, .refl _⟩ (And.intro ⟨rfl, .refl _⟩ (And.intro ⟨rfl, .refl _⟩ (And.intro ⟨rfl, .refl _⟩ (And.intro ⟨rfl, .refl _⟩ (True.intro)))))))))))⟩ (And.intro ⟨_, rfl, And.intro ⟨rfl, .refl _⟩ (And.intro ⟨rfl, .refl _⟩ (And.intro ⟨rfl, .refl _⟩ (And.intro ⟨rfl, .refl _⟩ (And.intro ⟨rfl, .refl _⟩ (And.intro ⟨rfl, .refl _⟩ (And.intro ⟨rfl, .refl _⟩ (And.intro ⟨rfl, .refl _⟩ (And.intro ⟨rfl, .refl _⟩ (And.intro ⟨rfl, .refl _⟩ (And.intro ⟨rfl, .refl _⟩ (True.intro)))))))))))⟩ (True.intro)), rfl⟩ h
          · conv => whnf
            exact join_end (v := false) ⟨rfl, And.intro (.refl _) (And.intro (.refl _) (And.intro (.refl _) (And.intro (.refl _) (And.intro (.refl _) True.intro)))), And.intro ⟨_, rfl, And.intro ⟨rfl, .refl _⟩ (And.intro ⟨rfl, .refl _⟩ (And.intro ⟨rfl, .refl _⟩ (And.intro ⟨rfl, .refl _⟩ (And.intro ⟨rfl, .refl _⟩ (And.intro ⟨rfl, .refl _⟩ (And.intro ⟨rfl, .refl _⟩ (And.intro ⟨rfl, .refl _⟩ (And.intro ⟨rfl, .refl _⟩ (And.intro ⟨rfl, .refl _⟩ (And.intro ⟨rfl, .refl _⟩ (True.intro)))))))))))⟩ (And.intro ⟨_, rfl, And.intro ⟨rfl, .refl _⟩ (And.intro ⟨rfl, .refl _⟩ (And.intro ⟨rfl, .refl _⟩ (And.intro ⟨rfl, .refl _⟩ (And.intro ⟨rfl, .refl _⟩ (And.intro ⟨rfl, .refl _⟩ (And.intro ⟨rfl, .refl _⟩ (And.intro ⟨rfl, .refl _⟩ (And.intro ⟨rfl, .refl _⟩ (And.intro ⟨rfl, .refl _⟩ (And.intro ⟨rfl, .refl _⟩ (True.intro)))))))))))⟩ (True.intro)), rfl⟩ h
        · rintro v36 h
          conv => whnf
          refine .go ?_
          conv => whnf
          revert h; refine sel_if ?_ ?_ <;> intro h
          · conv => whnf
            cases h
            exact ⟨rfl, rfl⟩
          · conv => whnf
            revert h; refine cut_join (fun v50 => ⟨dd 10 (AV.d (D.b v50) :: dd 101 ([])), nn 112 ([])⟩) ?_ ?_
            · intro k51 h
              conv => whnf
              revert h; refine sel_if ?_ ?_ <;> intro h
              · conv => whnf
                revert h; refine sel_if ?_ ?_ <;> intro h
                · conv => whnf
                  revert h; refine sel_if ?_ ?_ <;> intro h
                  · conv => whnf
                    replace h := bind_inv h; obtain ⟨v52, g53, h⟩ := h
                    refine ⟨_, _, law23_awake_ok g53, .inl rfl, ?_⟩
                    conv => whnf
                    exact join_end (v := v52) ⟨rfl, And.intro (.refl _) True.intro, True.intro, rfl⟩ h
                  · conv => whnf
                    revert h; refine sel_if ?_ ?_ <;> intro h
                    · conv => whnf
                      replace h := bind_inv h; obtain ⟨v54, g55, h⟩ := h
                      refine ⟨_, _, law23_awake_ok g55, .inl rfl, ?_⟩
                      conv => whnf
                      exact join_end (v := v54) ⟨rfl, And.intro (.refl _) True.intro, True.intro, rfl⟩ h
                    · conv => whnf
                      revert h; refine sel_if ?_ ?_ <;> intro h
                      · conv => whnf
                        replace h := bind_inv h; obtain ⟨v56, g57, h⟩ := h
                        refine ⟨_, _, law23_awake_ok g57, .inl rfl, ?_⟩
                        conv => whnf
                        exact join_end (v := v56) ⟨rfl, And.intro (.refl _) True.intro, True.intro, rfl⟩ h
                      · conv => whnf
                        exact join_end (v := false) ⟨rfl, And.intro (.refl _) True.intro, True.intro, rfl⟩ h
                · conv => whnf
                  exact join_end (v := false) ⟨rfl, And.intro (.refl _) True.intro, True.intro, rfl⟩ h
              · conv => whnf
                revert h; refine sel_if ?_ ?_ <;> intro h
                · conv => whnf
                  revert h; refine sel_if ?_ ?_ <;> intro h
                  · conv => whnf
                    replace h := bind_inv h; obtain ⟨v58, g59, h⟩ := h
                    refine ⟨_, _, law23_awake_ok g59, .inl rfl, ?_⟩
                    conv => whnf
                    exact join_end (v := v58) ⟨rfl, And.intro (.refl _) True.intro, True.intro, rfl⟩ h
                  · conv => whnf
                    revert h; refine sel_if ?_ ?_ <;> intro h
                    · conv => whnf
                      replace h := bind_inv h; obtain ⟨v60, g61, h⟩ := h
                      refine ⟨_, _, law23_awake_ok g61, .inl rfl, ?_⟩
                      conv => whnf
                      exact join_end (v := v60) ⟨rfl, And.intro (.refl _) True.intro, True.intro, rfl⟩ h
                    · conv => whnf
                      revert h; refine sel_if ?_ ?_ <;> intro h
                      · conv => whnf
                        replace h := bind_inv h; obtain ⟨v62, g63, h⟩ := h
                        refine ⟨_, _, law23_awake_ok g63, .inl rfl, ?_⟩
                        conv => whnf
                        exact join_end (v := v62) ⟨rfl, And.intro (.refl _) True.intro, True.intro, rfl⟩ h
                      · conv => whnf
                        exact join_end (v := false) ⟨rfl, And.intro (.refl _) True.intro, True.intro, rfl⟩ h
                · conv => whnf
                  exact join_end (v := false) ⟨rfl, And.intro (.refl _) True.intro, True.intro, rfl⟩ h
            · rintro v50 h
              conv => whnf
              cases h
              exact ⟨rfl, rfl⟩
end Go.AX.Q23
