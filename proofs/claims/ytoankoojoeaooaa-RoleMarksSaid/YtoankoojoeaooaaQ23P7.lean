/-
  The functions do what their plain forms say (proofs written by a program of mine), part 7.
-/
import Derived.Test.YtoankoojoeaooaaQ23P6
namespace Go.AX.Q23
open Go Go.AX Go.Proofs
set_option maxRecDepth 100000
set_option maxHeartbeats 4000000
set_option linter.unusedVariables false
theorem law23_RoleMarks_ok {a0 : Attrs} {a1 : Int} {a2 : Int} {a3 : Int} {a4 : List Int} {r : Bool} (h : law23_RoleMarks a0 a1 a2 a3 a4 = some r) : CallsOK Try.prog 4 [AV.d (Attrs.toD a0), AV.d (D.i a1), AV.d (D.i a2), AV.d (D.i a3), AV.d (D.l 1 D.i a4)] [] (.d (D.b r)) [] := by
  refine ok Try.f4 (by kernel_rfl) (by kernel_rfl) ⟨rfl, ?_⟩
  unfold law23_RoleMarks at h
  conv => whnf
  replace h := bind_inv h; obtain ⟨v1, g2, h⟩ := h
  refine ⟨_, _, mill_Small_ok g2, .inl rfl, ?_⟩
  conv => whnf
  refine .go ?_
  conv => whnf
  revert h; refine sel_if ?_ ?_ <;> intro h
  · conv => whnf
    replace h := bind_inv h; obtain ⟨v5, g6, h⟩ := h
    refine ⟨_, _, law23_awake_ok g6, .inl rfl, ?_⟩
    conv => whnf
    cases h
    exact ⟨rfl, rfl⟩
  · conv => whnf
    replace h := bind_inv h; obtain ⟨v7, g8, h⟩ := h
    refine ⟨_, _, mill_New_ok g8, .inr rfl, ?_⟩
    conv => whnf
    replace h := bind_inv h; obtain ⟨⟨v9, v10⟩, g11, h⟩ := h
    refine ⟨_, _, mill_Deck_Attrs_ok g11, .inl rfl, ?_⟩
    conv => whnf
    replace h := bind_inv h; obtain ⟨v12, g13, h⟩ := h
    refine ⟨_, _, mill_Mod_ok g13, .inl rfl, ?_⟩
    conv => whnf
    replace h := bind_inv h; obtain ⟨v14, g15, h⟩ := h
    refine ⟨_, _, mill_Mod_ok g15, .inl rfl, ?_⟩
    conv => whnf
    replace h := bind_inv h; obtain ⟨v16, g17, h⟩ := h
    refine ⟨rfl, geti_b (f := D.i) g17, ?_⟩
    conv => whnf
    refine ⟨rfl, D.i v16, (geti_d (f := D.i) g17), ?_⟩
    conv => whnf
    refine ⟨([{ v9 with OTC := v16 }, a0] : List Attrs).length, by first | exact List.length_map _ | rfl | (simp only [List.length_map]; omega), ?_⟩
    conv => whnf
    revert h; refine cut_join (fun _ => ⟨dd 137 ([]), nn 137 ([])⟩) ?_ ?_
    · intro k1343 h
      conv => whnf
      revert h; refine loop_own 41 36 11 false Attrs.toD rfl (fun i2005 _ => ⟨X :: AV.d (D.i a1) :: AV.d (D.i a2) :: dd 38 (AV.own 41 (List.map Attrs.toD ([{ v9 with OTC := v16 }, a0] : List Attrs)).length :: AV.d (D.i (([{ v9 with OTC := v16 }, a0] : List Attrs).length : Int)) :: AV.d (D.i (i2005 : Int)) :: dd 93 ([])), nn 41 (some (OB.row 36 11 (List.map Attrs.toD ([{ v9 with OTC := v16 }, a0] : List Attrs)) false) :: nn 95 ([]))⟩) ⟨rfl, And.intro (.refl _) (And.intro (.refl _) (And.intro (.refl _) (And.intro (.refl _) (And.intro (.refl _) True.intro)))), And.intro (.inl ⟨_, rfl, id⟩) (True.intro), rfl⟩ ?_ ?_
      · rintro _ K2007 h
        conv => whnf
        refine .go ?_
        conv => whnf
        exact join_end (v := ()) ⟨rfl, True.intro, True.intro, rfl⟩ h
      · rintro next2009 i2005 x2006 _ K2007 hii2005 hxi2005 hwi2005 h hK2008
        conv => whnf
        refine .go ?_
        conv => whnf
        refine sel_t (lt_t hii2005) ?_
        conv => whnf
        revert h; refine cut_join (fun _ => ⟨X :: AV.d (D.i a1) :: AV.d (D.i a2) :: dd 38 (AV.own 41 (List.map Attrs.toD ([{ v9 with OTC := v16 }, a0] : List Attrs)).length :: AV.d (D.i (([{ v9 with OTC := v16 }, a0] : List Attrs).length : Int)) :: AV.d (D.i (i2005 : Int)) :: dd 93 ([])), nn 41 (some (OB.row 36 11 (List.map Attrs.toD ([{ v9 with OTC := v16 }, a0] : List Attrs)) false) :: nn 95 ([]))⟩) ?_ ?_
        · intro k2339 h
          conv => whnf
          refine ⟨rfl, idx_b (f := Attrs.toD) hii2005, ?_⟩
          conv => whnf
          refine ⟨rfl, Attrs.toD x2006, hxi2005, ?_⟩
          conv => whnf
          refine dOB (by kernel_rfl) ?_
          conv => whnf
          replace h := bind_inv h; obtain ⟨v2340, g2341, h⟩ := h
          refine ⟨_, _, mill_Mod_ok g2341, .inl rfl, ?_⟩
          conv => whnf
          replace h := bind_inv h; obtain ⟨v2342, g2343, h⟩ := h
          refine ⟨_, _, mill_Mod_ok g2343, .inl rfl, ?_⟩
          conv => whnf
          replace h := bind_inv h; obtain ⟨v2344, g2345, h⟩ := h
          refine ⟨rfl, geti_b (f := D.i) g2345, ?_⟩
          conv => whnf
          refine ⟨rfl, D.i v2344, (geti_d (f := D.i) g2345), ?_⟩
          conv => whnf
          replace h := bind_inv h; obtain ⟨v2346, g2347, h⟩ := h
          refine ⟨_, _, mill_Mod_ok g2347, .inl rfl, ?_⟩
          conv => whnf
          replace h := bind_inv h; obtain ⟨v2348, g2349, h⟩ := h
          refine ⟨_, _, mill_Mod_ok g2349, .inl rfl, ?_⟩
          conv => whnf
          refine ⟨_, rfl, ?_⟩
          conv => whnf
          refine ⟨rfl, ?_⟩
          conv => whnf
          refine ⟨rfl, ?_⟩
          conv => whnf
          refine ⟨rfl, ?_⟩
          conv => whnf
          refine ⟨([([a1, a2] : List Int), ([v2340, v2344] : List Int), ([v2346, (i64w (1 + v2348))] : List Int)] : List (List Int)).length, by first | exact List.length_map _ | rfl | (simp only [List.length_map]; omega), ?_⟩
          conv => whnf
          refine cOB (by kernel_rfl) ?_
          conv => whnf
          revert h; refine cut_join (fun _ => ⟨X :: AV.d (D.i a1) :: AV.d (D.i a2) :: dd 38 (AV.own 41 (List.map Attrs.toD ([{ v9 with OTC := v16 }, a0] : List Attrs)).length :: AV.d (D.i (([{ v9 with OTC := v16 }, a0] : List Attrs).length : Int)) :: AV.d (D.i (i2005 : Int)) :: dd 93 ([])), nn 41 (some (OB.row 36 11 (List.map Attrs.toD ([{ v9 with OTC := v16 }, a0] : List Attrs)) false) :: nn 95 ([]))⟩) ?_ ?_
          · intro k2509 h
            conv => whnf
            revert h; refine loop_own 64 22 1 false (D.l 1 D.i) rfl (fun i2588 _ => ⟨X :: AV.d (D.i a1) :: AV.d (D.i a2) :: dd 10 (AV.ref 13 0 :: dd 27 (AV.own 41 (List.map Attrs.toD ([{ v9 with OTC := v16 }, a0] : List Attrs)).length :: AV.d (D.i (([{ v9 with OTC := v16 }, a0] : List Attrs).length : Int)) :: AV.d (D.i (i2005 : Int)) :: dd 20 (AV.own 64 (List.map (D.l 1 D.i) ([([a1, a2] : List Int), ([v2340, v2344] : List Int), ([v2346, (i64w (1 + v2348))] : List Int)] : List (List Int))).length :: AV.d (D.i (([([a1, a2] : List Int), ([v2340, v2344] : List Int), ([v2346, (i64w (1 + v2348))] : List Int)] : List (List Int)).length : Int)) :: AV.d (D.i (i2588 : Int)) :: dd 70 ([])))), nn 13 (some (OB.box [AV.d (D.i x2006.Origin), AV.d (D.l 2 Segment.toD x2006.Path), AV.d (D.b x2006.Next.V6), AV.d (D.u64 x2006.Next.Hi), AV.d (D.u64 x2006.Next.Lo), AV.d (D.i x2006.MED), AV.d (D.i x2006.Pref), AV.d (D.i x2006.OTC), AV.d (D.l 2 Community.toD x2006.Communities), AV.d (D.l 3 Large.toD x2006.Large), AV.d (D.l 3 Unknown.toD x2006.Other)]) :: nn 27 (some (OB.row 36 11 (List.map Attrs.toD ([{ v9 with OTC := v16 }, a0] : List Attrs)) false) :: nn 22 (some (OB.row 22 1 (List.map (D.l 1 D.i) ([([a1, a2] : List Int), ([v2340, v2344] : List Int), ([v2346, (i64w (1 + v2348))] : List Int)] : List (List Int))) false) :: nn 72 ([]))))⟩) ⟨rfl, And.intro (.refl _) (And.intro (.refl _) (And.intro (.refl _) (And.intro (.refl _) (And.intro (.refl _) (And.intro (.refl _) (And.intro (.refl _) (And.intro (.refl _) (And.intro (.refl _) True.intro)))))))), And.intro ⟨_, rfl, And.intro ⟨rfl, .refl _⟩ (And.intro ⟨rfl, .refl _⟩ (And.intro ⟨rfl, .refl _⟩ (And.intro ⟨rfl, .refl _⟩ (And.intro ⟨rfl, .refl _⟩ (And.intro ⟨rfl, .refl _⟩ (And.intro ⟨rfl, .refl _⟩ (And.intro ⟨rfl, .refl _⟩ (And.intro ⟨rfl, .refl _⟩ (And.intro ⟨rfl, .refl _⟩ (And.intro ⟨rfl, .refl _⟩ (True.intro)))))))))))⟩ (And.intro (.inl ⟨_, rfl, id⟩) (And.intro (.inl ⟨_, rfl, id⟩) (True.intro))), rfl⟩ ?_ ?_
            · rintro _ K2590 h
              conv => whnf
              refine .go ?_
              conv => whnf
              exact join_end (v := ()) ⟨rfl, And.intro (.refl _) (And.intro (.refl _) (And.intro (.refl _) (And.intro (.refl _) (And.intro (.refl _) True.intro)))), And.intro (.inl ⟨_, rfl, id⟩) (True.intro), rfl⟩ h
            · rintro next2592 i2588 x2589 _ K2590 hii2588 hxi2588 hwi2588 h hK2591
              conv => whnf
              refine .go ?_
              conv => whnf
              refine sel_t (lt_t hii2588) ?_
              conv => whnf
              refine .go ?_
              conv => whnf
              refine ⟨rfl, idx_b (f := (D.l 1 D.i)) hii2588, ?_⟩
              conv => whnf
              refine ⟨rfl, (D.l 1 D.i) x2589, hxi2588, ?_⟩
              conv => whnf
              refine dOB (by kernel_rfl) ?_
              conv => whnf
              replace h := bind_inv h; obtain ⟨v2631, g2632, h⟩ := h
              refine ⟨geti_b (f := D.i) g2632, D.i v2631, geti_d (f := D.i) g2632, rfl, ?_⟩
              conv => whnf
              replace h := bind_inv h; obtain ⟨v2633, g2634, h⟩ := h
              refine ⟨geti_b (f := D.i) g2634, D.i v2633, geti_d (f := D.i) g2634, rfl, ?_⟩
              conv => whnf
              replace h := bind_inv h; obtain ⟨⟨v2635, v2636⟩, g2637, h⟩ := h
              refine ⟨_, _, role_Receive_ok g2637, .inl rfl, ?_⟩
              conv => whnf
              refine cOB (by kernel_rfl) ?_
              conv => whnf
              refine dOB (by kernel_rfl) ?_
              conv => whnf
              replace h := bind_inv h; obtain ⟨v2638, g2639, h⟩ := h
              refine ⟨geti_b (f := D.i) g2639, D.i v2638, geti_d (f := D.i) g2639, rfl, ?_⟩
              conv => whnf
              replace h := bind_inv h; obtain ⟨v2640, g2641, h⟩ := h
              refine ⟨geti_b (f := D.i) g2641, D.i v2640, geti_d (f := D.i) g2641, rfl, ?_⟩
              conv => whnf
              replace h := bind_inv h; obtain ⟨⟨v2642, v2643⟩, g2644, h⟩ := h
              refine ⟨_, _, ref23_Receive_ok g2644, .inl rfl, ?_⟩
              conv => whnf
              refine cOB (by kernel_rfl) ?_
              conv => whnf
              refine dOB (by kernel_rfl) ?_
              conv => whnf
              replace h := bind_inv h; obtain ⟨v2645, g2646, h⟩ := h
              refine ⟨geti_b (f := D.i) g2646, D.i v2645, geti_d (f := D.i) g2646, rfl, ?_⟩
              conv => whnf
              replace h := bind_inv h; obtain ⟨v2647, g2648, h⟩ := h
              refine ⟨geti_b (f := D.i) g2648, D.i v2647, geti_d (f := D.i) g2648, rfl, ?_⟩
              conv => whnf
              replace h := bind_inv h; obtain ⟨⟨v2649, v2650⟩, g2651, h⟩ := h
              refine ⟨_, _, role_Send_ok g2651, .inl rfl, ?_⟩
              conv => whnf
              refine cOB (by kernel_rfl) ?_
              conv => whnf
              refine dOB (by kernel_rfl) ?_
              conv => whnf
              replace h := bind_inv h; obtain ⟨v2652, g2653, h⟩ := h
              refine ⟨geti_b (f := D.i) g2653, D.i v2652, geti_d (f := D.i) g2653, rfl, ?_⟩
              conv => whnf
              replace h := bind_inv h; obtain ⟨v2654, g2655, h⟩ := h
              refine ⟨geti_b (f := D.i) g2655, D.i v2654, geti_d (f := D.i) g2655, rfl, ?_⟩
              conv => whnf
              replace h := bind_inv h; obtain ⟨⟨v2656, v2657⟩, g2658, h⟩ := h
              refine ⟨_, _, ref23_Send_ok g2658, .inl rfl, ?_⟩
              conv => whnf
              refine cOB (by kernel_rfl) ?_
              conv => whnf
              revert h; refine cut_join (fun v2663 => ⟨X :: AV.d (D.i a1) :: AV.d (D.i a2) :: dd 10 (AV.ref 13 0 :: dd 27 (AV.own 41 (List.map Attrs.toD ([{ v9 with OTC := v16 }, a0] : List Attrs)).length :: AV.d (D.i (([{ v9 with OTC := v16 }, a0] : List Attrs).length : Int)) :: AV.d (D.i (i2005 : Int)) :: dd 20 (AV.own 64 (List.map (D.l 1 D.i) ([([a1, a2] : List Int), ([v2340, v2344] : List Int), ([v2346, (i64w (1 + v2348))] : List Int)] : List (List Int))).length :: AV.d (D.i (([([a1, a2] : List Int), ([v2340, v2344] : List Int), ([v2346, (i64w (1 + v2348))] : List Int)] : List (List Int)).length : Int)) :: AV.d (D.i (i2588 : Int)) :: dd 66 (AV.d (D.b v2663) :: X :: X :: X :: [])))), nn 13 (some (OB.box [AV.d (D.i x2006.Origin), AV.d (D.l 2 Segment.toD x2006.Path), AV.d (D.b x2006.Next.V6), AV.d (D.u64 x2006.Next.Hi), AV.d (D.u64 x2006.Next.Lo), AV.d (D.i x2006.MED), AV.d (D.i x2006.Pref), AV.d (D.i x2006.OTC), AV.d (D.l 2 Community.toD x2006.Communities), AV.d (D.l 3 Large.toD x2006.Large), AV.d (D.l 3 Unknown.toD x2006.Other)]) :: nn 27 (some (OB.row 36 11 (List.map Attrs.toD ([{ v9 with OTC := v16 }, a0] : List Attrs)) false) :: nn 22 (some (OB.row 22 1 (List.map (D.l 1 D.i) ([([a1, a2] : List Int), ([v2340, v2344] : List Int), ([v2346, (i64w (1 + v2348))] : List Int)] : List (List Int))) false) :: nn 72 ([]))))⟩) ?_ ?_
              · intro k2664 h
                conv => whnf
                revert h; refine sel_if ?_ ?_ <;> intro h
                · conv => whnf
                  exact join_end (v := true) ⟨rfl, And.intro (.refl _) (And.intro (.refl _) (And.intro (.refl _) (And.intro (.refl _) (And.intro (.refl _) (And.intro (.refl _) (And.intro (.refl _) (And.intro (.refl _) (And.intro (.refl _) (And.intro (.refl _) True.intro))))))))), And.intro ⟨_, rfl, And.intro ⟨rfl, .refl _⟩ (And.intro ⟨rfl, .refl _⟩ (And.intro ⟨rfl, .refl _⟩ (And.intro ⟨rfl, .refl _⟩ (And.intro ⟨rfl, .refl _⟩ (And.intro ⟨rfl, .refl _⟩ (And.intro ⟨rfl, .refl _⟩ (And.intro ⟨rfl, .refl _⟩ (And.intro ⟨rfl, .refl _⟩ (And.intro ⟨rfl, .refl _⟩ (And.intro ⟨rfl, .refl _⟩ (True.intro)))))))))))⟩ (And.intro (.inl ⟨_, rfl, id⟩) (And.intro (.inl ⟨_, rfl, id⟩) (True.intro))), rfl⟩ h
                · conv => whnf
                  revert h; refine sel_if ?_ ?_ <;> intro h
                  · conv => whnf
                    exact join_end (v := true) ⟨rfl, And.intro (.refl _) (And.intro (.refl _) (And.intro (.refl _) (And.intro (.refl _) (And.intro (.refl _) (And.intro (.refl _) (And.intro (.refl _) (And.intro (.refl _) (And.intro (.refl _) (And.intro (.refl _) True.intro))))))))), And.intro ⟨_, rfl, And.intro ⟨rfl, .refl _⟩ (And.intro ⟨rfl, .refl _⟩ (And.intro ⟨rfl, .refl _⟩ (And.intro ⟨rfl, .refl _⟩ (And.intro ⟨rfl, .refl _⟩ (And.intro ⟨rfl, .refl _⟩ (And.intro ⟨rfl, .refl _⟩ (And.intro ⟨rfl, .refl _⟩ (And.intro ⟨rfl, .refl _⟩ (And.intro ⟨rfl, .refl _⟩ (And.intro ⟨rfl, .refl _⟩ (True.intro)))))))))))⟩ (And.intro (.inl ⟨_, rfl, id⟩) (And.intro (.inl ⟨_, rfl, id⟩) (True.intro))), rfl⟩ h
                  · conv => whnf
                    replace h := bind_inv h; obtain ⟨v2665, g2666, h⟩ := h
                    refine ⟨_, _, ref23_SameAttrs_ok g2666, .inl rfl, ?_⟩
                    conv => whnf
                    revert h; refine sel_if ?_ ?_ <;> intro h
                    · conv => whnf
                      exact join_end (v := true) ⟨rfl, And.intro (.refl _) (And.intro (.refl _) (And.intro (.refl _) (And.intro (.refl _) (And.intro (.refl _) (And.intro (.refl _) (And.intro (.refl _) (And.intro (.refl _) (And.intro (.refl _) (And.intro (.refl _) True.intro))))))))), And.intro ⟨_, rfl, And.intro ⟨rfl, .refl _⟩ (And.intro ⟨rfl, .refl _⟩ (And.intro ⟨rfl, .refl _⟩ (And.intro ⟨rfl, .refl _⟩ (And.intro ⟨rfl, .refl _⟩ (And.intro ⟨rfl, .refl _⟩ (And.intro ⟨rfl, .refl _⟩ (And.intro ⟨rfl, .refl _⟩ (And.intro ⟨rfl, .refl _⟩ (And.intro ⟨rfl, .refl _⟩ (And.intro ⟨rfl, .refl _⟩ (True.intro)))))))))))⟩ (And.intro (.inl ⟨_, rfl, id⟩) (And.intro (.inl ⟨_, rfl, id⟩) (True.intro))), rfl⟩ h
                    · conv => whnf
                      replace h := bind_inv h; obtain ⟨v2667, g2668, h⟩ := h
                      refine ⟨_, _, ref23_SameAttrs_ok g2668, .inl rfl, ?_⟩
                      conv => whnf
                      exact join_end (v := (!v2667)) ⟨rfl, And.intro (.refl _) (And.intro (.refl _) (And.intro (.refl _) (And.intro (.refl _) (And.intro (.refl _) (And.intro (.refl _) (And.intro (.refl _) (And.intro (.refl _) (And.intro (.refl _) (And.intro (.refl _) True.intro))))))))), And.intro ⟨_, rfl, And.intro ⟨rfl, .refl _⟩ (And.intro ⟨rfl, .refl _⟩ (And.intro ⟨rfl, .refl _⟩ (And.intro ⟨rfl, .refl _⟩ (And.intro ⟨rfl, .refl _⟩ (And.intro ⟨rfl, .refl _⟩ (And.intro ⟨rfl, .refl _⟩ (And.intro ⟨rfl, .refl _⟩ (And.intro ⟨rfl, .refl _⟩ (And.intro ⟨rfl, .refl _⟩ (And.intro ⟨rfl, .refl _⟩ (True.intro)))))))))))⟩ (And.intro (.inl ⟨_, rfl, id⟩) (And.intro (.inl ⟨_, rfl, id⟩) (True.intro))), rfl⟩ h
              · rintro v2663 h
                conv => whnf
                refine .go ?_
                conv => whnf
                revert h; refine sel_if ?_ ?_ <;> intro h
                · conv => whnf
                  cases h
                  exact ⟨rfl, rfl⟩
                · conv => whnf
                  refine ⟨_, hwi2588, ?_⟩
                  conv => whnf
                  exact hK2591 _ () ⟨rfl, And.intro (.refl _) (And.intro (.refl _) (And.intro (.refl _) (And.intro (.refl _) (And.intro (.refl _) (And.intro (.refl _) (And.intro (.refl _) (And.intro (.refl _) (And.intro (.refl _) True.intro)))))))), And.intro ⟨_, rfl, And.intro ⟨rfl, .refl _⟩ (And.intro ⟨rfl, .refl _⟩ (And.intro ⟨rfl, .refl _⟩ (And.intro ⟨rfl, .refl _⟩ (And.intro ⟨rfl, .refl _⟩ (And.intro ⟨rfl, .refl _⟩ (And.intro ⟨rfl, .refl _⟩ (And.intro ⟨rfl, .refl _⟩ (And.intro ⟨rfl, .refl _⟩ (And.intro ⟨rfl, .refl _⟩ (And.intro ⟨rfl, .refl _⟩ (True.intro)))))))))))⟩ (And.intro (.inl ⟨_, rfl, id⟩) (And.intro (.inl ⟨_, rfl, id⟩) (True.intro))), rfl⟩ h
          · rintro _ h
            conv => whnf
            exact join_end (v := ()) ⟨rfl, And.intro (.refl _) (And.intro (.refl _) (And.intro (.refl _) (And.intro (.refl _) (And.intro (.refl _) True.intro)))), And.intro (.inl ⟨_, rfl, id⟩) (True.intro), rfl⟩ h
        · rintro _ h
          conv => whnf
          refine ⟨_, hwi2005, ?_⟩
          conv => whnf
          exact hK2008 _ () ⟨rfl, And.intro (.refl _) (And.intro (.refl _) (And.intro (.refl _) (And.intro (.refl _) (And.intro (.refl _) True.intro)))), And.intro (.inl ⟨_, rfl, id⟩) (True.intro), rfl⟩ h
    · rintro _ h
      conv => whnf
      replace h := bind_inv h; obtain ⟨v2669, g2670, h⟩ := h
      refine ⟨_, _, law23_awake_ok g2670, .inl rfl, ?_⟩
      conv => whnf
      cases h
      exact ⟨rfl, rfl⟩

theorem law23_hops_ok {a0 : Deck} {r : (List Hop) × Deck} (h : law23_hops a0 = some r) : CallsOK Try.prog 22 [.ref 0 0] [.box (Deck.av a0)] (.d (D.l 3 Hop.toD r.1)) [.box (Deck.av r.2)] := by
  refine ok Try.f22 (by kernel_rfl) (by kernel_rfl) ⟨rfl, ?_⟩
  unfold law23_hops at h
  conv => whnf
  replace h := bind_inv h; obtain ⟨⟨v1, v2⟩, g3, h⟩ := h
  refine ⟨_, _, mill_Deck_Next_ok g3, .inl rfl, ?_⟩
  conv => whnf
  refine ⟨_, rfl, ?_⟩
  conv => whnf
  replace h := bind_inv h; obtain ⟨⟨v4, v5⟩, g6, h⟩ := h
  refine ⟨_, _, mill_Deck_Next_ok g6, .inl rfl, ?_⟩
  conv => whnf
  revert h; refine cut_join (fun (v452, v453) => ⟨X :: X :: X :: AV.own 4 (List.map Hop.toD v453).length :: dd 55 ([]), some (OB.box [AV.d (D.l 1 D.i v452.L), AV.d (D.i v452.At)]) :: N :: N :: N :: some (OB.row 57 3 (List.map Hop.toD v453) false) :: nn 55 ([])⟩) ?_ ?_
  · intro k454 h
    conv => whnf
    revert h; refine loop_while (fun (v748, v749, v750, v751, v752) => ⟨AV.ref 0 0 :: X :: X :: AV.own 4 (List.map Hop.toD v752).length :: AV.d (D.i v748) :: AV.d (D.i v749) :: AV.d (D.i v750) :: dd 52 ([]), some (OB.box [AV.d (D.l 1 D.i v751.L), AV.d (D.i v751.At)]) :: N :: N :: N :: some (OB.row 57 3 (List.map Hop.toD v752) false) :: nn 55 ([])⟩) ⟨rfl, And.intro (.refl _) (And.intro (.refl _) (And.intro (.refl _) (And.intro (.refl _) (And.intro (.refl _) True.intro)))), And.intro ⟨_, rfl, And.intro ⟨rfl, .refl _⟩ (And.intro ⟨rfl, .refl _⟩ (True.intro))⟩ (And.intro (.inl ⟨_, rfl, id⟩) (True.intro)), rfl⟩ ?_
    rintro next755 ⟨v748, v749, v750, v751, v752⟩ K753 h hK754
    conv => whnf
    refine .go ?_
    conv => whnf
    revert h; refine sel_if ?_ ?_ <;> intro h
    · conv => whnf
      refine .go ?_
      conv => whnf
      replace h := bind_inv h; obtain ⟨⟨v828, v829⟩, g830, h⟩ := h
      refine ⟨_, _, mill_Deck_Next_ok g830, .inl rfl, ?_⟩
      conv => whnf
      refine ⟨_, rfl, ?_⟩
      conv => whnf
      replace h := bind_inv h; obtain ⟨⟨v831, v832⟩, g833, h⟩ := h
      refine ⟨_, _, mill_Deck_Next_ok g833, .inl rfl, ?_⟩
      conv => whnf
      refine ⟨_, rfl, ?_⟩
      conv => whnf
      refine ⟨_, rfl, ?_⟩
      conv => whnf
      refine dOB (by kernel_rfl) ?_
      conv => whnf
      refine ⟨rfl, ?_⟩
      conv => whnf
      refine ⟨rfl, ?_⟩
      conv => whnf
      refine ⟨rfl, ?_⟩
      conv => whnf
      replace h := bind_inv h; obtain ⟨v834, g835, h⟩ := h
      refine ⟨rfl, geti_b (f := (D.l 1 D.i)) g835, ?_⟩
      conv => whnf
      refine ⟨rfl, (D.l 1 D.i) v834, (geti_d (f := (D.l 1 D.i)) g835), ?_⟩
      conv => whnf
      replace h := bind_inv h; obtain ⟨⟨v836, v837⟩, g838, h⟩ := h
      refine ⟨_, _, mill_Deck_Next_ok g838, .inl rfl, ?_⟩
      conv => whnf
      replace h := bind_inv h; obtain ⟨v839, g840, h⟩ := h
      refine ⟨geti_b (f := D.i) g840, D.i v839, geti_d (f := D.i) g840, rfl, ?_⟩
      conv => whnf
      refine cOB (by kernel_rfl) ?_
      conv => whnf
      replace h := bind_inv h; obtain ⟨⟨v841, v842⟩, g843, h⟩ := h
      refine ⟨_, _, mill_Deck_Next_ok g843, .inl rfl, ?_⟩
      conv => whnf
      refine .go ?_
      conv => whnf
      revert h; refine cut_join (fun (v883, v884) => ⟨AV.ref 0 0 :: X :: X :: AV.own 4 (List.map Hop.toD v752).length :: X :: AV.d (D.i (if (i64w (v831 - 2)) > v749 then (i64w (v831 - 2)) else v749)) :: AV.d (D.i v750) :: AV.ref 8 0 :: dd 51 ([]), some (OB.box [AV.d (D.l 1 D.i v883.L), AV.d (D.i v883.At)]) :: N :: N :: N :: some (OB.row 57 3 (List.map Hop.toD v752) false) :: N :: N :: N :: some (OB.box [AV.d (D.i v884.From), AV.d (D.i v884.To), AV.d (D.i v884.Role)]) :: nn 51 ([])⟩) ?_ ?_
      · intro k885 h
        conv => whnf
        revert h; refine sel_if ?_ ?_ <;> intro h
        · conv => whnf
          replace h := bind_inv h; obtain ⟨⟨v886, v887⟩, g888, h⟩ := h
          refine ⟨_, _, mill_Deck_Next_ok g888, .inl rfl, ?_⟩
          conv => whnf
          refine ⟨_, rfl, ?_⟩
          conv => whnf
          exact join_end (v := (v887, (⟨v748, (i64w (1 + v828)), (i64w (v886 - 1))⟩ : Hop))) ⟨rfl, And.intro (.refl _) (And.intro (.refl _) (And.intro (.refl _) (And.intro (.refl _) (And.intro (.refl _) True.intro)))), And.intro ⟨_, rfl, And.intro ⟨rfl, .refl _⟩ (And.intro ⟨rfl, .refl _⟩ (True.intro))⟩ (And.intro (.inl ⟨_, rfl, id⟩) (And.intro ⟨_, rfl, And.intro ⟨rfl, .refl _⟩ (And.intro ⟨rfl, .refl _⟩ (And.intro ⟨rfl, .refl _⟩ (True.intro)))⟩ (True.intro))), rfl⟩ h
        · conv => whnf
          revert h; refine cut_join (fun (v892, v893) => ⟨AV.ref 0 0 :: X :: X :: AV.own 4 (List.map Hop.toD v752).length :: X :: AV.d (D.i (if (i64w (v831 - 2)) > v749 then (i64w (v831 - 2)) else v749)) :: AV.d (D.i v750) :: AV.ref 8 0 :: dd 51 ([]), some (OB.box [AV.d (D.l 1 D.i v892.L), AV.d (D.i v892.At)]) :: N :: N :: N :: some (OB.row 57 3 (List.map Hop.toD v752) false) :: N :: N :: N :: some (OB.box [AV.d (D.i v893), AV.d (D.i (i64w (1 + v828))), AV.d (D.i v839)]) :: nn 51 ([])⟩) ?_ ?_
          · intro k894 h
            conv => whnf
            revert h; refine sel_if ?_ ?_ <;> intro h
            · conv => whnf
              replace h := bind_inv h; obtain ⟨⟨v895, v896⟩, g897, h⟩ := h
              refine ⟨_, _, mill_Deck_Next_ok g897, .inl rfl, ?_⟩
              conv => whnf
              exact join_end (v := (v896, v895)) ⟨rfl, And.intro (.refl _) (And.intro (.refl _) (And.intro (.refl _) (And.intro (.refl _) (And.intro (.refl _) True.intro)))), And.intro ⟨_, rfl, And.intro ⟨rfl, .refl _⟩ (And.intro ⟨rfl, .refl _⟩ (True.intro))⟩ (And.intro (.inl ⟨_, rfl, id⟩) (And.intro ⟨_, rfl, And.intro ⟨rfl, .refl _⟩ (And.intro ⟨rfl, .refl _⟩ (And.intro ⟨rfl, .refl _⟩ (True.intro)))⟩ (True.intro))), rfl⟩ h
            · conv => whnf
              exact join_end (v := (v842, v748)) ⟨rfl, And.intro (.refl _) (And.intro (.refl _) (And.intro (.refl _) (And.intro (.refl _) (And.intro (.refl _) True.intro)))), And.intro ⟨_, rfl, And.intro ⟨rfl, .refl _⟩ (And.intro ⟨rfl, .refl _⟩ (True.intro))⟩ (And.intro (.inl ⟨_, rfl, id⟩) (And.intro ⟨_, rfl, And.intro ⟨rfl, .refl _⟩ (And.intro ⟨rfl, .refl _⟩ (And.intro ⟨rfl, .refl _⟩ (True.intro)))⟩ (True.intro))), rfl⟩ h
          · rintro ⟨v892, v893⟩ h
            conv => whnf
            exact join_end (v := (v892, (⟨v893, (i64w (1 + v828)), v839⟩ : Hop))) ⟨rfl, And.intro (.refl _) (And.intro (.refl _) (And.intro (.refl _) (And.intro (.refl _) (And.intro (.refl _) True.intro)))), And.intro ⟨_, rfl, And.intro ⟨rfl, .refl _⟩ (And.intro ⟨rfl, .refl _⟩ (True.intro))⟩ (And.intro (.inl ⟨_, rfl, id⟩) (And.intro ⟨_, rfl, And.intro ⟨rfl, .refl _⟩ (And.intro ⟨rfl, .refl _⟩ (And.intro ⟨rfl, .refl _⟩ (True.intro)))⟩ (True.intro))), rfl⟩ h
      · rintro ⟨v883, v884⟩ h
        conv => whnf
        refine ⟨rfl, ?_⟩
        conv => whnf
        replace h := bind_inv h; obtain ⟨v898, g899, h⟩ := h
        refine ⟨rfl, apnd_b (f := Hop.toD) (g := Hop.toD) g899, _, apnd_z (f := Hop.toD) g899, ?_⟩
        conv => whnf
        refine ⟨_, rfl, ?_⟩
        conv => whnf
        exact hK754 _ (v884.To, (if (i64w (v831 - 2)) > v749 then (i64w (v831 - 2)) else v749), (i64w (v750 - 1)), v883, v898) ⟨rfl, And.intro (.refl _) (And.intro (.refl _) (And.intro (.refl _) (And.intro (.refl _) (And.intro (.refl _) True.intro)))), And.intro ⟨_, rfl, And.intro ⟨rfl, .refl _⟩ (And.intro ⟨rfl, .refl _⟩ (True.intro))⟩ (And.intro (.inl ⟨_, rfl, id⟩) (True.intro)), rfl⟩ h
    · conv => whnf
      exact join_end (v := (v751, v752)) ⟨rfl, And.intro (.refl _) True.intro, And.intro ⟨_, rfl, And.intro ⟨rfl, .refl _⟩ (And.intro ⟨rfl, .refl _⟩ (True.intro))⟩ (And.intro (.inl ⟨_, rfl, id⟩) (True.intro)), rfl⟩ h
  · rintro ⟨v452, v453⟩ h
    conv => whnf
    refine ⟨rfl, ?_⟩
    conv => whnf
    cases h
    exact ⟨rfl, rfl⟩

theorem ref23_joined_ok {a0 : List Hop} {r : Bool} (h : ref23_joined a0 = some r) : CallsOK Try.prog 39 [AV.d (D.l 3 Hop.toD a0)] [] (.d (D.b r)) [] := by
  refine ok Try.f39 (by kernel_rfl) (by kernel_rfl) ⟨rfl, ?_⟩
  unfold ref23_joined at h
  conv => whnf
  refine ⟨a0.length, List.length_map _, ?_⟩
  conv => whnf
  revert h; refine cut_join (fun _ => ⟨dd 43 ([]), nn 43 ([])⟩) ?_ ?_
  · intro k48 h
    conv => whnf
    revert h; refine loop_for 5 3 Hop.toD rfl (fun i71 _ => ⟨AV.d (D.l 3 Hop.toD a0) :: dd 4 (AV.d (D.l 3 Hop.toD a0) :: AV.d (D.i (a0.length : Int)) :: AV.d (D.i (i71 : Int)) :: dd 35 ([])), nn 43 ([])⟩) ⟨rfl, And.intro (.refl _) (And.intro (.refl _) (And.intro (.refl _) (And.intro (.refl _) True.intro))), True.intro, rfl⟩ ?_ ?_
    · rintro _ K73 h
      conv => whnf
      refine .go ?_
      conv => whnf
      refine sel_f lt_f ?_
      conv => whnf
      exact join_end (v := ()) ⟨rfl, True.intro, True.intro, rfl⟩ h
    · rintro next75 i71 x72 _ K73 hii71 hxi71 hwi71 h hK74
      conv => whnf
      refine .go ?_
      conv => whnf
      refine sel_t (lt_t hii71) ?_
      conv => whnf
      refine .go ?_
      conv => whnf
      refine ⟨idx_b (f := Hop.toD) hii71, Hop.toD x72, hxi71, rfl, ?_⟩
      conv => whnf
      revert h; refine cut_join (fun v90 => ⟨AV.d (D.l 3 Hop.toD a0) :: dd 4 (AV.d (D.l 3 Hop.toD a0) :: AV.d (D.i (a0.length : Int)) :: AV.d (D.i (i71 : Int)) :: dd 33 (AV.d (D.b v90) :: X :: [])), nn 43 ([])⟩) ?_ ?_
      · intro k91 h
        conv => whnf
        refine dOB (by kernel_rfl) ?_
        conv => whnf
        replace h := bind_inv h; obtain ⟨v92, g93, h⟩ := h
        refine ⟨_, _, ref23_bad_ok g93, .inl rfl, ?_⟩
        conv => whnf
        revert h; refine sel_if ?_ ?_ <;> intro h
        · conv => whnf
          refine cOB (by kernel_rfl) ?_
          conv => whnf
          exact join_end (v := true) ⟨rfl, And.intro (.refl _) (And.intro (.refl _) (And.intro (.refl _) (And.intro (.refl _) (And.intro (.refl _) True.intro)))), True.intro, rfl⟩ h
        · conv => whnf
          revert h; refine sel_if ?_ ?_ <;> intro h
          · conv => whnf
            refine cOB (by kernel_rfl) ?_
            conv => whnf
            exact join_end (v := true) ⟨rfl, And.intro (.refl _) (And.intro (.refl _) (And.intro (.refl _) (And.intro (.refl _) (And.intro (.refl _) True.intro)))), True.intro, rfl⟩ h
          · conv => whnf
            revert h; refine sel_if ?_ ?_ <;> intro h
            · conv => whnf
              refine cOB (by kernel_rfl) ?_
              conv => whnf
              exact join_end (v := true) ⟨rfl, And.intro (.refl _) (And.intro (.refl _) (And.intro (.refl _) (And.intro (.refl _) (And.intro (.refl _) True.intro)))), True.intro, rfl⟩ h
            · conv => whnf
              revert h; refine sel_if ?_ ?_ <;> intro h
              · conv => whnf
                refine ⟨_, rfl, ?_⟩
                conv => whnf
                replace h := bind_inv h; obtain ⟨v94, g95, h⟩ := h
                refine ⟨geti_b (f := Hop.toD) g95, Hop.toD v94, geti_d (f := Hop.toD) g95, rfl, ?_⟩
                conv => whnf
                refine cOB (by kernel_rfl) ?_
                conv => whnf
                exact join_end (v := (v94.To != x72.From)) ⟨rfl, And.intro (.refl _) (And.intro (.refl _) (And.intro (.refl _) (And.intro (.refl _) (And.intro (.refl _) True.intro)))), True.intro, rfl⟩ h
              · conv => whnf
                refine cOB (by kernel_rfl) ?_
                conv => whnf
                exact join_end (v := false) ⟨rfl, And.intro (.refl _) (And.intro (.refl _) (And.intro (.refl _) (And.intro (.refl _) (And.intro (.refl _) True.intro)))), True.intro, rfl⟩ h
      · rintro v90 h
        conv => whnf
        refine .go ?_
        conv => whnf
        revert h; refine sel_if ?_ ?_ <;> intro h
        · conv => whnf
          cases h
          exact ⟨rfl, rfl⟩
        · conv => whnf
          refine ⟨_, hwi71, ?_⟩
          conv => whnf
          exact hK74 _ () ⟨rfl, And.intro (.refl _) (And.intro (.refl _) (And.intro (.refl _) (And.intro (.refl _) True.intro))), True.intro, rfl⟩ h
  · rintro _ h
    conv => whnf
    cases h
    exact ⟨rfl, rfl⟩

theorem ref23_Travels_ok {a0 : List Hop} {r : Bool} (h : ref23_Travels a0 = some r) : CallsOK Try.prog 24 [AV.d (D.l 3 Hop.toD a0)] [] (.d (D.b r)) [] := by
  refine ok Try.f24 (by kernel_rfl) (by kernel_rfl) ⟨rfl, ?_⟩
  unfold ref23_Travels at h
  conv => whnf
  refine ⟨a0.length, List.length_map _, ?_⟩
  conv => whnf
  revert h; refine cut_join (fun _ => ⟨AV.d (D.l 3 Hop.toD a0) :: dd 39 ([]), nn 40 ([])⟩) ?_ ?_
  · intro k60 h
    conv => whnf
    revert h; refine loop_for 8 3 Hop.toD rfl (fun i99 v98 => ⟨AV.d (D.l 3 Hop.toD a0) :: X :: X :: AV.ref 3 0 :: dd 4 (AV.d (D.l 3 Hop.toD a0) :: AV.d (D.i (a0.length : Int)) :: AV.d (D.i (i99 : Int)) :: dd 29 ([])), N :: N :: N :: some (OB.box [AV.d (D.i v98.Origin), AV.d (D.l 2 Segment.toD v98.Path), AV.d (D.b v98.Next.V6), AV.d (D.u64 v98.Next.Hi), AV.d (D.u64 v98.Next.Lo), AV.d (D.i v98.MED), AV.d (D.i v98.Pref), AV.d (D.i v98.OTC), AV.d (D.l 2 Community.toD v98.Communities), AV.d (D.l 3 Large.toD v98.Large), AV.d (D.l 3 Unknown.toD v98.Other)]) :: nn 36 ([])⟩) ⟨rfl, And.intro (.refl _) (And.intro (.refl _) (And.intro (.refl _) (And.intro (.refl _) (And.intro (.refl _) True.intro)))), And.intro ⟨_, rfl, And.intro ⟨rfl, .refl _⟩ (And.intro ⟨rfl, .norm _⟩ (And.intro ⟨rfl, .refl _⟩ (And.intro ⟨rfl, .refl _⟩ (And.intro ⟨rfl, .refl _⟩ (And.intro ⟨rfl, .refl _⟩ (And.intro ⟨rfl, .refl _⟩ (And.intro ⟨rfl, .refl _⟩ (And.intro ⟨rfl, .norm _⟩ (And.intro ⟨rfl, .norm _⟩ (And.intro ⟨rfl, .norm _⟩ (True.intro)))))))))))⟩ (True.intro), rfl⟩ ?_ ?_
    · rintro v98 K101 h
      conv => whnf
      refine .go ?_
      conv => whnf
      refine sel_f lt_f ?_
      conv => whnf
      exact join_end (v := ()) ⟨rfl, And.intro (.refl _) True.intro, True.intro, rfl⟩ h
    · rintro next103 i99 x100 v98 K101 hii99 hxi99 hwi99 h hK102
      conv => whnf
      refine .go ?_
      conv => whnf
      refine sel_t (lt_t hii99) ?_
      conv => whnf
      refine .go ?_
      conv => whnf
      refine ⟨idx_b (f := Hop.toD) hii99, Hop.toD x100, hxi99, rfl, ?_⟩
      conv => whnf
      replace h := bind_inv h; obtain ⟨⟨v112, v113⟩, g114, h⟩ := h
      refine ⟨_, _, ref23_Send_ok g114, .inl rfl, ?_⟩
      conv => whnf
      refine .go ?_
      conv => whnf
      revert h; refine sel_if ?_ ?_ <;> intro h
      · conv => whnf
        cases h
        exact ⟨rfl, rfl⟩
      · conv => whnf
        refine dOB (by kernel_rfl) ?_
        conv => whnf
        replace h := bind_inv h; obtain ⟨v115, g116, h⟩ := h
        refine ⟨_, _, ref23_Inverse_ok g116, .inl rfl, ?_⟩
        conv => whnf
        replace h := bind_inv h; obtain ⟨⟨v117, v118⟩, g119, h⟩ := h
        refine ⟨_, _, ref23_Receive_ok g119, .inl rfl, ?_⟩
        conv => whnf
        refine cOB (by kernel_rfl) ?_
        conv => whnf
        refine .go ?_
        conv => whnf
        revert h; refine sel_if ?_ ?_ <;> intro h
        · conv => whnf
          cases h
          exact ⟨rfl, rfl⟩
        · conv => whnf
          refine ⟨_, hwi99, ?_⟩
          conv => whnf
          exact hK102 _ v117 ⟨rfl, And.intro (.refl _) (And.intro (.refl _) (And.intro (.refl _) (And.intro (.refl _) (And.intro (.refl _) True.intro)))), And.intro ⟨_, rfl, And.intro ⟨rfl, .refl _⟩ (And.intro ⟨rfl, .refl _⟩ (And.intro ⟨rfl, .refl _⟩ (And.intro ⟨rfl, .refl _⟩ (And.intro ⟨rfl, .refl _⟩ (And.intro ⟨rfl, .refl _⟩ (And.intro ⟨rfl, .refl _⟩ (And.intro ⟨rfl, .refl _⟩ (And.intro ⟨rfl, .refl _⟩ (And.intro ⟨rfl, .refl _⟩ (And.intro ⟨rfl, .refl _⟩ (True.intro)))))))))))⟩ (True.intro), rfl⟩ h
  · rintro _ h
    conv => whnf
    replace h := bind_inv h; obtain ⟨v120, g121, h⟩ := h
    refine ⟨_, _, ref23_joined_ok g121, .inl rfl, ?_⟩
    conv => whnf
    cases h
    exact ⟨rfl, rfl⟩
end Go.AX.Q23
