/-
  The functions do what their plain forms say (proofs written by a program of mine), part 11.
-/
import Derived.Test.YtikcogmkchljaaaQ32P10
namespace Go.AX.Q32
open Go Go.AX Go.Proofs
set_option maxRecDepth 100000
set_option maxHeartbeats 4000000
set_option linter.unusedVariables false
theorem law32_SessionMeets_ok {a0 : List Int} {a1 : Int} {a2 : Int} {r : Bool} (h : law32_SessionMeets a0 a1 a2 = some r) : CallsOK Try.prog 7 [AV.d (D.l 1 D.i a0), AV.d (D.i a1), AV.d (D.i a2)] [] (.d (D.b r)) [] := by
  refine ok Try.f7 (by kernel_rfl) (by kernel_rfl) ⟨rfl, ?_⟩
  unfold law32_SessionMeets at h
  conv => whnf
  replace h := bind_inv h; obtain ⟨v1, g2, h⟩ := h
  refine ⟨_, _, mill_New_ok g2, .inr rfl, ?_⟩
  conv => whnf
  replace h := bind_inv h; obtain ⟨⟨v3, v4⟩, g5, h⟩ := h
  refine ⟨_, _, mill_Deck_Open_ok g5, .inl rfl, ?_⟩
  conv => whnf
  replace h := bind_inv h; obtain ⟨⟨v6, v7⟩, g8, h⟩ := h
  refine ⟨_, _, mill_Deck_Open_ok g8, .inl rfl, ?_⟩
  conv => whnf
  replace h := bind_inv h; obtain ⟨v9, g10, h⟩ := h
  refine ⟨_, _, mill_Mod_ok g10, .inl rfl, ?_⟩
  conv => whnf
  refine ⟨_, rfl, ?_⟩
  conv => whnf
  replace h := bind_inv h; obtain ⟨v11, g12, h⟩ := h
  refine ⟨_, _, mill_Mod_ok g12, .inl rfl, ?_⟩
  conv => whnf
  replace h := bind_inv h; obtain ⟨v13, g14, h⟩ := h
  refine ⟨_, _, law32_ref0_ok g14, .inl rfl, ?_⟩
  conv => whnf
  revert h; refine cut_join (fun v18 => ⟨X :: X :: AV.d (D.i a2) :: dd 5 (AV.ref 8 0 :: AV.ref 9 0 :: dd 153 ([])), nn 8 (some (OB.box [AV.d (D.i v3.ASN), AV.d (D.i v3.ID), AV.d (D.i v3.Hold), AV.d (D.i (i64w (v9 - 1))), AV.d (D.i v3.Grace), AV.d (D.b v3.Again)]) :: some (OB.box [AV.d (D.i v6.ASN), AV.d (D.i v6.ID), AV.d (D.i v6.Hold), AV.d (D.i v18), AV.d (D.i v6.Grace), AV.d (D.b v6.Again)]) :: nn 153 ([]))⟩) ?_ ?_
  · intro k19 h
    conv => whnf
    revert h; refine sel_if ?_ ?_ <;> intro h
    · conv => whnf
      replace h := bind_inv h; obtain ⟨⟨v20, v21⟩, g22, h⟩ := h
      refine ⟨_, _, mill_Deck_Next_ok g22, .inl rfl, ?_⟩
      conv => whnf
      refine ⟨_, rfl, ?_⟩
      conv => whnf
      exact join_end (v := (i64w (v20 - 1))) ⟨rfl, And.intro (.refl _) (And.intro (.refl _) (And.intro (.refl _) True.intro)), And.intro ⟨_, rfl, And.intro ⟨rfl, .refl _⟩ (And.intro ⟨rfl, .refl _⟩ (And.intro ⟨rfl, .refl _⟩ (And.intro ⟨rfl, .refl _⟩ (And.intro ⟨rfl, .refl _⟩ (And.intro ⟨rfl, .refl _⟩ (True.intro))))))⟩ (And.intro ⟨_, rfl, And.intro ⟨rfl, .refl _⟩ (And.intro ⟨rfl, .refl _⟩ (And.intro ⟨rfl, .refl _⟩ (And.intro ⟨rfl, .refl _⟩ (And.intro ⟨rfl, .refl _⟩ (And.intro ⟨rfl, .refl _⟩ (True.intro))))))⟩ (True.intro)), rfl⟩ h
    · conv => whnf
      exact join_end (v := v13) ⟨rfl, And.intro (.refl _) (And.intro (.refl _) (And.intro (.refl _) True.intro)), And.intro ⟨_, rfl, And.intro ⟨rfl, .refl _⟩ (And.intro ⟨rfl, .refl _⟩ (And.intro ⟨rfl, .refl _⟩ (And.intro ⟨rfl, .refl _⟩ (And.intro ⟨rfl, .refl _⟩ (And.intro ⟨rfl, .refl _⟩ (True.intro))))))⟩ (And.intro ⟨_, rfl, And.intro ⟨rfl, .refl _⟩ (And.intro ⟨rfl, .refl _⟩ (And.intro ⟨rfl, .refl _⟩ (And.intro ⟨rfl, .refl _⟩ (And.intro ⟨rfl, .refl _⟩ (And.intro ⟨rfl, .refl _⟩ (True.intro))))))⟩ (True.intro)), rfl⟩ h
  · rintro v18 h
    conv => whnf
    replace h := bind_inv h; obtain ⟨⟨v23, v24, v25⟩, g26, h⟩ := h
    refine ⟨_, _, session_Start_ok g26, .inl rfl, ?_⟩
    conv => whnf
    replace h := bind_inv h; obtain ⟨⟨v27, v28, v29⟩, g30, h⟩ := h
    refine ⟨_, _, session_Start_ok g30, .inl rfl, ?_⟩
    conv => whnf
    revert h; refine cut_join (fun v31 => ⟨X :: X :: AV.d (D.i a2) :: dd 7 (AV.ref 10 0 :: AV.d (D.l 2 Message.toD v24) :: X :: AV.ref 13 0 :: AV.d (D.l 2 Message.toD v28) :: dd 57 (AV.d (D.b v31) :: dd 90 ([]))), nn 10 (some (OB.box [AV.d (D.i v23.State), AV.d (D.i v23.Mine.ASN), AV.d (D.i v23.Mine.ID), AV.d (D.i v23.Mine.Hold), AV.d (D.i v23.Mine.Role), AV.d (D.i v23.Mine.Grace), AV.d (D.b v23.Mine.Again), AV.d (D.i v23.ASN), AV.d (D.i v23.Theirs.ASN), AV.d (D.i v23.Theirs.ID), AV.d (D.i v23.Theirs.Hold), AV.d (D.i v23.Theirs.Role), AV.d (D.i v23.Theirs.Grace), AV.d (D.b v23.Theirs.Again), AV.d (D.i v23.Sent), AV.d (D.i v23.Heard)]) :: N :: N :: some (OB.box [AV.d (D.i v27.State), AV.d (D.i v27.Mine.ASN), AV.d (D.i v27.Mine.ID), AV.d (D.i v27.Mine.Hold), AV.d (D.i v27.Mine.Role), AV.d (D.i v27.Mine.Grace), AV.d (D.b v27.Mine.Again), AV.d (D.i v27.ASN), AV.d (D.i v27.Theirs.ASN), AV.d (D.i v27.Theirs.ID), AV.d (D.i v27.Theirs.Hold), AV.d (D.i v27.Theirs.Role), AV.d (D.i v27.Theirs.Grace), AV.d (D.b v27.Theirs.Again), AV.d (D.i v27.Sent), AV.d (D.i v27.Heard)]) :: nn 149 ([]))⟩) ?_ ?_
    · intro k32 h
      conv => whnf
      revert h; refine sel_if ?_ ?_ <;> intro h
      · conv => whnf
        exact join_end (v := true) ⟨rfl, And.intro (.refl _) (And.intro (.refl _) (And.intro (.refl _) (And.intro (.refl _) (And.intro (.refl _) (And.intro (.refl _) True.intro))))), And.intro ⟨_, rfl, And.intro ⟨rfl, .refl _⟩ (And.intro ⟨rfl, .refl _⟩ (And.intro ⟨rfl, .refl _⟩ (And.intro ⟨rfl, .refl _⟩ (And.intro ⟨rfl, .refl _⟩ (And.intro ⟨rfl, .refl _⟩ (And.intro ⟨rfl, .refl _⟩ (And.intro ⟨rfl, .refl _⟩ (And.intro ⟨rfl, .refl _⟩ (And.intro ⟨rfl, .refl _⟩ (And.intro ⟨rfl, .refl _⟩ (And.intro ⟨rfl, .refl _⟩ (And.intro ⟨rfl, .refl _⟩ (And.intro ⟨rfl, .refl _⟩ (And.intro ⟨rfl, .refl _⟩ (And.intro ⟨rfl, .refl _⟩ (True.intro))))))))))))))))⟩ (And.intro ⟨_, rfl, And.intro ⟨rfl, .refl _⟩ (And.intro ⟨rfl, .refl _⟩ (And.intro ⟨rfl, .refl _⟩ (And.intro ⟨rfl, .refl _⟩ (And.intro ⟨rfl, .refl _⟩ (And.intro ⟨rfl, .refl _⟩ (And.intro ⟨rfl, .refl _⟩ (And.intro ⟨rfl, .refl _⟩ (And.intro ⟨rfl, .refl _⟩ (And.intro ⟨rfl, .refl _⟩ (And.intro ⟨rfl, .refl _⟩ (And.intro ⟨rfl, .refl _⟩ (And.intro ⟨rfl, .refl _⟩ (And.intro ⟨rfl, .refl _⟩ (And.intro ⟨rfl, .refl _⟩ (And.intro ⟨rfl, .refl _⟩ (True.intro))))))))))))))))⟩ (True.intro)), rfl⟩ h
      · conv => whnf
        exact join_end (v := (v29 != 0)) ⟨rfl, And.intro (.refl _) (And.intro (.refl _) (And.intro (.refl _) (And.intro (.refl _) (And.intro (.refl _) (And.intro (.refl _) True.intro))))), And.intro ⟨_, rfl, And.intro ⟨rfl, .refl _⟩ (And.intro ⟨rfl, .refl _⟩ (And.intro ⟨rfl, .refl _⟩ (And.intro ⟨rfl, .refl _⟩ (And.intro ⟨rfl, .refl _⟩ (And.intro ⟨rfl, .refl _⟩ (And.intro ⟨rfl, .refl _⟩ (And.intro ⟨rfl, .refl _⟩ (And.intro ⟨rfl, .refl _⟩ (And.intro ⟨rfl, .refl _⟩ (And.intro ⟨rfl, .refl _⟩ (And.intro ⟨rfl, .refl _⟩ (And.intro ⟨rfl, .refl _⟩ (And.intro ⟨rfl, .refl _⟩ (And.intro ⟨rfl, .refl _⟩ (And.intro ⟨rfl, .refl _⟩ (True.intro))))))))))))))))⟩ (And.intro ⟨_, rfl, And.intro ⟨rfl, .refl _⟩ (And.intro ⟨rfl, .refl _⟩ (And.intro ⟨rfl, .refl _⟩ (And.intro ⟨rfl, .refl _⟩ (And.intro ⟨rfl, .refl _⟩ (And.intro ⟨rfl, .refl _⟩ (And.intro ⟨rfl, .refl _⟩ (And.intro ⟨rfl, .refl _⟩ (And.intro ⟨rfl, .refl _⟩ (And.intro ⟨rfl, .refl _⟩ (And.intro ⟨rfl, .refl _⟩ (And.intro ⟨rfl, .refl _⟩ (And.intro ⟨rfl, .refl _⟩ (And.intro ⟨rfl, .refl _⟩ (And.intro ⟨rfl, .refl _⟩ (And.intro ⟨rfl, .refl _⟩ (True.intro))))))))))))))))⟩ (True.intro)), rfl⟩ h
    · rintro v31 h
      conv => whnf
      refine .go ?_
      conv => whnf
      revert h; refine sel_if ?_ ?_ <;> intro h
      · conv => whnf
        cases h
        exact ⟨rfl, rfl⟩
      · conv => whnf
        revert h; refine cut_join (fun _ => ⟨dd 163 ([]), nn 163 ([])⟩) ?_ ?_
        · intro k1401 h
          conv => whnf
          revert h; refine loop_while (fun (v2310, v2311, v2312, v2313, v2314, v2315) => ⟨X :: X :: AV.d (D.i a2) :: dd 7 (AV.ref 10 0 :: AV.d (D.l 2 Message.toD v2310) :: X :: AV.ref 13 0 :: AV.d (D.l 2 Message.toD v2311) :: X :: AV.d (D.i v2312) :: AV.d (D.i v2313) :: dd 145 ([])), nn 10 (some (OB.box [AV.d (D.i v2314.State), AV.d (D.i v2314.Mine.ASN), AV.d (D.i v2314.Mine.ID), AV.d (D.i v2314.Mine.Hold), AV.d (D.i v2314.Mine.Role), AV.d (D.i v2314.Mine.Grace), AV.d (D.b v2314.Mine.Again), AV.d (D.i v2314.ASN), AV.d (D.i v2314.Theirs.ASN), AV.d (D.i v2314.Theirs.ID), AV.d (D.i v2314.Theirs.Hold), AV.d (D.i v2314.Theirs.Role), AV.d (D.i v2314.Theirs.Grace), AV.d (D.b v2314.Theirs.Again), AV.d (D.i v2314.Sent), AV.d (D.i v2314.Heard)]) :: N :: N :: some (OB.box [AV.d (D.i v2315.State), AV.d (D.i v2315.Mine.ASN), AV.d (D.i v2315.Mine.ID), AV.d (D.i v2315.Mine.Hold), AV.d (D.i v2315.Mine.Role), AV.d (D.i v2315.Mine.Grace), AV.d (D.b v2315.Mine.Again), AV.d (D.i v2315.ASN), AV.d (D.i v2315.Theirs.ASN), AV.d (D.i v2315.Theirs.ID), AV.d (D.i v2315.Theirs.Hold), AV.d (D.i v2315.Theirs.Role), AV.d (D.i v2315.Theirs.Grace), AV.d (D.b v2315.Theirs.Again), AV.d (D.i v2315.Sent), AV.d (D.i v2315.Heard)]) :: nn 149 ([]))⟩) ⟨rfl, And.intro (.refl _) (And.intro (.refl _) (And.intro (.refl _) (And.intro (.refl _) (And.intro (.refl _) (And.intro (.refl _) (And.intro (.refl _) True.intro)))))), And.intro ⟨_, rfl, And.intro ⟨rfl, .refl _⟩ (And.intro ⟨rfl, .refl _⟩ (And.intro ⟨rfl, .refl _⟩ (And.intro ⟨rfl, .refl _⟩ (And.intro ⟨rfl, .refl _⟩ (And.intro ⟨rfl, .refl _⟩ (And.intro ⟨rfl, .refl _⟩ (And.intro ⟨rfl, .refl _⟩ (And.intro ⟨rfl, .refl _⟩ (And.intro ⟨rfl, .refl _⟩ (And.intro ⟨rfl, .refl _⟩ (And.intro ⟨rfl, .refl _⟩ (And.intro ⟨rfl, .refl _⟩ (And.intro ⟨rfl, .refl _⟩ (And.intro ⟨rfl, .refl _⟩ (And.intro ⟨rfl, .refl _⟩ (True.intro))))))))))))))))⟩ (And.intro ⟨_, rfl, And.intro ⟨rfl, .refl _⟩ (And.intro ⟨rfl, .refl _⟩ (And.intro ⟨rfl, .refl _⟩ (And.intro ⟨rfl, .refl _⟩ (And.intro ⟨rfl, .refl _⟩ (And.intro ⟨rfl, .refl _⟩ (And.intro ⟨rfl, .refl _⟩ (And.intro ⟨rfl, .refl _⟩ (And.intro ⟨rfl, .refl _⟩ (And.intro ⟨rfl, .refl _⟩ (And.intro ⟨rfl, .refl _⟩ (And.intro ⟨rfl, .refl _⟩ (And.intro ⟨rfl, .refl _⟩ (And.intro ⟨rfl, .refl _⟩ (And.intro ⟨rfl, .refl _⟩ (And.intro ⟨rfl, .refl _⟩ (True.intro))))))))))))))))⟩ (True.intro)), rfl⟩ ?_
          rintro next2318 ⟨v2310, v2311, v2312, v2313, v2314, v2315⟩ K2316 h hK2317
          conv => whnf
          replace h := bind_inv h; obtain ⟨v2319, g2320, h⟩ := h
          refine ⟨_, _, mill_Mod_ok g2320, .inl rfl, ?_⟩
          conv => whnf
          refine ⟨_, rfl, ?_⟩
          conv => whnf
          refine .go ?_
          conv => whnf
          revert h; refine sel_if ?_ ?_ <;> intro h
          · conv => whnf
            revert h; refine cut_join (fun (v2543, v2544, v2545, v2546) => ⟨X :: X :: AV.d (D.i a2) :: dd 7 (AV.ref 10 0 :: AV.own 18 (List.map Message.toD v2544).length :: X :: AV.ref 13 0 :: AV.own 19 (List.map Message.toD v2546).length :: X :: AV.d (D.i (i64w (v2312 + 1))) :: AV.d (D.i v2313) :: dd 145 ([])), nn 10 (some (OB.box [AV.d (D.i v2543.State), AV.d (D.i v2543.Mine.ASN), AV.d (D.i v2543.Mine.ID), AV.d (D.i v2543.Mine.Hold), AV.d (D.i v2543.Mine.Role), AV.d (D.i v2543.Mine.Grace), AV.d (D.b v2543.Mine.Again), AV.d (D.i v2543.ASN), AV.d (D.i v2543.Theirs.ASN), AV.d (D.i v2543.Theirs.ID), AV.d (D.i v2543.Theirs.Hold), AV.d (D.i v2543.Theirs.Role), AV.d (D.i v2543.Theirs.Grace), AV.d (D.b v2543.Theirs.Again), AV.d (D.i v2543.Sent), AV.d (D.i v2543.Heard)]) :: N :: N :: some (OB.box [AV.d (D.i v2545.State), AV.d (D.i v2545.Mine.ASN), AV.d (D.i v2545.Mine.ID), AV.d (D.i v2545.Mine.Hold), AV.d (D.i v2545.Mine.Role), AV.d (D.i v2545.Mine.Grace), AV.d (D.b v2545.Mine.Again), AV.d (D.i v2545.ASN), AV.d (D.i v2545.Theirs.ASN), AV.d (D.i v2545.Theirs.ID), AV.d (D.i v2545.Theirs.Hold), AV.d (D.i v2545.Theirs.Role), AV.d (D.i v2545.Theirs.Grace), AV.d (D.b v2545.Theirs.Again), AV.d (D.i v2545.Sent), AV.d (D.i v2545.Heard)]) :: nn 4 (some (OB.row 37 2 (List.map Message.toD v2544) false) :: some (OB.row 37 2 (List.map Message.toD v2546) false) :: nn 143 ([])))⟩) ?_ ?_
            · intro k2547 h
              conv => whnf
              refine ⟨v2310.length, List.length_map _, ?_⟩
              conv => whnf
              revert h; refine cut_join (fun (v2597, v2598) => ⟨X :: X :: AV.d (D.i a2) :: dd 7 (AV.ref 10 0 :: X :: X :: AV.ref 13 0 :: AV.d (D.l 2 Message.toD v2311) :: X :: AV.d (D.i v2312) :: AV.d (D.i v2313) :: AV.own 18 (List.map Message.toD []).length :: AV.own 19 (List.map Message.toD v2598).length :: dd 143 ([])), nn 10 (some (OB.box [AV.d (D.i v2314.State), AV.d (D.i v2314.Mine.ASN), AV.d (D.i v2314.Mine.ID), AV.d (D.i v2314.Mine.Hold), AV.d (D.i v2314.Mine.Role), AV.d (D.i v2314.Mine.Grace), AV.d (D.b v2314.Mine.Again), AV.d (D.i v2314.ASN), AV.d (D.i v2314.Theirs.ASN), AV.d (D.i v2314.Theirs.ID), AV.d (D.i v2314.Theirs.Hold), AV.d (D.i v2314.Theirs.Role), AV.d (D.i v2314.Theirs.Grace), AV.d (D.b v2314.Theirs.Again), AV.d (D.i v2314.Sent), AV.d (D.i v2314.Heard)]) :: N :: N :: some (OB.box [AV.d (D.i v2597.State), AV.d (D.i v2597.Mine.ASN), AV.d (D.i v2597.Mine.ID), AV.d (D.i v2597.Mine.Hold), AV.d (D.i v2597.Mine.Role), AV.d (D.i v2597.Mine.Grace), AV.d (D.b v2597.Mine.Again), AV.d (D.i v2597.ASN), AV.d (D.i v2597.Theirs.ASN), AV.d (D.i v2597.Theirs.ID), AV.d (D.i v2597.Theirs.Hold), AV.d (D.i v2597.Theirs.Role), AV.d (D.i v2597.Theirs.Grace), AV.d (D.b v2597.Theirs.Again), AV.d (D.i v2597.Sent), AV.d (D.i v2597.Heard)]) :: nn 4 (some (OB.row 37 2 (List.map Message.toD []) false) :: some (OB.row 37 2 (List.map Message.toD v2598) false) :: nn 143 ([])))⟩) ?_ ?_
              · intro k2599 h
                conv => whnf
                revert h; refine loop_for 80 2 Message.toD rfl (fun i2632 (v2630, v2631) => ⟨X :: X :: AV.d (D.i a2) :: dd 7 (AV.ref 10 0 :: X :: X :: AV.ref 13 0 :: AV.d (D.l 2 Message.toD v2311) :: X :: AV.d (D.i v2312) :: AV.d (D.i v2313) :: AV.own 18 (List.map Message.toD []).length :: AV.own 19 (List.map Message.toD v2631).length :: dd 60 (AV.d (D.l 2 Message.toD v2310) :: AV.d (D.i (v2310.length : Int)) :: AV.d (D.i (i2632 : Int)) :: dd 80 ([]))), nn 10 (some (OB.box [AV.d (D.i v2314.State), AV.d (D.i v2314.Mine.ASN), AV.d (D.i v2314.Mine.ID), AV.d (D.i v2314.Mine.Hold), AV.d (D.i v2314.Mine.Role), AV.d (D.i v2314.Mine.Grace), AV.d (D.b v2314.Mine.Again), AV.d (D.i v2314.ASN), AV.d (D.i v2314.Theirs.ASN), AV.d (D.i v2314.Theirs.ID), AV.d (D.i v2314.Theirs.Hold), AV.d (D.i v2314.Theirs.Role), AV.d (D.i v2314.Theirs.Grace), AV.d (D.b v2314.Theirs.Again), AV.d (D.i v2314.Sent), AV.d (D.i v2314.Heard)]) :: N :: N :: some (OB.box [AV.d (D.i v2630.State), AV.d (D.i v2630.Mine.ASN), AV.d (D.i v2630.Mine.ID), AV.d (D.i v2630.Mine.Hold), AV.d (D.i v2630.Mine.Role), AV.d (D.i v2630.Mine.Grace), AV.d (D.b v2630.Mine.Again), AV.d (D.i v2630.ASN), AV.d (D.i v2630.Theirs.ASN), AV.d (D.i v2630.Theirs.ID), AV.d (D.i v2630.Theirs.Hold), AV.d (D.i v2630.Theirs.Role), AV.d (D.i v2630.Theirs.Grace), AV.d (D.b v2630.Theirs.Again), AV.d (D.i v2630.Sent), AV.d (D.i v2630.Heard)]) :: nn 4 (some (OB.row 37 2 (List.map Message.toD []) false) :: some (OB.row 37 2 (List.map Message.toD v2631) false) :: nn 143 ([])))⟩) ⟨rfl, And.intro (.refl _) (And.intro (.refl _) (And.intro (.refl _) (And.intro (.refl _) (And.intro (.refl _) (And.intro (.refl _) (And.intro (.refl _) (And.intro (.refl _) (And.intro (.refl _) (And.intro (.refl _) (And.intro (.refl _) True.intro)))))))))), And.intro ⟨_, rfl, And.intro ⟨rfl, .refl _⟩ (And.intro ⟨rfl, .refl _⟩ (And.intro ⟨rfl, .refl _⟩ (And.intro ⟨rfl, .refl _⟩ (And.intro ⟨rfl, .refl _⟩ (And.intro ⟨rfl, .refl _⟩ (And.intro ⟨rfl, .refl _⟩ (And.intro ⟨rfl, .refl _⟩ (And.intro ⟨rfl, .refl _⟩ (And.intro ⟨rfl, .refl _⟩ (And.intro ⟨rfl, .refl _⟩ (And.intro ⟨rfl, .refl _⟩ (And.intro ⟨rfl, .refl _⟩ (And.intro ⟨rfl, .refl _⟩ (And.intro ⟨rfl, .refl _⟩ (And.intro ⟨rfl, .refl _⟩ (True.intro))))))))))))))))⟩ (And.intro ⟨_, rfl, And.intro ⟨rfl, .refl _⟩ (And.intro ⟨rfl, .refl _⟩ (And.intro ⟨rfl, .refl _⟩ (And.intro ⟨rfl, .refl _⟩ (And.intro ⟨rfl, .refl _⟩ (And.intro ⟨rfl, .refl _⟩ (And.intro ⟨rfl, .refl _⟩ (And.intro ⟨rfl, .refl _⟩ (And.intro ⟨rfl, .refl _⟩ (And.intro ⟨rfl, .refl _⟩ (And.intro ⟨rfl, .refl _⟩ (And.intro ⟨rfl, .refl _⟩ (And.intro ⟨rfl, .refl _⟩ (And.intro ⟨rfl, .refl _⟩ (And.intro ⟨rfl, .refl _⟩ (And.intro ⟨rfl, .refl _⟩ (True.intro))))))))))))))))⟩ (And.intro (.inl ⟨_, rfl, id⟩) (And.intro (.inl ⟨_, rfl, id⟩) (True.intro)))), rfl⟩ ?_ ?_
                · rintro ⟨v2630, v2631⟩ K2634 h
                  conv => whnf
                  refine .go ?_
                  conv => whnf
                  refine sel_f lt_f ?_
                  conv => whnf
                  exact join_end (v := (v2630, v2631)) ⟨rfl, And.intro (.refl _) (And.intro (.refl _) (And.intro (.refl _) (And.intro (.refl _) (And.intro (.refl _) (And.intro (.refl _) (And.intro (.refl _) (And.intro (.refl _) True.intro))))))), And.intro ⟨_, rfl, And.intro ⟨rfl, .refl _⟩ (And.intro ⟨rfl, .refl _⟩ (And.intro ⟨rfl, .refl _⟩ (And.intro ⟨rfl, .refl _⟩ (And.intro ⟨rfl, .refl _⟩ (And.intro ⟨rfl, .refl _⟩ (And.intro ⟨rfl, .refl _⟩ (And.intro ⟨rfl, .refl _⟩ (And.intro ⟨rfl, .refl _⟩ (And.intro ⟨rfl, .refl _⟩ (And.intro ⟨rfl, .refl _⟩ (And.intro ⟨rfl, .refl _⟩ (And.intro ⟨rfl, .refl _⟩ (And.intro ⟨rfl, .refl _⟩ (And.intro ⟨rfl, .refl _⟩ (And.intro ⟨rfl, .refl _⟩ (True.intro))))))))))))))))⟩ (And.intro ⟨_, rfl, And.intro ⟨rfl, .refl _⟩ (And.intro ⟨rfl, .refl _⟩ (And.intro ⟨rfl, .refl _⟩ (And.intro ⟨rfl, .refl _⟩ (And.intro ⟨rfl, .refl _⟩ (And.intro ⟨rfl, .refl _⟩ (And.intro ⟨rfl, .refl _⟩ (And.intro ⟨rfl, .refl _⟩ (And.intro ⟨rfl, .refl _⟩ (And.intro ⟨rfl, .refl _⟩ (And.intro ⟨rfl, .refl _⟩ (And.intro ⟨rfl, .refl _⟩ (And.intro ⟨rfl, .refl _⟩ (And.intro ⟨rfl, .refl _⟩ (And.intro ⟨rfl, .refl _⟩ (And.intro ⟨rfl, .refl _⟩ (True.intro))))))))))))))))⟩ (And.intro (.inl ⟨_, rfl, id⟩) (And.intro (.inl ⟨_, rfl, id⟩) (True.intro)))), rfl⟩ h
                · rintro next2636 i2632 x2633 ⟨v2630, v2631⟩ K2634 hii2632 hxi2632 hwi2632 h hK2635
                  conv => whnf
                  refine .go ?_
                  conv => whnf
                  refine sel_t (lt_t hii2632) ?_
                  conv => whnf
                  refine .go ?_
                  conv => whnf
                  refine ⟨idx_b (f := Message.toD) hii2632, Message.toD x2633, hxi2632, rfl, ?_⟩
                  conv => whnf
                  replace h := bind_inv h; obtain ⟨⟨v2643, v2644, v2645⟩, g2646, h⟩ := h
                  refine ⟨_, _, session_Receive_ok g2646, .inl rfl, ?_⟩
                  conv => whnf
                  refine .go ?_
                  conv => whnf
                  revert h; refine sel_if ?_ ?_ <;> intro h
                  · conv => whnf
                    cases h
                    exact ⟨rfl, rfl⟩
                  · conv => whnf
                    refine dOB (by kernel_rfl) ?_
                    conv => whnf
                    replace h := bind_inv h; obtain ⟨v2647, g2648, h⟩ := h
                    refine ⟨rfl, apnd_b (f := Message.toD) (g := Message.toD) g2648, _, apnd_z (f := Message.toD) g2648, ?_⟩
                    conv => whnf
                    refine cOB (by kernel_rfl) ?_
                    conv => whnf
                    refine ⟨_, hwi2632, ?_⟩
                    conv => whnf
                    exact hK2635 _ (v2643, v2647) ⟨rfl, And.intro (.refl _) (And.intro (.refl _) (And.intro (.refl _) (And.intro (.refl _) (And.intro (.refl _) (And.intro (.refl _) (And.intro (.refl _) (And.intro (.refl _) (And.intro (.refl _) (And.intro (.refl _) (And.intro (.refl _) True.intro)))))))))), And.intro ⟨_, rfl, And.intro ⟨rfl, .refl _⟩ (And.intro ⟨rfl, .refl _⟩ (And.intro ⟨rfl, .refl _⟩ (And.intro ⟨rfl, .refl _⟩ (And.intro ⟨rfl, .refl _⟩ (And.intro ⟨rfl, .refl _⟩ (And.intro ⟨rfl, .refl _⟩ (And.intro ⟨rfl, .refl _⟩ (And.intro ⟨rfl, .refl _⟩ (And.intro ⟨rfl, .refl _⟩ (And.intro ⟨rfl, .refl _⟩ (And.intro ⟨rfl, .refl _⟩ (And.intro ⟨rfl, .refl _⟩ (And.intro ⟨rfl, .refl _⟩ (And.intro ⟨rfl, .refl _⟩ (And.intro ⟨rfl, .refl _⟩ (True.intro))))))))))))))))⟩ (And.intro ⟨_, rfl, And.intro ⟨rfl, .refl _⟩ (And.intro ⟨rfl, .refl _⟩ (And.intro ⟨rfl, .refl _⟩ (And.intro ⟨rfl, .refl _⟩ (And.intro ⟨rfl, .refl _⟩ (And.intro ⟨rfl, .refl _⟩ (And.intro ⟨rfl, .refl _⟩ (And.intro ⟨rfl, .refl _⟩ (And.intro ⟨rfl, .refl _⟩ (And.intro ⟨rfl, .refl _⟩ (And.intro ⟨rfl, .refl _⟩ (And.intro ⟨rfl, .refl _⟩ (And.intro ⟨rfl, .refl _⟩ (And.intro ⟨rfl, .refl _⟩ (And.intro ⟨rfl, .refl _⟩ (And.intro ⟨rfl, .refl _⟩ (True.intro))))))))))))))))⟩ (And.intro (.inl ⟨_, rfl, id⟩) (And.intro (.inl ⟨_, rfl, id⟩) (True.intro)))), rfl⟩ h
              · rintro ⟨v2597, v2598⟩ h
                conv => whnf
                refine ⟨v2311.length, List.length_map _, ?_⟩
                conv => whnf
                revert h; refine cut_join (fun (v2698, v2699) => ⟨X :: X :: AV.d (D.i a2) :: dd 7 (AV.ref 10 0 :: X :: X :: AV.ref 13 0 :: X :: X :: AV.d (D.i v2312) :: AV.d (D.i v2313) :: AV.own 18 (List.map Message.toD v2699).length :: AV.own 19 (List.map Message.toD v2598).length :: dd 143 ([])), nn 10 (some (OB.box [AV.d (D.i v2698.State), AV.d (D.i v2698.Mine.ASN), AV.d (D.i v2698.Mine.ID), AV.d (D.i v2698.Mine.Hold), AV.d (D.i v2698.Mine.Role), AV.d (D.i v2698.Mine.Grace), AV.d (D.b v2698.Mine.Again), AV.d (D.i v2698.ASN), AV.d (D.i v2698.Theirs.ASN), AV.d (D.i v2698.Theirs.ID), AV.d (D.i v2698.Theirs.Hold), AV.d (D.i v2698.Theirs.Role), AV.d (D.i v2698.Theirs.Grace), AV.d (D.b v2698.Theirs.Again), AV.d (D.i v2698.Sent), AV.d (D.i v2698.Heard)]) :: N :: N :: some (OB.box [AV.d (D.i v2597.State), AV.d (D.i v2597.Mine.ASN), AV.d (D.i v2597.Mine.ID), AV.d (D.i v2597.Mine.Hold), AV.d (D.i v2597.Mine.Role), AV.d (D.i v2597.Mine.Grace), AV.d (D.b v2597.Mine.Again), AV.d (D.i v2597.ASN), AV.d (D.i v2597.Theirs.ASN), AV.d (D.i v2597.Theirs.ID), AV.d (D.i v2597.Theirs.Hold), AV.d (D.i v2597.Theirs.Role), AV.d (D.i v2597.Theirs.Grace), AV.d (D.b v2597.Theirs.Again), AV.d (D.i v2597.Sent), AV.d (D.i v2597.Heard)]) :: nn 4 (some (OB.row 37 2 (List.map Message.toD v2699) false) :: some (OB.row 37 2 (List.map Message.toD v2598) false) :: nn 143 ([])))⟩) ?_ ?_
                · intro k2700 h
                  conv => whnf
                  revert h; refine loop_for 101 2 Message.toD rfl (fun i2733 (v2731, v2732) => ⟨X :: X :: AV.d (D.i a2) :: dd 7 (AV.ref 10 0 :: X :: X :: AV.ref 13 0 :: X :: X :: AV.d (D.i v2312) :: AV.d (D.i v2313) :: AV.own 18 (List.map Message.toD v2732).length :: AV.own 19 (List.map Message.toD v2598).length :: dd 81 (AV.d (D.l 2 Message.toD v2311) :: AV.d (D.i (v2311.length : Int)) :: AV.d (D.i (i2733 : Int)) :: dd 59 ([]))), nn 10 (some (OB.box [AV.d (D.i v2731.State), AV.d (D.i v2731.Mine.ASN), AV.d (D.i v2731.Mine.ID), AV.d (D.i v2731.Mine.Hold), AV.d (D.i v2731.Mine.Role), AV.d (D.i v2731.Mine.Grace), AV.d (D.b v2731.Mine.Again), AV.d (D.i v2731.ASN), AV.d (D.i v2731.Theirs.ASN), AV.d (D.i v2731.Theirs.ID), AV.d (D.i v2731.Theirs.Hold), AV.d (D.i v2731.Theirs.Role), AV.d (D.i v2731.Theirs.Grace), AV.d (D.b v2731.Theirs.Again), AV.d (D.i v2731.Sent), AV.d (D.i v2731.Heard)]) :: N :: N :: some (OB.box [AV.d (D.i v2597.State), AV.d (D.i v2597.Mine.ASN), AV.d (D.i v2597.Mine.ID), AV.d (D.i v2597.Mine.Hold), AV.d (D.i v2597.Mine.Role), AV.d (D.i v2597.Mine.Grace), AV.d (D.b v2597.Mine.Again), AV.d (D.i v2597.ASN), AV.d (D.i v2597.Theirs.ASN), AV.d (D.i v2597.Theirs.ID), AV.d (D.i v2597.Theirs.Hold), AV.d (D.i v2597.Theirs.Role), AV.d (D.i v2597.Theirs.Grace), AV.d (D.b v2597.Theirs.Again), AV.d (D.i v2597.Sent), AV.d (D.i v2597.Heard)]) :: nn 4 (some (OB.row 37 2 (List.map Message.toD v2732) false) :: some (OB.row 37 2 (List.map Message.toD v2598) false) :: nn 143 ([])))⟩) ⟨rfl, And.intro (.refl _) (And.intro (.refl _) (And.intro (.refl _) (And.intro (.refl _) (And.intro (.refl _) (And.intro (.refl _) (And.intro (.refl _) (And.intro (.refl _) (And.intro (.refl _) (And.intro (.refl _) True.intro))))))))), And.intro ⟨_, rfl, And.intro ⟨rfl, .refl _⟩ (And.intro ⟨rfl, .refl _⟩ (And.intro ⟨rfl, .refl _⟩ (And.intro ⟨rfl, .refl _⟩ (And.intro ⟨rfl, .refl _⟩ (And.intro ⟨rfl, .refl _⟩ (And.intro ⟨rfl, .refl _⟩ (And.intro ⟨rfl, .refl _⟩ (And.intro ⟨rfl, .refl _⟩ (And.intro ⟨rfl, .refl _⟩ (And.intro ⟨rfl, .refl _⟩ (And.intro ⟨rfl, .refl _⟩ (And.intro ⟨rfl, .refl _⟩ (And.intro ⟨rfl, .refl _⟩ (And.intro ⟨rfl, .refl _⟩ (And.intro ⟨rfl, .refl _⟩ (True.intro))))))))))))))))⟩ (And.intro ⟨_, rfl, And.intro ⟨rfl, .refl _⟩ (And.intro ⟨rfl, .refl _⟩ (And.intro ⟨rfl, .refl _⟩ (And.intro ⟨rfl, .refl _⟩ (And.intro ⟨rfl, .refl _⟩ (And.intro ⟨rfl, .refl _⟩ (And.intro ⟨rfl, .refl _⟩ (And.intro ⟨rfl, .refl _⟩ (And.intro ⟨rfl, .refl _⟩ (And.intro ⟨rfl, .refl _⟩ (And.intro ⟨rfl, .refl _⟩ (And.intro ⟨rfl, .refl _⟩ (And.intro ⟨rfl, .refl _⟩ (And.intro ⟨rfl, .refl _⟩ (And.intro ⟨rfl, .refl _⟩ (And.intro ⟨rfl, .refl _⟩ (True.intro))))))))))))))))⟩ (And.intro (.inl ⟨_, rfl, id⟩) (And.intro (.inl ⟨_, rfl, id⟩) (True.intro)))), rfl⟩ ?_ ?_
                  · rintro ⟨v2731, v2732⟩ K2735 h
                    conv => whnf
                    refine .go ?_
                    conv => whnf
                    refine sel_f lt_f ?_
                    conv => whnf
                    exact join_end (v := (v2731, v2732)) ⟨rfl, And.intro (.refl _) (And.intro (.refl _) (And.intro (.refl _) (And.intro (.refl _) (And.intro (.refl _) (And.intro (.refl _) (And.intro (.refl _) True.intro)))))), And.intro ⟨_, rfl, And.intro ⟨rfl, .refl _⟩ (And.intro ⟨rfl, .refl _⟩ (And.intro ⟨rfl, .refl _⟩ (And.intro ⟨rfl, .refl _⟩ (And.intro ⟨rfl, .refl _⟩ (And.intro ⟨rfl, .refl _⟩ (And.intro ⟨rfl, .refl _⟩ (And.intro ⟨rfl, .refl _⟩ (And.intro ⟨rfl, .refl _⟩ (And.intro ⟨rfl, .refl _⟩ (And.intro ⟨rfl, .refl _⟩ (And.intro ⟨rfl, .refl _⟩ (And.intro ⟨rfl, .refl _⟩ (And.intro ⟨rfl, .refl _⟩ (And.intro ⟨rfl, .refl _⟩ (And.intro ⟨rfl, .refl _⟩ (True.intro))))))))))))))))⟩ (And.intro ⟨_, rfl, And.intro ⟨rfl, .refl _⟩ (And.intro ⟨rfl, .refl _⟩ (And.intro ⟨rfl, .refl _⟩ (And.intro ⟨rfl, .refl _⟩ (And.intro ⟨rfl, .refl _⟩ (And.intro ⟨rfl, .refl _⟩ (And.intro ⟨rfl, .refl _⟩ (And.intro ⟨rfl, .refl _⟩ (And.intro ⟨rfl, .refl _⟩ (And.intro ⟨rfl, .refl _⟩ (And.intro ⟨rfl, .refl _⟩ (And.intro ⟨rfl, .refl _⟩ (And.intro ⟨rfl, .refl _⟩ (And.intro ⟨rfl, .refl _⟩ (And.intro ⟨rfl, .refl _⟩ (And.intro ⟨rfl, .refl _⟩ (True.intro))))))))))))))))⟩ (And.intro (.inl ⟨_, rfl, id⟩) (And.intro (.inl ⟨_, rfl, id⟩) (True.intro)))), rfl⟩ h
                  · rintro next2737 i2733 x2734 ⟨v2731, v2732⟩ K2735 hii2733 hxi2733 hwi2733 h hK2736
                    conv => whnf
                    refine .go ?_
                    conv => whnf
                    refine sel_t (lt_t hii2733) ?_
                    conv => whnf
                    refine .go ?_
                    conv => whnf
                    refine ⟨idx_b (f := Message.toD) hii2733, Message.toD x2734, hxi2733, rfl, ?_⟩
                    conv => whnf
                    replace h := bind_inv h; obtain ⟨⟨v2744, v2745, v2746⟩, g2747, h⟩ := h
                    refine ⟨_, _, session_Receive_ok g2747, .inl rfl, ?_⟩
                    conv => whnf
                    refine .go ?_
                    conv => whnf
                    revert h; refine sel_if ?_ ?_ <;> intro h
                    · conv => whnf
                      cases h
                      exact ⟨rfl, rfl⟩
                    · conv => whnf
                      refine dOB (by kernel_rfl) ?_
                      conv => whnf
                      replace h := bind_inv h; obtain ⟨v2748, g2749, h⟩ := h
                      refine ⟨rfl, apnd_b (f := Message.toD) (g := Message.toD) g2749, _, apnd_z (f := Message.toD) g2749, ?_⟩
                      conv => whnf
                      refine cOB (by kernel_rfl) ?_
                      conv => whnf
                      refine ⟨_, hwi2733, ?_⟩
                      conv => whnf
                      exact hK2736 _ (v2744, v2748) ⟨rfl, And.intro (.refl _) (And.intro (.refl _) (And.intro (.refl _) (And.intro (.refl _) (And.intro (.refl _) (And.intro (.refl _) (And.intro (.refl _) (And.intro (.refl _) (And.intro (.refl _) (And.intro (.refl _) True.intro))))))))), And.intro ⟨_, rfl, And.intro ⟨rfl, .refl _⟩ (And.intro ⟨rfl, .refl _⟩ (And.intro ⟨rfl, .refl _⟩ (And.intro ⟨rfl, .refl _⟩ (And.intro ⟨rfl, .refl _⟩ (And.intro ⟨rfl, .refl _⟩ (And.intro ⟨rfl, .refl _⟩ (And.intro ⟨rfl, .refl _⟩ (And.intro ⟨rfl, .refl _⟩ (And.intro ⟨rfl, .refl _⟩ (And.intro ⟨rfl, .refl _⟩ (And.intro ⟨rfl, .refl _⟩ (And.intro ⟨rfl, .refl _⟩ (And.intro ⟨rfl, .refl _⟩ (And.intro ⟨rfl, .refl _⟩ (And.intro ⟨rfl, .refl _⟩ (True.intro))))))))))))))))⟩ (And.intro ⟨_, rfl, And.intro ⟨rfl, .refl _⟩ (And.intro ⟨rfl, .refl _⟩ (And.intro ⟨rfl, .refl _⟩ (And.intro ⟨rfl, .refl _⟩ (And.intro ⟨rfl, .refl _⟩ (And.intro ⟨rfl, .refl _⟩ (And.intro ⟨rfl, .refl _⟩ (And.intro ⟨rfl, .refl _⟩ (And.intro ⟨rfl, .refl _⟩ (And.intro ⟨rfl, .refl _⟩ (And.intro ⟨rfl, .refl _⟩ (And.intro ⟨rfl, .refl _⟩ (And.intro ⟨rfl, .refl _⟩ (And.intro ⟨rfl, .refl _⟩ (And.intro ⟨rfl, .refl _⟩ (And.intro ⟨rfl, .refl _⟩ (True.intro))))))))))))))))⟩ (And.intro (.inl ⟨_, rfl, id⟩) (And.intro (.inl ⟨_, rfl, id⟩) (True.intro)))), rfl⟩ h
                · rintro ⟨v2698, v2699⟩ h
                  conv => whnf
                  refine ⟨_, rfl, ?_⟩
                  conv => whnf
                  replace h := bind_inv h; obtain ⟨⟨v2750, v2751⟩, g2752, h⟩ := h
                  refine ⟨_, _, session_Tick_ok g2752, .inl rfl, ?_⟩
                  conv => whnf
                  replace h := bind_inv h; obtain ⟨v2753, g2754, h⟩ := h
                  refine ⟨rfl, apnd_b (f := Message.toD) (g := Message.toD) g2754, _, apnd_z (f := Message.toD) g2754, ?_⟩
                  conv => whnf
                  replace h := bind_inv h; obtain ⟨⟨v2755, v2756⟩, g2757, h⟩ := h
                  refine ⟨_, _, session_Tick_ok g2757, .inl rfl, ?_⟩
                  conv => whnf
                  replace h := bind_inv h; obtain ⟨v2758, g2759, h⟩ := h
                  refine ⟨rfl, apnd_b (f := Message.toD) (g := Message.toD) g2759, _, apnd_z (f := Message.toD) g2759, ?_⟩
                  conv => whnf
                  revert h; refine cut_join (fun v2764 => ⟨X :: X :: AV.d (D.i a2) :: dd 7 (AV.ref 10 0 :: AV.own 18 (List.map Message.toD v2753).length :: X :: AV.ref 13 0 :: AV.own 19 (List.map Message.toD v2758).length :: X :: AV.d (D.i (i64w (v2312 + 1))) :: AV.d (D.i v2313) :: dd 143 (AV.d (D.b v2764) :: X :: [])), nn 10 (some (OB.box [AV.d (D.i v2750.State), AV.d (D.i v2750.Mine.ASN), AV.d (D.i v2750.Mine.ID), AV.d (D.i v2750.Mine.Hold), AV.d (D.i v2750.Mine.Role), AV.d (D.i v2750.Mine.Grace), AV.d (D.b v2750.Mine.Again), AV.d (D.i v2750.ASN), AV.d (D.i v2750.Theirs.ASN), AV.d (D.i v2750.Theirs.ID), AV.d (D.i v2750.Theirs.Hold), AV.d (D.i v2750.Theirs.Role), AV.d (D.i v2750.Theirs.Grace), AV.d (D.b v2750.Theirs.Again), AV.d (D.i v2750.Sent), AV.d (D.i v2750.Heard)]) :: N :: N :: some (OB.box [AV.d (D.i v2755.State), AV.d (D.i v2755.Mine.ASN), AV.d (D.i v2755.Mine.ID), AV.d (D.i v2755.Mine.Hold), AV.d (D.i v2755.Mine.Role), AV.d (D.i v2755.Mine.Grace), AV.d (D.b v2755.Mine.Again), AV.d (D.i v2755.ASN), AV.d (D.i v2755.Theirs.ASN), AV.d (D.i v2755.Theirs.ID), AV.d (D.i v2755.Theirs.Hold), AV.d (D.i v2755.Theirs.Role), AV.d (D.i v2755.Theirs.Grace), AV.d (D.b v2755.Theirs.Again), AV.d (D.i v2755.Sent), AV.d (D.i v2755.Heard)]) :: nn 4 (some (OB.row 37 2 (List.map Message.toD v2753) false) :: some (OB.row 37 2 (List.map Message.toD v2758) false) :: nn 143 ([])))⟩) ?_ ?_
                  · intro k2765 h
                    conv => whnf
                    refine dOB (by kernel_rfl) ?_
                    conv => whnf
                    revert h; refine sel_if ?_ ?_ <;> intro h
                    · conv => whnf
                      revert h; refine sel_if ?_ ?_ <;> intro h
                      · conv => whnf
                        refine cOB (by kernel_rfl) ?_
                        conv => whnf
                        exact join_end (v := true) ⟨rfl, And.intro (.refl _) (And.intro (.refl _) (And.intro (.refl _) (And.intro (.refl _) (And.intro (.refl _) (And.intro (.refl _) (And.intro (.refl _) (And.intro (.refl _) True.intro))))))), And.intro ⟨_, rfl, And.intro ⟨rfl, .refl _⟩ (And.intro ⟨rfl, .refl _⟩ (And.intro ⟨rfl, .refl _⟩ (And.intro ⟨rfl, .refl _⟩ (And.intro ⟨rfl, .refl _⟩ (And.intro ⟨rfl, .refl _⟩ (And.intro ⟨rfl, .refl _⟩ (And.intro ⟨rfl, .refl _⟩ (And.intro ⟨rfl, .refl _⟩ (And.intro ⟨rfl, .refl _⟩ (And.intro ⟨rfl, .refl _⟩ (And.intro ⟨rfl, .refl _⟩ (And.intro ⟨rfl, .refl _⟩ (And.intro ⟨rfl, .refl _⟩ (And.intro ⟨rfl, .refl _⟩ (And.intro ⟨rfl, .refl _⟩ (True.intro))))))))))))))))⟩ (And.intro ⟨_, rfl, And.intro ⟨rfl, .refl _⟩ (And.intro ⟨rfl, .refl _⟩ (And.intro ⟨rfl, .refl _⟩ (And.intro ⟨rfl, .refl _⟩ (And.intro ⟨rfl, .refl _⟩ (And.intro ⟨rfl, .refl _⟩ (And.intro ⟨rfl, .refl _⟩ (And.intro ⟨rfl, .refl _⟩ (And.intro ⟨rfl, .refl _⟩ (And.intro ⟨rfl, .refl _⟩ (And.intro ⟨rfl, .refl _⟩ (And.intro ⟨rfl, .refl _⟩ (And.intro ⟨rfl, .refl _⟩ (And.intro ⟨rfl, .refl _⟩ (And.intro ⟨rfl, .refl _⟩ (And.intro ⟨rfl, .refl _⟩ (True.intro))))))))))))))))⟩ (And.intro (.inl ⟨_, rfl, id⟩) (And.intro (.inl ⟨_, rfl, id⟩) (True.intro)))), rfl⟩ h
                      · conv => whnf
                        revert h; refine sel_if ?_ ?_ <;> intro h
                        · conv => whnf
                          refine cOB (by kernel_rfl) ?_
                          conv => whnf
                          exact join_end (v := true) ⟨rfl, And.intro (.refl _) (And.intro (.refl _) (And.intro (.refl _) (And.intro (.refl _) (And.intro (.refl _) (And.intro (.refl _) (And.intro (.refl _) (And.intro (.refl _) True.intro))))))), And.intro ⟨_, rfl, And.intro ⟨rfl, .refl _⟩ (And.intro ⟨rfl, .refl _⟩ (And.intro ⟨rfl, .refl _⟩ (And.intro ⟨rfl, .refl _⟩ (And.intro ⟨rfl, .refl _⟩ (And.intro ⟨rfl, .refl _⟩ (And.intro ⟨rfl, .refl _⟩ (And.intro ⟨rfl, .refl _⟩ (And.intro ⟨rfl, .refl _⟩ (And.intro ⟨rfl, .refl _⟩ (And.intro ⟨rfl, .refl _⟩ (And.intro ⟨rfl, .refl _⟩ (And.intro ⟨rfl, .refl _⟩ (And.intro ⟨rfl, .refl _⟩ (And.intro ⟨rfl, .refl _⟩ (And.intro ⟨rfl, .refl _⟩ (True.intro))))))))))))))))⟩ (And.intro ⟨_, rfl, And.intro ⟨rfl, .refl _⟩ (And.intro ⟨rfl, .refl _⟩ (And.intro ⟨rfl, .refl _⟩ (And.intro ⟨rfl, .refl _⟩ (And.intro ⟨rfl, .refl _⟩ (And.intro ⟨rfl, .refl _⟩ (And.intro ⟨rfl, .refl _⟩ (And.intro ⟨rfl, .refl _⟩ (And.intro ⟨rfl, .refl _⟩ (And.intro ⟨rfl, .refl _⟩ (And.intro ⟨rfl, .refl _⟩ (And.intro ⟨rfl, .refl _⟩ (And.intro ⟨rfl, .refl _⟩ (And.intro ⟨rfl, .refl _⟩ (And.intro ⟨rfl, .refl _⟩ (And.intro ⟨rfl, .refl _⟩ (True.intro))))))))))))))))⟩ (And.intro (.inl ⟨_, rfl, id⟩) (And.intro (.inl ⟨_, rfl, id⟩) (True.intro)))), rfl⟩ h
                        · conv => whnf
                          replace h := bind_inv h; obtain ⟨v2766, g2767, h⟩ := h
                          refine ⟨_, _, session_Hold_ok g2767, .inl rfl, ?_⟩
                          conv => whnf
                          replace h := bind_inv h; obtain ⟨v2768, g2769, h⟩ := h
                          refine ⟨_, _, session_Hold_ok g2769, .inl rfl, ?_⟩
                          conv => whnf
                          refine cOB (by kernel_rfl) ?_
                          conv => whnf
                          exact join_end (v := (v2766 != v2768)) ⟨rfl, And.intro (.refl _) (And.intro (.refl _) (And.intro (.refl _) (And.intro (.refl _) (And.intro (.refl _) (And.intro (.refl _) (And.intro (.refl _) (And.intro (.refl _) True.intro))))))), And.intro ⟨_, rfl, And.intro ⟨rfl, .refl _⟩ (And.intro ⟨rfl, .refl _⟩ (And.intro ⟨rfl, .refl _⟩ (And.intro ⟨rfl, .refl _⟩ (And.intro ⟨rfl, .refl _⟩ (And.intro ⟨rfl, .refl _⟩ (And.intro ⟨rfl, .refl _⟩ (And.intro ⟨rfl, .refl _⟩ (And.intro ⟨rfl, .refl _⟩ (And.intro ⟨rfl, .refl _⟩ (And.intro ⟨rfl, .refl _⟩ (And.intro ⟨rfl, .refl _⟩ (And.intro ⟨rfl, .refl _⟩ (And.intro ⟨rfl, .refl _⟩ (And.intro ⟨rfl, .refl _⟩ (And.intro ⟨rfl, .refl _⟩ (True.intro))))))))))))))))⟩ (And.intro ⟨_, rfl, And.intro ⟨rfl, .refl _⟩ (And.intro ⟨rfl, .refl _⟩ (And.intro ⟨rfl, .refl _⟩ (And.intro ⟨rfl, .refl _⟩ (And.intro ⟨rfl, .refl _⟩ (And.intro ⟨rfl, .refl _⟩ (And.intro ⟨rfl, .refl _⟩ (And.intro ⟨rfl, .refl _⟩ (And.intro ⟨rfl, .refl _⟩ (And.intro ⟨rfl, .refl _⟩ (And.intro ⟨rfl, .refl _⟩ (And.intro ⟨rfl, .refl _⟩ (And.intro ⟨rfl, .refl _⟩ (And.intro ⟨rfl, .refl _⟩ (And.intro ⟨rfl, .refl _⟩ (And.intro ⟨rfl, .refl _⟩ (True.intro))))))))))))))))⟩ (And.intro (.inl ⟨_, rfl, id⟩) (And.intro (.inl ⟨_, rfl, id⟩) (True.intro)))), rfl⟩ h
                    · conv => whnf
                      refine cOB (by kernel_rfl) ?_
                      conv => whnf
                      exact join_end (v := false) ⟨rfl, And.intro (.refl _) (And.intro (.refl _) (And.intro (.refl _) (And.intro (.refl _) (And.intro (.refl _) (And.intro (.refl _) (And.intro (.refl _) (And.intro (.refl _) True.intro))))))), And.intro ⟨_, rfl, And.intro ⟨rfl, .refl _⟩ (And.intro ⟨rfl, .refl _⟩ (And.intro ⟨rfl, .refl _⟩ (And.intro ⟨rfl, .refl _⟩ (And.intro ⟨rfl, .refl _⟩ (And.intro ⟨rfl, .refl _⟩ (And.intro ⟨rfl, .refl _⟩ (And.intro ⟨rfl, .refl _⟩ (And.intro ⟨rfl, .refl _⟩ (And.intro ⟨rfl, .refl _⟩ (And.intro ⟨rfl, .refl _⟩ (And.intro ⟨rfl, .refl _⟩ (And.intro ⟨rfl, .refl _⟩ (And.intro ⟨rfl, .refl _⟩ (And.intro ⟨rfl, .refl _⟩ (And.intro ⟨rfl, .refl _⟩ (True.intro))))))))))))))))⟩ (And.intro ⟨_, rfl, And.intro ⟨rfl, .refl _⟩ (And.intro ⟨rfl, .refl _⟩ (And.intro ⟨rfl, .refl _⟩ (And.intro ⟨rfl, .refl _⟩ (And.intro ⟨rfl, .refl _⟩ (And.intro ⟨rfl, .refl _⟩ (And.intro ⟨rfl, .refl _⟩ (And.intro ⟨rfl, .refl _⟩ (And.intro ⟨rfl, .refl _⟩ (And.intro ⟨rfl, .refl _⟩ (And.intro ⟨rfl, .refl _⟩ (And.intro ⟨rfl, .refl _⟩ (And.intro ⟨rfl, .refl _⟩ (And.intro ⟨rfl, .refl _⟩ (And.intro ⟨rfl, .refl _⟩ (And.intro ⟨rfl, .refl _⟩ (True.intro))))))))))))))))⟩ (And.intro (.inl ⟨_, rfl, id⟩) (And.intro (.inl ⟨_, rfl, id⟩) (True.intro)))), rfl⟩ h
                  · rintro v2764 h
                    conv => whnf
                    refine .go ?_
                    conv => whnf
                    revert h; refine sel_if ?_ ?_ <;> intro h
                    · conv => whnf
                      cases h
                      exact ⟨rfl, rfl⟩
                    · conv => whnf
                      exact join_end (v := (v2750, v2753, v2755, v2758)) ⟨rfl, And.intro (.refl _) (And.intro (.refl _) (And.intro (.refl _) (And.intro (.refl _) (And.intro (.refl _) (And.intro (.refl _) (And.intro (.refl _) True.intro)))))), And.intro ⟨_, rfl, And.intro ⟨rfl, .refl _⟩ (And.intro ⟨rfl, .refl _⟩ (And.intro ⟨rfl, .refl _⟩ (And.intro ⟨rfl, .refl _⟩ (And.intro ⟨rfl, .refl _⟩ (And.intro ⟨rfl, .refl _⟩ (And.intro ⟨rfl, .refl _⟩ (And.intro ⟨rfl, .refl _⟩ (And.intro ⟨rfl, .refl _⟩ (And.intro ⟨rfl, .refl _⟩ (And.intro ⟨rfl, .refl _⟩ (And.intro ⟨rfl, .refl _⟩ (And.intro ⟨rfl, .refl _⟩ (And.intro ⟨rfl, .refl _⟩ (And.intro ⟨rfl, .refl _⟩ (And.intro ⟨rfl, .refl _⟩ (True.intro))))))))))))))))⟩ (And.intro ⟨_, rfl, And.intro ⟨rfl, .refl _⟩ (And.intro ⟨rfl, .refl _⟩ (And.intro ⟨rfl, .refl _⟩ (And.intro ⟨rfl, .refl _⟩ (And.intro ⟨rfl, .refl _⟩ (And.intro ⟨rfl, .refl _⟩ (And.intro ⟨rfl, .refl _⟩ (And.intro ⟨rfl, .refl _⟩ (And.intro ⟨rfl, .refl _⟩ (And.intro ⟨rfl, .refl _⟩ (And.intro ⟨rfl, .refl _⟩ (And.intro ⟨rfl, .refl _⟩ (And.intro ⟨rfl, .refl _⟩ (And.intro ⟨rfl, .refl _⟩ (And.intro ⟨rfl, .refl _⟩ (And.intro ⟨rfl, .refl _⟩ (True.intro))))))))))))))))⟩ (And.intro (.inl ⟨_, rfl, id⟩) (And.intro (.inl ⟨_, rfl, id⟩) (True.intro)))), rfl⟩ h
            · rintro ⟨v2543, v2544, v2545, v2546⟩ h
              conv => whnf
              refine ⟨_, rfl, ?_⟩
              conv => whnf
              exact hK2317 _ (v2544, v2546, (i64w (v2312 + 1)), (i64w (v2313 + 1)), v2543, v2545) ⟨rfl, And.intro (.refl _) (And.intro (.refl _) (And.intro (.lst _ _ _ _ _ _ rfl rfl (.inl rfl)) (And.intro (.refl _) (And.intro (.lst _ _ _ _ _ _ rfl rfl (.inl rfl)) (And.intro (.refl _) (And.intro (.refl _) True.intro)))))), And.intro ⟨_, rfl, And.intro ⟨rfl, .refl _⟩ (And.intro ⟨rfl, .refl _⟩ (And.intro ⟨rfl, .refl _⟩ (And.intro ⟨rfl, .refl _⟩ (And.intro ⟨rfl, .refl _⟩ (And.intro ⟨rfl, .refl _⟩ (And.intro ⟨rfl, .refl _⟩ (And.intro ⟨rfl, .refl _⟩ (And.intro ⟨rfl, .refl _⟩ (And.intro ⟨rfl, .refl _⟩ (And.intro ⟨rfl, .refl _⟩ (And.intro ⟨rfl, .refl _⟩ (And.intro ⟨rfl, .refl _⟩ (And.intro ⟨rfl, .refl _⟩ (And.intro ⟨rfl, .refl _⟩ (And.intro ⟨rfl, .refl _⟩ (True.intro))))))))))))))))⟩ (And.intro ⟨_, rfl, And.intro ⟨rfl, .refl _⟩ (And.intro ⟨rfl, .refl _⟩ (And.intro ⟨rfl, .refl _⟩ (And.intro ⟨rfl, .refl _⟩ (And.intro ⟨rfl, .refl _⟩ (And.intro ⟨rfl, .refl _⟩ (And.intro ⟨rfl, .refl _⟩ (And.intro ⟨rfl, .refl _⟩ (And.intro ⟨rfl, .refl _⟩ (And.intro ⟨rfl, .refl _⟩ (And.intro ⟨rfl, .refl _⟩ (And.intro ⟨rfl, .refl _⟩ (And.intro ⟨rfl, .refl _⟩ (And.intro ⟨rfl, .refl _⟩ (And.intro ⟨rfl, .refl _⟩ (And.intro ⟨rfl, .refl _⟩ (True.intro))))))))))))))))⟩ (True.intro)), rfl⟩ h
          · conv => whnf
            exact join_end (v := ()) ⟨rfl, True.intro, True.intro, rfl⟩ h
        · rintro _ h
          conv => whnf
          replace h := bind_inv h; obtain ⟨v2770, g2771, h⟩ := h
          refine ⟨_, _, law32_awake_ok g2771, .inl rfl, ?_⟩
          conv => whnf
          cases h
          exact ⟨rfl, rfl⟩
end Go.AX.Q32
