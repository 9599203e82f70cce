/-
  The functions do what their plain forms say (proofs written by a program of mine), part 12.
-/
import Derived.Test.YtikcogmkchljaaaQ32P11
namespace Go.AX.Q32
open Go Go.AX Go.Proofs
set_option maxRecDepth 100000
set_option maxHeartbeats 4000000
set_option linter.unusedVariables false
theorem law32_SessionSilent_ok {a0 : List Int} {a1 : Int} {r : Bool} (h : law32_SessionSilent a0 a1 = some r) : CallsOK Try.prog 8 [AV.d (D.l 1 D.i a0), AV.d (D.i a1)] [] (.d (D.b r)) [] := by
  refine ok Try.f8 (by kernel_rfl) (by kernel_rfl) ⟨rfl, ?_⟩
  unfold law32_SessionSilent at h
  conv => whnf
  replace h := bind_inv h; obtain ⟨v1, g2, h⟩ := h
  refine ⟨_, _, mill_New_ok g2, .inr rfl, ?_⟩
  conv => whnf
  replace h := bind_inv h; obtain ⟨⟨v3, v4⟩, g5, h⟩ := h
  refine ⟨_, _, mill_Deck_Open_ok g5, .inl rfl, ?_⟩
  conv => whnf
  replace h := bind_inv h; obtain ⟨⟨v6, v7⟩, g8, h⟩ := h
  refine ⟨_, _, mill_Deck_Open_ok g8, .inl rfl, ?_⟩
  conv => whnf
  replace h := bind_inv h; obtain ⟨⟨v9, v10⟩, g11, h⟩ := h
  refine ⟨_, _, ref32_Encode_ok g11, .inl rfl, ?_⟩
  conv => whnf
  replace h := bind_inv h; obtain ⟨⟨v12, v13, v14⟩, g15, h⟩ := h
  refine ⟨_, _, session_Start_ok g15, .inl rfl, ?_⟩
  conv => whnf
  replace h := bind_inv h; obtain ⟨⟨v16, v17, v18⟩, g19, h⟩ := h
  refine ⟨_, _, session_Receive_ok g19, .inl rfl, ?_⟩
  conv => whnf
  replace h := bind_inv h; obtain ⟨⟨v20, v21, v22⟩, g23, h⟩ := h
  refine ⟨_, _, session_Receive_ok g23, .inl rfl, ?_⟩
  conv => whnf
  revert h; refine cut_join (fun v24 => ⟨X :: AV.d (D.i a1) :: dd 8 (AV.ref 10 0 :: dd 61 (AV.d (D.b v24) :: dd 82 ([]))), nn 10 (some (OB.box [AV.d (D.i v20.State), AV.d (D.i v20.Mine.ASN), AV.d (D.i v20.Mine.ID), AV.d (D.i v20.Mine.Hold), AV.d (D.i v20.Mine.Role), AV.d (D.i v20.Mine.Grace), AV.d (D.b v20.Mine.Again), AV.d (D.i v20.ASN), AV.d (D.i v20.Theirs.ASN), AV.d (D.i v20.Theirs.ID), AV.d (D.i v20.Theirs.Hold), AV.d (D.i v20.Theirs.Role), AV.d (D.i v20.Theirs.Grace), AV.d (D.b v20.Theirs.Again), AV.d (D.i v20.Sent), AV.d (D.i v20.Heard)]) :: nn 144 ([]))⟩) ?_ ?_
  · intro k25 h
    conv => whnf
    revert h; refine sel_if ?_ ?_ <;> intro h
    · conv => whnf
      exact join_end (v := true) ⟨rfl, And.intro (.refl _) (And.intro (.refl _) (And.intro (.refl _) True.intro)), And.intro ⟨_, rfl, And.intro ⟨rfl, .refl _⟩ (And.intro ⟨rfl, .refl _⟩ (And.intro ⟨rfl, .refl _⟩ (And.intro ⟨rfl, .refl _⟩ (And.intro ⟨rfl, .refl _⟩ (And.intro ⟨rfl, .refl _⟩ (And.intro ⟨rfl, .refl _⟩ (And.intro ⟨rfl, .refl _⟩ (And.intro ⟨rfl, .refl _⟩ (And.intro ⟨rfl, .refl _⟩ (And.intro ⟨rfl, .refl _⟩ (And.intro ⟨rfl, .refl _⟩ (And.intro ⟨rfl, .refl _⟩ (And.intro ⟨rfl, .refl _⟩ (And.intro ⟨rfl, .refl _⟩ (And.intro ⟨rfl, .refl _⟩ (True.intro))))))))))))))))⟩ (True.intro), rfl⟩ h
    · conv => whnf
      revert h; refine sel_if ?_ ?_ <;> intro h
      · conv => whnf
        exact join_end (v := true) ⟨rfl, And.intro (.refl _) (And.intro (.refl _) (And.intro (.refl _) True.intro)), And.intro ⟨_, rfl, And.intro ⟨rfl, .refl _⟩ (And.intro ⟨rfl, .refl _⟩ (And.intro ⟨rfl, .refl _⟩ (And.intro ⟨rfl, .refl _⟩ (And.intro ⟨rfl, .refl _⟩ (And.intro ⟨rfl, .refl _⟩ (And.intro ⟨rfl, .refl _⟩ (And.intro ⟨rfl, .refl _⟩ (And.intro ⟨rfl, .refl _⟩ (And.intro ⟨rfl, .refl _⟩ (And.intro ⟨rfl, .refl _⟩ (And.intro ⟨rfl, .refl _⟩ (And.intro ⟨rfl, .refl _⟩ (And.intro ⟨rfl, .refl _⟩ (And.intro ⟨rfl, .refl _⟩ (And.intro ⟨rfl, .refl _⟩ (True.intro))))))))))))))))⟩ (True.intro), rfl⟩ h
      · conv => whnf
        revert h; refine sel_if ?_ ?_ <;> intro h
        · conv => whnf
          exact join_end (v := true) ⟨rfl, And.intro (.refl _) (And.intro (.refl _) (And.intro (.refl _) True.intro)), And.intro ⟨_, rfl, And.intro ⟨rfl, .refl _⟩ (And.intro ⟨rfl, .refl _⟩ (And.intro ⟨rfl, .refl _⟩ (And.intro ⟨rfl, .refl _⟩ (And.intro ⟨rfl, .refl _⟩ (And.intro ⟨rfl, .refl _⟩ (And.intro ⟨rfl, .refl _⟩ (And.intro ⟨rfl, .refl _⟩ (And.intro ⟨rfl, .refl _⟩ (And.intro ⟨rfl, .refl _⟩ (And.intro ⟨rfl, .refl _⟩ (And.intro ⟨rfl, .refl _⟩ (And.intro ⟨rfl, .refl _⟩ (And.intro ⟨rfl, .refl _⟩ (And.intro ⟨rfl, .refl _⟩ (And.intro ⟨rfl, .refl _⟩ (True.intro))))))))))))))))⟩ (True.intro), rfl⟩ h
        · conv => whnf
          exact join_end (v := (v20.State != 3)) ⟨rfl, And.intro (.refl _) (And.intro (.refl _) (And.intro (.refl _) True.intro)), And.intro ⟨_, rfl, And.intro ⟨rfl, .refl _⟩ (And.intro ⟨rfl, .refl _⟩ (And.intro ⟨rfl, .refl _⟩ (And.intro ⟨rfl, .refl _⟩ (And.intro ⟨rfl, .refl _⟩ (And.intro ⟨rfl, .refl _⟩ (And.intro ⟨rfl, .refl _⟩ (And.intro ⟨rfl, .refl _⟩ (And.intro ⟨rfl, .refl _⟩ (And.intro ⟨rfl, .refl _⟩ (And.intro ⟨rfl, .refl _⟩ (And.intro ⟨rfl, .refl _⟩ (And.intro ⟨rfl, .refl _⟩ (And.intro ⟨rfl, .refl _⟩ (And.intro ⟨rfl, .refl _⟩ (And.intro ⟨rfl, .refl _⟩ (True.intro))))))))))))))))⟩ (True.intro), rfl⟩ h
  · rintro v24 h
    conv => whnf
    refine .go ?_
    conv => whnf
    revert h; refine sel_if ?_ ?_ <;> intro h
    · conv => whnf
      cases h
      exact ⟨rfl, rfl⟩
    · conv => whnf
      replace h := bind_inv h; obtain ⟨v26, g27, h⟩ := h
      refine ⟨_, _, session_Hold_ok g27, .inl rfl, ?_⟩
      conv => whnf
      refine .go ?_
      conv => whnf
      revert h; refine sel_if ?_ ?_ <;> intro h
      · conv => whnf
        refine dOB (by kernel_rfl) ?_
        conv => whnf
        replace h := bind_inv h; obtain ⟨v39, g40, h⟩ := h
        refine ⟨_, _, mill_Mod_ok g40, .inl rfl, ?_⟩
        conv => whnf
        refine ⟨_, rfl, ?_⟩
        conv => whnf
        replace h := bind_inv h; obtain ⟨⟨v41, v42⟩, g43, h⟩ := h
        refine ⟨_, _, session_Tick_ok g43, .inl rfl, ?_⟩
        conv => whnf
        refine cOB (by kernel_rfl) ?_
        conv => whnf
        revert h; refine cut_join (fun v46 => ⟨dd 4 (AV.d (D.b v46) :: dd 150 ([])), nn 155 ([])⟩) ?_ ?_
        · intro k47 h
          conv => whnf
          revert h; refine sel_if ?_ ?_ <;> intro h
          · conv => whnf
            refine ⟨v42.length, List.length_map _, ?_⟩
            conv => whnf
            revert h; refine sel_if ?_ ?_ <;> intro h
            · conv => whnf
              replace h := bind_inv h; obtain ⟨v48, g49, h⟩ := h
              refine ⟨_, _, law32_awake_ok g49, .inl rfl, ?_⟩
              conv => whnf
              exact join_end (v := v48) ⟨rfl, And.intro (.refl _) True.intro, True.intro, rfl⟩ h
            · conv => whnf
              exact join_end (v := false) ⟨rfl, And.intro (.refl _) True.intro, True.intro, rfl⟩ h
          · conv => whnf
            exact join_end (v := false) ⟨rfl, And.intro (.refl _) True.intro, True.intro, rfl⟩ h
        · rintro v46 h
          conv => whnf
          cases h
          exact ⟨rfl, rfl⟩
      · conv => whnf
        refine dOB (by kernel_rfl) ?_
        conv => whnf
        replace h := bind_inv h; obtain ⟨v50, g51, h⟩ := h
        refine ⟨_, _, mill_Mod_ok g51, .inl rfl, ?_⟩
        conv => whnf
        refine ⟨_, rfl, ?_⟩
        conv => whnf
        replace h := bind_inv h; obtain ⟨⟨v52, v53⟩, g54, h⟩ := h
        refine ⟨_, _, session_Tick_ok g54, .inl rfl, ?_⟩
        conv => whnf
        refine cOB (by kernel_rfl) ?_
        conv => whnf
        refine dOB (by kernel_rfl) ?_
        conv => whnf
        refine ⟨_, rfl, ?_⟩
        conv => whnf
        replace h := bind_inv h; obtain ⟨v55, g56, h⟩ := h
        refine ⟨_, _, mill_Mod_ok g56, .inl rfl, ?_⟩
        conv => whnf
        refine ⟨_, rfl, ?_⟩
        conv => whnf
        replace h := bind_inv h; obtain ⟨⟨v57, v58⟩, g59, h⟩ := h
        refine ⟨_, _, session_Tick_ok g59, .inl rfl, ?_⟩
        conv => whnf
        refine cOB (by kernel_rfl) ?_
        conv => whnf
        revert h; refine cut_join (fun v70 => ⟨dd 4 (AV.d (D.b v70) :: dd 150 ([])), nn 155 ([])⟩) ?_ ?_
        · intro k71 h
          conv => whnf
          revert h; refine sel_if ?_ ?_ <;> intro h
          · conv => whnf
            revert h; refine sel_if ?_ ?_ <;> intro h
            · conv => whnf
              refine ⟨v58.length, List.length_map _, ?_⟩
              conv => whnf
              revert h; refine sel_if ?_ ?_ <;> intro h
              · conv => whnf
                replace h := bind_inv h; obtain ⟨v72, g73, h⟩ := h
                refine ⟨geti_b (f := Message.toD) g73, Message.toD v72, geti_d (f := Message.toD) g73, rfl, ?_⟩
                conv => whnf
                revert h; refine sel_if ?_ ?_ <;> intro h
                · conv => whnf
                  replace h := bind_inv h; obtain ⟨v74, g75, h⟩ := h
                  refine ⟨geti_b (f := Message.toD) g75, Message.toD v74, geti_d (f := Message.toD) g75, rfl, ?_⟩
                  conv => whnf
                  refine ⟨v74.Body.length, List.length_map _, ?_⟩
                  conv => whnf
                  revert h; refine sel_if ?_ ?_ <;> intro h
                  · conv => whnf
                    replace h := bind_inv h; obtain ⟨v76, g77, h⟩ := h
                    refine ⟨geti_b (f := Message.toD) g77, Message.toD v76, geti_d (f := Message.toD) g77, rfl, ?_⟩
                    conv => whnf
                    replace h := bind_inv h; obtain ⟨v78, g79, h⟩ := h
                    refine ⟨geti_b (f := D.u8) g79, D.u8 v78, geti_d (f := D.u8) g79, rfl, ?_⟩
                    conv => whnf
                    revert h; refine sel_if ?_ ?_ <;> intro h
                    · conv => whnf
                      replace h := bind_inv h; obtain ⟨v80, g81, h⟩ := h
                      refine ⟨_, _, law32_awake_ok g81, .inl rfl, ?_⟩
                      conv => whnf
                      exact join_end (v := v80) ⟨rfl, And.intro (.refl _) True.intro, True.intro, rfl⟩ h
                    · conv => whnf
                      exact join_end (v := false) ⟨rfl, And.intro (.refl _) True.intro, True.intro, rfl⟩ h
                  · conv => whnf
                    exact join_end (v := false) ⟨rfl, And.intro (.refl _) True.intro, True.intro, rfl⟩ h
                · conv => whnf
                  exact join_end (v := false) ⟨rfl, And.intro (.refl _) True.intro, True.intro, rfl⟩ h
              · conv => whnf
                exact join_end (v := false) ⟨rfl, And.intro (.refl _) True.intro, True.intro, rfl⟩ h
            · conv => whnf
              exact join_end (v := false) ⟨rfl, And.intro (.refl _) True.intro, True.intro, rfl⟩ h
          · conv => whnf
            exact join_end (v := false) ⟨rfl, And.intro (.refl _) True.intro, True.intro, rfl⟩ h
        · rintro v70 h
          conv => whnf
          cases h
          exact ⟨rfl, rfl⟩
end Go.AX.Q32
