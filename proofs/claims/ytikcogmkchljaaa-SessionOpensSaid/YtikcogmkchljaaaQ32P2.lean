/-
  The functions do what their plain forms say (proofs written by a program of mine), part 2.
-/
import Derived.Test.YtikcogmkchljaaaQ32P1
namespace Go.AX.Q32
open Go Go.AX Go.Proofs
set_option maxRecDepth 100000
set_option maxHeartbeats 4000000
set_option linter.unusedVariables false
theorem session_Notify_ok {a0 : Int} {r : Message} (h : session_Notify a0 = some r) : CallsOK Try.prog 17 [AV.d (D.i a0)] [] (.d (Message.toD r)) [] := by
  refine ok Try.f17 (by kernel_rfl) (by kernel_rfl) ⟨rfl, ?_⟩
  unfold session_Notify at h
  conv => whnf
  refine ⟨_, u8_wrap _, ?_⟩
  conv => whnf
  refine ⟨rfl, ?_⟩
  conv => whnf
  cases h
  exact ⟨rfl, rfl⟩

theorem ref32_Notify_ok {a0 : Int} {r : Message} (h : ref32_Notify a0 = some r) : CallsOK Try.prog 18 [AV.d (D.i a0)] [] (.d (Message.toD r)) [] := by
  refine ok Try.f18 (by kernel_rfl) (by kernel_rfl) ⟨rfl, ?_⟩
  unfold ref32_Notify at h
  conv => whnf
  refine ⟨_, u8_wrap _, ?_⟩
  conv => whnf
  refine ⟨rfl, ?_⟩
  conv => whnf
  cases h
  exact ⟨rfl, rfl⟩

theorem law32_awake_ok  {r : Bool} (h : law32_awake = some r) : CallsOK Try.prog 19 [] [] (.d (D.b r)) [] := by
  refine ok Try.f19 (by kernel_rfl) (by kernel_rfl) ⟨rfl, ?_⟩
  unfold law32_awake at h
  conv => whnf
  replace h := bind_inv h; obtain ⟨⟨v1, v2⟩, g3, h⟩ := h
  refine ⟨_, _, session_Encode_ok g3, .inl rfl, ?_⟩
  conv => whnf
  revert h; refine cut_join (fun v6 => ⟨AV.d (D.b v6) :: dd 20 ([]), nn 21 ([])⟩) ?_ ?_
  · intro k7 h
    conv => whnf
    revert h; refine sel_if ?_ ?_ <;> intro h
    · conv => whnf
      refine ⟨v1, rfl, ?_⟩
      conv => whnf
      revert h; refine sel_if ?_ ?_ <;> intro h
      · conv => whnf
        replace h := bind_inv h; obtain ⟨v8, g9, h⟩ := h
        refine ⟨_, _, session_Notify_ok g9, .inl rfl, ?_⟩
        conv => whnf
        refine ⟨v8.Body.length, List.length_map _, ?_⟩
        conv => whnf
        exact join_end (v := ((v8.Body.length : Int) == 2)) ⟨rfl, And.intro (.refl _) True.intro, True.intro, rfl⟩ h
      · conv => whnf
        exact join_end (v := false) ⟨rfl, And.intro (.refl _) True.intro, True.intro, rfl⟩ h
    · conv => whnf
      exact join_end (v := false) ⟨rfl, And.intro (.refl _) True.intro, True.intro, rfl⟩ h
  · rintro v6 h
    conv => whnf
    cases h
    exact ⟨rfl, rfl⟩

theorem law32_SessionOpens_ok {a0 : Open} {a1 : List Int} {a2 : Int} {r : Bool} (h : law32_SessionOpens a0 a1 a2 = some r) : CallsOK Try.prog 3 [AV.d (Open.toD a0), AV.d (D.l 1 D.i a1), AV.d (D.i a2)] [] (.d (D.b r)) [] := by
  refine ok Try.f3 (by kernel_rfl) (by kernel_rfl) ⟨rfl, ?_⟩
  unfold law32_SessionOpens at h
  conv => whnf
  replace h := bind_inv h; obtain ⟨v1, g2, h⟩ := h
  refine ⟨_, _, mill_New_ok g2, .inr rfl, ?_⟩
  conv => whnf
  refine dOB (by kernel_rfl) ?_
  conv => whnf
  replace h := bind_inv h; obtain ⟨⟨v3, v4⟩, g5, h⟩ := h
  refine ⟨_, _, mill_Deck_ASN_ok g5, .inl rfl, ?_⟩
  conv => whnf
  replace h := bind_inv h; obtain ⟨⟨v6, v7⟩, g8, h⟩ := h
  refine ⟨_, _, mill_Deck_Open_ok g8, .inl rfl, ?_⟩
  conv => whnf
  replace h := bind_inv h; obtain ⟨⟨v9, v10⟩, g11, h⟩ := h
  refine ⟨_, _, mill_Deck_Open_ok g11, .inl rfl, ?_⟩
  conv => whnf
  replace h := bind_inv h; obtain ⟨⟨v12, v13⟩, g14, h⟩ := h
  refine ⟨_, _, mill_Deck_Open_ok g14, .inl rfl, ?_⟩
  conv => whnf
  refine ⟨([a0, v6, v9, v12] : List Open).length, by first | exact List.length_map _ | rfl, ?_⟩
  conv => whnf
  refine cOB (by kernel_rfl) ?_
  conv => whnf
  revert h; refine cut_join (fun _ => ⟨X :: X :: AV.d (D.i a2) :: dd 66 ([]), nn 69 ([])⟩) ?_ ?_
  · intro k86 h
    conv => whnf
    revert h; refine loop_own 25 23 6 false Open.toD rfl (fun i121 _ => ⟨X :: X :: AV.d (D.i a2) :: dd 22 (AV.own 25 (List.map Open.toD ([a0, v6, v9, v12] : List Open)).length :: AV.d (D.i (([a0, v6, v9, v12] : List Open).length : Int)) :: AV.d (D.i (i121 : Int)) :: dd 41 ([])), nn 25 (some (OB.row 23 6 (List.map Open.toD ([a0, v6, v9, v12] : List Open)) false) :: nn 43 ([]))⟩) ⟨rfl, And.intro (.refl _) (And.intro (.refl _) (And.intro (.refl _) (And.intro (.refl _) True.intro))), And.intro (.inl ⟨_, rfl, id⟩) (True.intro), rfl⟩ ?_ ?_
    · rintro _ K123 h
      conv => whnf
      refine .go ?_
      conv => whnf
      exact join_end (v := ()) ⟨rfl, And.intro (.refl _) True.intro, True.intro, rfl⟩ h
    · rintro next125 i121 x122 _ K123 hii121 hxi121 hwi121 h hK124
      conv => whnf
      refine .go ?_
      conv => whnf
      refine sel_t (lt_t hii121) ?_
      conv => whnf
      refine .go ?_
      conv => whnf
      refine ⟨rfl, idx_b (f := Open.toD) hii121, ?_⟩
      conv => whnf
      refine ⟨rfl, Open.toD x122, hxi121, ?_⟩
      conv => whnf
      replace h := bind_inv h; obtain ⟨⟨v142, v143⟩, g144, h⟩ := h
      refine ⟨_, _, session_Encode_ok g144, .inl rfl, ?_⟩
      conv => whnf
      replace h := bind_inv h; obtain ⟨⟨v145, v146⟩, g147, h⟩ := h
      refine ⟨_, _, ref32_Encode_ok g147, .inl rfl, ?_⟩
      conv => whnf
      revert h; refine cut_join (fun v152 => ⟨X :: X :: AV.d (D.i a2) :: dd 22 (AV.own 25 (List.map Open.toD ([a0, v6, v9, v12] : List Open)).length :: AV.d (D.i (([a0, v6, v9, v12] : List Open).length : Int)) :: AV.d (D.i (i121 : Int)) :: dd 29 (AV.d (D.b v152) :: dd 11 ([]))), nn 25 (some (OB.row 23 6 (List.map Open.toD ([a0, v6, v9, v12] : List Open)) false) :: nn 43 ([]))⟩) ?_ ?_
      · intro k153 h
        conv => whnf
        refine dOB (by kernel_rfl) ?_
        conv => whnf
        replace h := bind_inv h; obtain ⟨v154, g155, h⟩ := h
        refine ⟨_, _, session_Valid_ok g155, .inl rfl, ?_⟩
        conv => whnf
        replace h := bind_inv h; obtain ⟨v156, g157, h⟩ := h
        refine ⟨_, _, ref32_Valid_ok g157, .inl rfl, ?_⟩
        conv => whnf
        revert h; refine sel_if ?_ ?_ <;> intro h
        · conv => whnf
          refine cOB (by kernel_rfl) ?_
          conv => whnf
          exact join_end (v := true) ⟨rfl, And.intro (.refl _) (And.intro (.refl _) (And.intro (.refl _) (And.intro (.refl _) (And.intro (.refl _) True.intro)))), And.intro (.inl ⟨_, rfl, id⟩) (True.intro), rfl⟩ h
        · conv => whnf
          revert h; refine sel_if ?_ ?_ <;> intro h
          · conv => whnf
            refine cOB (by kernel_rfl) ?_
            conv => whnf
            exact join_end (v := true) ⟨rfl, And.intro (.refl _) (And.intro (.refl _) (And.intro (.refl _) (And.intro (.refl _) (And.intro (.refl _) True.intro)))), And.intro (.inl ⟨_, rfl, id⟩) (True.intro), rfl⟩ h
          · conv => whnf
            refine ⟨v142, rfl, ?_⟩
            conv => whnf
            refine ⟨v145, rfl, ?_⟩
            conv => whnf
            refine cOB (by kernel_rfl) ?_
            conv => whnf
            exact join_end (v := (!((bs v142).toList == (bs v145).toList))) ⟨rfl, And.intro (.refl _) (And.intro (.refl _) (And.intro (.refl _) (And.intro (.refl _) (And.intro (.refl _) True.intro)))), And.intro (.inl ⟨_, rfl, id⟩) (True.intro), rfl⟩ h
      · rintro v152 h
        conv => whnf
        refine .go ?_
        conv => whnf
        revert h; refine sel_if ?_ ?_ <;> intro h
        · conv => whnf
          cases h
          exact ⟨rfl, rfl⟩
        · conv => whnf
          refine ⟨_, hwi121, ?_⟩
          conv => whnf
          exact hK124 _ () ⟨rfl, And.intro (.refl _) (And.intro (.refl _) (And.intro (.refl _) (And.intro (.refl _) True.intro))), And.intro (.inl ⟨_, rfl, id⟩) (True.intro), rfl⟩ h
  · rintro _ h
    conv => whnf
    revert h; refine cut_join (fun v166 => ⟨dd 6 (AV.d (D.b v166) :: dd 62 ([])), nn 69 ([])⟩) ?_ ?_
    · intro k167 h
      conv => whnf
      replace h := bind_inv h; obtain ⟨v168, g169, h⟩ := h
      refine ⟨_, _, session_Notify_ok g169, .inl rfl, ?_⟩
      conv => whnf
      replace h := bind_inv h; obtain ⟨v170, g171, h⟩ := h
      refine ⟨_, _, ref32_Notify_ok g171, .inl rfl, ?_⟩
      conv => whnf
      refine ⟨rfl, ?_⟩
      conv => whnf
      refine ⟨rfl, ?_⟩
      conv => whnf
      replace h := bind_inv h; obtain ⟨v172, g173, h⟩ := h
      refine ⟨_, _, ref32_SameMessages_ok g173, .inl rfl, ?_⟩
      conv => whnf
      revert h; refine sel_if ?_ ?_ <;> intro h
      · conv => whnf
        replace h := bind_inv h; obtain ⟨v174, g175, h⟩ := h
        refine ⟨_, _, law32_awake_ok g175, .inl rfl, ?_⟩
        conv => whnf
        exact join_end (v := v174) ⟨rfl, And.intro (.refl _) True.intro, True.intro, rfl⟩ h
      · conv => whnf
        exact join_end (v := false) ⟨rfl, And.intro (.refl _) True.intro, True.intro, rfl⟩ h
    · rintro v166 h
      conv => whnf
      cases h
      exact ⟨rfl, rfl⟩
end Go.AX.Q32
