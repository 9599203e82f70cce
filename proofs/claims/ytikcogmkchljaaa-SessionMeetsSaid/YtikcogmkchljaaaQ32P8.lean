/-
  The functions do what their plain forms say (proofs written by a program of mine), part 8.
-/
import Derived.Test.YtikcogmkchljaaaQ32P7
namespace Go.AX.Q32
open Go Go.AX Go.Proofs
set_option maxRecDepth 100000
set_option maxHeartbeats 4000000
set_option linter.unusedVariables false
theorem session_Hold_ok {a0 : Session} {r : Int} (h : session_Hold a0 = some r) : CallsOK Try.prog 28 [AV.d (Session.toD a0)] [] (.d (D.i r)) [] := by
  refine ok Try.f28 (by kernel_rfl) (by kernel_rfl) ⟨rfl, ?_⟩
  unfold session_Hold at h
  conv => whnf
  refine dOB (by kernel_rfl) ?_
  conv => whnf
  refine cOB (by kernel_rfl) ?_
  conv => whnf
  revert h; refine cut_join (fun v1 => ⟨X :: X :: X :: AV.d (D.i a0.Mine.Hold) :: AV.d (D.i a0.Theirs.Hold) :: dd 16 (AV.d (D.b v1) :: X :: X :: []), nn 24 ([])⟩) ?_ ?_
  · intro k2 h
    conv => whnf
    revert h; refine sel_if ?_ ?_ <;> intro h
    · conv => whnf
      exact join_end (v := true) ⟨rfl, And.intro (.refl _) (And.intro (.refl _) (And.intro (.refl _) True.intro)), True.intro, rfl⟩ h
    · conv => whnf
      revert h; refine sel_if ?_ ?_ <;> intro h
      · conv => whnf
        exact join_end (v := (decide (a0.Theirs.Hold < a0.Mine.Hold))) ⟨rfl, And.intro (.refl _) (And.intro (.refl _) (And.intro (.refl _) True.intro)), True.intro, rfl⟩ h
      · conv => whnf
        exact join_end (v := false) ⟨rfl, And.intro (.refl _) (And.intro (.refl _) (And.intro (.refl _) True.intro)), True.intro, rfl⟩ h
  · rintro v1 h
    conv => whnf
    refine .go ?_
    conv => whnf
    revert h; refine sel_if ?_ ?_ <;> intro h
    · conv => whnf
      cases h
      exact ⟨rfl, rfl⟩
    · conv => whnf
      cases h
      exact ⟨rfl, rfl⟩

theorem ref32_Hold_ok {a0 : Session} {r : Int} (h : ref32_Hold a0 = some r) : CallsOK Try.prog 29 [AV.d (Session.toD a0)] [] (.d (D.i r)) [] := by
  refine ok Try.f29 (by kernel_rfl) (by kernel_rfl) ⟨rfl, ?_⟩
  unfold ref32_Hold at h
  conv => whnf
  refine dOB (by kernel_rfl) ?_
  conv => whnf
  refine cOB (by kernel_rfl) ?_
  conv => whnf
  revert h; refine cut_join (fun v1 => ⟨X :: X :: X :: AV.d (D.i a0.Mine.Hold) :: AV.d (D.i a0.Theirs.Hold) :: dd 16 (AV.d (D.b v1) :: X :: X :: []), nn 24 ([])⟩) ?_ ?_
  · intro k2 h
    conv => whnf
    revert h; refine sel_if ?_ ?_ <;> intro h
    · conv => whnf
      exact join_end (v := true) ⟨rfl, And.intro (.refl _) (And.intro (.refl _) (And.intro (.refl _) True.intro)), True.intro, rfl⟩ h
    · conv => whnf
      revert h; refine sel_if ?_ ?_ <;> intro h
      · conv => whnf
        exact join_end (v := (decide (a0.Theirs.Hold < a0.Mine.Hold))) ⟨rfl, And.intro (.refl _) (And.intro (.refl _) (And.intro (.refl _) True.intro)), True.intro, rfl⟩ h
      · conv => whnf
        exact join_end (v := false) ⟨rfl, And.intro (.refl _) (And.intro (.refl _) (And.intro (.refl _) True.intro)), True.intro, rfl⟩ h
  · rintro v1 h
    conv => whnf
    refine .go ?_
    conv => whnf
    revert h; refine sel_if ?_ ?_ <;> intro h
    · conv => whnf
      cases h
      exact ⟨rfl, rfl⟩
    · conv => whnf
      cases h
      exact ⟨rfl, rfl⟩

theorem law32_ref0_ok {a0 : Int} {r : Int} (h : law32_ref0 a0 = some r) : CallsOK Try.prog 33 [AV.d (D.i a0)] [] (.d (D.i r)) [] := by
  refine ok Try.f33 (by kernel_rfl) (by kernel_rfl) ⟨rfl, ?_⟩
  unfold law32_ref0 at h
  conv => whnf
  replace h := bind_inv h; obtain ⟨v1, g2, h⟩ := h
  refine ⟨_, _, mill_Mod_ok g2, .inl rfl, ?_⟩
  conv => whnf
  replace h := bind_inv h; obtain ⟨v3, g4, h⟩ := h
  refine ⟨rfl, geti_b (f := D.i) g4, ?_⟩
  conv => whnf
  refine ⟨rfl, D.i v3, (geti_d (f := D.i) g4), ?_⟩
  conv => whnf
  cases h
  exact ⟨rfl, rfl⟩

theorem law32_message_ok {a0 : Deck} {a1 : Session} {r : Message × Deck} (h : law32_message a0 a1 = some r) : CallsOK Try.prog 30 [.ref 0 0, AV.d (Session.toD a1)] [.box (Deck.av a0)] (.d (Message.toD r.1)) [.box (Deck.av r.2)] := by
  refine ok Try.f30 (by kernel_rfl) (by kernel_rfl) ⟨rfl, ?_⟩
  unfold law32_message at h
  conv => whnf
  replace h := bind_inv h; obtain ⟨⟨v1, v2⟩, g3, h⟩ := h
  refine ⟨_, _, mill_Deck_Next_ok g3, .inl rfl, ?_⟩
  conv => whnf
  refine .go ?_
  conv => whnf
  revert h; refine cut_join (fun v88 => ⟨AV.ref 0 0 :: X :: X :: AV.ref 4 0 :: AV.ref 5 0 :: dd 4 (AV.d (D.i v1) :: AV.d (D.b v88) :: dd 48 ([])), some (OB.box [AV.d (D.l 1 D.i v2.L), AV.d (D.i v2.At)]) :: N :: N :: N :: some (OB.box [AV.d (D.i a1.State), AV.d (D.i a1.Mine.ASN), AV.d (D.i a1.Mine.ID), AV.d (D.i a1.Mine.Hold), AV.d (D.i a1.Mine.Role), AV.d (D.i a1.Mine.Grace), AV.d (D.b a1.Mine.Again), AV.d (D.i a1.ASN), AV.d (D.i a1.Theirs.ASN), AV.d (D.i a1.Theirs.ID), AV.d (D.i a1.Theirs.Hold), AV.d (D.i a1.Theirs.Role), AV.d (D.i a1.Theirs.Grace), AV.d (D.b a1.Theirs.Again), AV.d (D.i a1.Sent), AV.d (D.i a1.Heard)]) :: some (OB.box [AV.d (D.i 0), AV.d (D.nil 1)]) :: nn 54 ([])⟩) ?_ ?_
  · intro k89 h
    conv => whnf
    revert h; refine sel_if ?_ ?_ <;> intro h
    · conv => whnf
      exact join_end (v := (v1 == 0)) ⟨rfl, And.intro (.refl _) (And.intro (.refl _) (And.intro (.refl _) (And.intro (.refl _) (And.intro (.refl _) True.intro)))), And.intro ⟨_, rfl, And.intro ⟨rfl, .refl _⟩ (And.intro ⟨rfl, .refl _⟩ (True.intro))⟩ (And.intro ⟨_, rfl, And.intro ⟨rfl, .refl _⟩ (And.intro ⟨rfl, .refl _⟩ (And.intro ⟨rfl, .refl _⟩ (And.intro ⟨rfl, .refl _⟩ (And.intro ⟨rfl, .refl _⟩ (And.intro ⟨rfl, .refl _⟩ (And.intro ⟨rfl, .refl _⟩ (And.intro ⟨rfl, .refl _⟩ (And.intro ⟨rfl, .refl _⟩ (And.intro ⟨rfl, .refl _⟩ (And.intro ⟨rfl, .refl _⟩ (And.intro ⟨rfl, .refl _⟩ (And.intro ⟨rfl, .refl _⟩ (And.intro ⟨rfl, .refl _⟩ (And.intro ⟨rfl, .refl _⟩ (And.intro ⟨rfl, .refl _⟩ (True.intro))))))))))))))))⟩ (And.intro ⟨_, rfl, And.intro ⟨rfl, .refl _⟩ (And.intro ⟨rfl, .refl _⟩ (True.intro))⟩ (True.intro))), rfl⟩ h
    · conv => whnf
      exact join_end (v := (v1 == 1)) ⟨rfl, And.intro (.refl _) (And.intro (.refl _) (And.intro (.refl _) (And.intro (.refl _) (And.intro (.refl _) True.intro)))), And.intro ⟨_, rfl, And.intro ⟨rfl, .refl _⟩ (And.intro ⟨rfl, .refl _⟩ (True.intro))⟩ (And.intro ⟨_, rfl, And.intro ⟨rfl, .refl _⟩ (And.intro ⟨rfl, .refl _⟩ (And.intro ⟨rfl, .refl _⟩ (And.intro ⟨rfl, .refl _⟩ (And.intro ⟨rfl, .refl _⟩ (And.intro ⟨rfl, .refl _⟩ (And.intro ⟨rfl, .refl _⟩ (And.intro ⟨rfl, .refl _⟩ (And.intro ⟨rfl, .refl _⟩ (And.intro ⟨rfl, .refl _⟩ (And.intro ⟨rfl, .refl _⟩ (And.intro ⟨rfl, .refl _⟩ (And.intro ⟨rfl, .refl _⟩ (And.intro ⟨rfl, .refl _⟩ (And.intro ⟨rfl, .refl _⟩ (And.intro ⟨rfl, .refl _⟩ (True.intro))))))))))))))))⟩ (And.intro ⟨_, rfl, And.intro ⟨rfl, .refl _⟩ (And.intro ⟨rfl, .refl _⟩ (True.intro))⟩ (True.intro))), rfl⟩ h
  · rintro v88 h
    conv => whnf
    refine .go ?_
    conv => whnf
    revert h; refine sel_if ?_ ?_ <;> intro h
    · conv => whnf
      replace h := bind_inv h; obtain ⟨⟨v131, v132⟩, g133, h⟩ := h
      refine ⟨_, _, mill_Deck_Open_ok g133, .inl rfl, ?_⟩
      conv => whnf
      replace h := bind_inv h; obtain ⟨⟨v134, v135⟩, g136, h⟩ := h
      refine ⟨_, _, mill_Deck_Next_ok g136, .inl rfl, ?_⟩
      conv => whnf
      revert h; refine cut_join (fun v139 => ⟨dd 4 (AV.ref 5 0 :: AV.ref 6 0 :: dd 53 ([])), some (OB.box [AV.d (D.l 1 D.i v135.L), AV.d (D.i v135.At)]) :: nn 4 (some (OB.box [AV.d (D.i 0), AV.d (D.nil 1)]) :: some (OB.box [AV.d (D.i v131.ASN), AV.d (D.i v131.ID), AV.d (D.i v131.Hold), AV.d (D.i v139), AV.d (D.i v131.Grace), AV.d (D.b v131.Again)]) :: nn 53 ([]))⟩) ?_ ?_
      · intro k140 h
        conv => whnf
        revert h; refine sel_if ?_ ?_ <;> intro h
        · conv => whnf
          replace h := bind_inv h; obtain ⟨v141, g142, h⟩ := h
          refine ⟨_, _, law32_ref0_ok g142, .inl rfl, ?_⟩
          conv => whnf
          exact join_end (v := v141) ⟨rfl, And.intro (.refl _) (And.intro (.refl _) True.intro), And.intro ⟨_, rfl, And.intro ⟨rfl, .refl _⟩ (And.intro ⟨rfl, .refl _⟩ (True.intro))⟩ (And.intro ⟨_, rfl, And.intro ⟨rfl, .refl _⟩ (And.intro ⟨rfl, .refl _⟩ (True.intro))⟩ (And.intro ⟨_, rfl, And.intro ⟨rfl, .refl _⟩ (And.intro ⟨rfl, .refl _⟩ (And.intro ⟨rfl, .refl _⟩ (And.intro ⟨rfl, .refl _⟩ (And.intro ⟨rfl, .refl _⟩ (And.intro ⟨rfl, .refl _⟩ (True.intro))))))⟩ (True.intro))), rfl⟩ h
        · conv => whnf
          exact join_end (v := v131.Role) ⟨rfl, And.intro (.refl _) (And.intro (.refl _) True.intro), And.intro ⟨_, rfl, And.intro ⟨rfl, .refl _⟩ (And.intro ⟨rfl, .refl _⟩ (True.intro))⟩ (And.intro ⟨_, rfl, And.intro ⟨rfl, .refl _⟩ (And.intro ⟨rfl, .refl _⟩ (True.intro))⟩ (And.intro ⟨_, rfl, And.intro ⟨rfl, .refl _⟩ (And.intro ⟨rfl, .refl _⟩ (And.intro ⟨rfl, .refl _⟩ (And.intro ⟨rfl, .refl _⟩ (And.intro ⟨rfl, .refl _⟩ (And.intro ⟨rfl, .refl _⟩ (True.intro))))))⟩ (True.intro))), rfl⟩ h
      · rintro v139 h
        conv => whnf
        replace h := bind_inv h; obtain ⟨⟨v143, v144⟩, g145, h⟩ := h
        refine ⟨_, _, ref32_Encode_ok g145, .inl rfl, ?_⟩
        conv => whnf
        cases h
        exact ⟨rfl, rfl⟩
    · conv => whnf
      revert h; refine cut_join (fun v148 => ⟨AV.ref 0 0 :: X :: X :: X :: AV.ref 5 0 :: dd 4 (AV.d (D.i v1) :: dd 22 (AV.d (D.b v148) :: dd 26 ([]))), some (OB.box [AV.d (D.l 1 D.i v2.L), AV.d (D.i v2.At)]) :: nn 4 (some (OB.box [AV.d (D.i 0), AV.d (D.nil 1)]) :: nn 54 ([]))⟩) ?_ ?_
      · intro k149 h
        conv => whnf
        revert h; refine sel_if ?_ ?_ <;> intro h
        · conv => whnf
          exact join_end (v := (v1 == 2)) ⟨rfl, And.intro (.refl _) (And.intro (.refl _) (And.intro (.refl _) (And.intro (.refl _) True.intro))), And.intro ⟨_, rfl, And.intro ⟨rfl, .refl _⟩ (And.intro ⟨rfl, .refl _⟩ (True.intro))⟩ (And.intro ⟨_, rfl, And.intro ⟨rfl, .refl _⟩ (And.intro ⟨rfl, .refl _⟩ (True.intro))⟩ (True.intro)), rfl⟩ h
        · conv => whnf
          revert h; refine cut_join (fun v150 => ⟨AV.ref 0 0 :: X :: X :: X :: AV.ref 5 0 :: dd 4 (AV.d (D.i v1) :: dd 22 (AV.d (D.b v150) :: dd 26 ([]))), some (OB.box [AV.d (D.l 1 D.i v2.L), AV.d (D.i v2.At)]) :: nn 4 (some (OB.box [AV.d (D.i 0), AV.d (D.nil 1)]) :: nn 54 ([]))⟩) ?_ ?_
          · intro k151 h
            conv => whnf
            revert h; refine sel_if ?_ ?_ <;> intro h
            · conv => whnf
              exact join_end (v := (v1 == 3)) ⟨rfl, And.intro (.refl _) (And.intro (.refl _) (And.intro (.refl _) (And.intro (.refl _) True.intro))), And.intro ⟨_, rfl, And.intro ⟨rfl, .refl _⟩ (And.intro ⟨rfl, .refl _⟩ (True.intro))⟩ (And.intro ⟨_, rfl, And.intro ⟨rfl, .refl _⟩ (And.intro ⟨rfl, .refl _⟩ (True.intro))⟩ (True.intro)), rfl⟩ h
            · conv => whnf
              exact join_end (v := (v1 == 4)) ⟨rfl, And.intro (.refl _) (And.intro (.refl _) (And.intro (.refl _) (And.intro (.refl _) True.intro))), And.intro ⟨_, rfl, And.intro ⟨rfl, .refl _⟩ (And.intro ⟨rfl, .refl _⟩ (True.intro))⟩ (And.intro ⟨_, rfl, And.intro ⟨rfl, .refl _⟩ (And.intro ⟨rfl, .refl _⟩ (True.intro))⟩ (True.intro)), rfl⟩ h
          · rintro v150 h
            conv => whnf
            exact join_end (v := v150) ⟨rfl, And.intro (.refl _) (And.intro (.refl _) (And.intro (.refl _) (And.intro (.refl _) True.intro))), And.intro ⟨_, rfl, And.intro ⟨rfl, .refl _⟩ (And.intro ⟨rfl, .refl _⟩ (True.intro))⟩ (And.intro ⟨_, rfl, And.intro ⟨rfl, .refl _⟩ (And.intro ⟨rfl, .refl _⟩ (True.intro))⟩ (True.intro)), rfl⟩ h
      · rintro v148 h
        conv => whnf
        refine .go ?_
        conv => whnf
        revert h; refine sel_if ?_ ?_ <;> intro h
        · conv => whnf
          replace h := bind_inv h; obtain ⟨⟨v162, v163⟩, g164, h⟩ := h
          refine ⟨_, _, mill_Deck_Next_ok g164, .inl rfl, ?_⟩
          conv => whnf
          replace h := bind_inv h; obtain ⟨v165, g166, h⟩ := h
          refine ⟨rfl, geti_b (f := D.i) g166, ?_⟩
          conv => whnf
          refine ⟨rfl, D.i v165, (geti_d (f := D.i) g166), ?_⟩
          conv => whnf
          replace h := bind_inv h; obtain ⟨_, g167, h⟩ := h
          refine ⟨make_b g167 (Nat.le_of_ble_eq_true rfl), D.u8 (0 : UInt8), rfl, (List.map D.u8 (List.replicate (Int.toNat v165) (0 : UInt8))), List.map_replicate.symm, ?_⟩
          conv => whnf
          refine ⟨rfl, ?_⟩
          conv => whnf
          cases h
          exact ⟨rfl, rfl⟩
        · conv => whnf
          revert h; refine cut_join (fun v168 => ⟨AV.ref 0 0 :: X :: X :: X :: AV.ref 5 0 :: dd 4 (AV.d (D.i v1) :: dd 33 (AV.d (D.b v168) :: dd 15 ([]))), some (OB.box [AV.d (D.l 1 D.i v2.L), AV.d (D.i v2.At)]) :: nn 4 (some (OB.box [AV.d (D.i 0), AV.d (D.nil 1)]) :: nn 54 ([]))⟩) ?_ ?_
          · intro k169 h
            conv => whnf
            revert h; refine sel_if ?_ ?_ <;> intro h
            · conv => whnf
              exact join_end (v := (v1 == 5)) ⟨rfl, And.intro (.refl _) (And.intro (.refl _) (And.intro (.refl _) (And.intro (.refl _) True.intro))), And.intro ⟨_, rfl, And.intro ⟨rfl, .refl _⟩ (And.intro ⟨rfl, .refl _⟩ (True.intro))⟩ (And.intro ⟨_, rfl, And.intro ⟨rfl, .refl _⟩ (And.intro ⟨rfl, .refl _⟩ (True.intro))⟩ (True.intro)), rfl⟩ h
            · conv => whnf
              exact join_end (v := (v1 == 6)) ⟨rfl, And.intro (.refl _) (And.intro (.refl _) (And.intro (.refl _) (And.intro (.refl _) True.intro))), And.intro ⟨_, rfl, And.intro ⟨rfl, .refl _⟩ (And.intro ⟨rfl, .refl _⟩ (True.intro))⟩ (And.intro ⟨_, rfl, And.intro ⟨rfl, .refl _⟩ (And.intro ⟨rfl, .refl _⟩ (True.intro))⟩ (True.intro)), rfl⟩ h
          · rintro v168 h
            conv => whnf
            refine .go ?_
            conv => whnf
            revert h; refine sel_if ?_ ?_ <;> intro h
            · conv => whnf
              replace h := bind_inv h; obtain ⟨_, g171, h⟩ := h
              refine ⟨make_b g171 (Nat.le_of_ble_eq_true rfl), D.u8 (0 : UInt8), rfl, (List.map D.u8 (List.replicate (Int.toNat 4) (0 : UInt8))), List.map_replicate.symm, ?_⟩
              conv => whnf
              refine ⟨rfl, ?_⟩
              conv => whnf
              cases h
              exact ⟨rfl, rfl⟩
            · conv => whnf
              refine .go ?_
              conv => whnf
              revert h; refine sel_if ?_ ?_ <;> intro h
              · conv => whnf
                cases h
                exact ⟨rfl, rfl⟩
              · conv => whnf
                replace h := bind_inv h; obtain ⟨⟨v172, v173⟩, g174, h⟩ := h
                refine ⟨_, _, mill_Deck_Next_ok g174, .inl rfl, ?_⟩
                conv => whnf
                refine ⟨_, rfl, ?_⟩
                conv => whnf
                replace h := bind_inv h; obtain ⟨⟨v175, v176⟩, g177, h⟩ := h
                refine ⟨_, _, mill_Deck_Next_ok g177, .inl rfl, ?_⟩
                conv => whnf
                refine ⟨_, u8_wrap _, ?_⟩
                conv => whnf
                refine ⟨rfl, ?_⟩
                conv => whnf
                cases h
                exact ⟨rfl, rfl⟩

theorem session_Tick_ok {a0 : Session} {a1 : Int} {r : Session × (List Message)} (h : session_Tick a0 a1 = some r) : CallsOK Try.prog 31 [AV.d (Session.toD a0), AV.d (D.i a1)] [] (.tup [.d (Session.toD r.1), .d (D.l 2 Message.toD r.2)]) [] := by
  refine ok Try.f31 (by kernel_rfl) (by kernel_rfl) ⟨rfl, ?_⟩
  unfold session_Tick at h
  conv => whnf
  replace h := bind_inv h; obtain ⟨v1, g2, h⟩ := h
  refine ⟨_, _, session_Hold_ok g2, .inl rfl, ?_⟩
  conv => whnf
  revert h; refine cut_join (fun v3 => ⟨X :: AV.d (D.i a1) :: AV.ref 2 0 :: X :: AV.ref 4 0 :: X :: AV.d (D.i v3) :: dd 55 ([]), N :: N :: some (OB.box [AV.d (D.i a0.State), AV.d (D.i a0.Mine.ASN), AV.d (D.i a0.Mine.ID), AV.d (D.i a0.Mine.Hold), AV.d (D.i a0.Mine.Role), AV.d (D.i a0.Mine.Grace), AV.d (D.b a0.Mine.Again), AV.d (D.i a0.ASN), AV.d (D.i a0.Theirs.ASN), AV.d (D.i a0.Theirs.ID), AV.d (D.i a0.Theirs.Hold), AV.d (D.i a0.Theirs.Role), AV.d (D.i a0.Theirs.Grace), AV.d (D.b a0.Theirs.Again), AV.d (D.i a0.Sent), AV.d (D.i a0.Heard)]) :: N :: some (OB.box [AV.d (D.i 0), AV.d (D.i 0), AV.d (D.i 0), AV.d (D.i 0), AV.d (D.i 0), AV.d (D.i 0), AV.d (D.b false), AV.d (D.i 0), AV.d (D.i 0), AV.d (D.i 0), AV.d (D.i 0), AV.d (D.i 0), AV.d (D.i 0), AV.d (D.b false), AV.d (D.i 0), AV.d (D.i 0)]) :: nn 57 ([])⟩) ?_ ?_
  · intro k4 h
    conv => whnf
    revert h; refine sel_if ?_ ?_ <;> intro h
    · conv => whnf
      exact join_end (v := 240) ⟨rfl, And.intro (.refl _) (And.intro (.refl _) (And.intro (.refl _) (And.intro (.refl _) True.intro))), And.intro ⟨_, rfl, And.intro ⟨rfl, .refl _⟩ (And.intro ⟨rfl, .refl _⟩ (And.intro ⟨rfl, .refl _⟩ (And.intro ⟨rfl, .refl _⟩ (And.intro ⟨rfl, .refl _⟩ (And.intro ⟨rfl, .refl _⟩ (And.intro ⟨rfl, .refl _⟩ (And.intro ⟨rfl, .refl _⟩ (And.intro ⟨rfl, .refl _⟩ (And.intro ⟨rfl, .refl _⟩ (And.intro ⟨rfl, .refl _⟩ (And.intro ⟨rfl, .refl _⟩ (And.intro ⟨rfl, .refl _⟩ (And.intro ⟨rfl, .refl _⟩ (And.intro ⟨rfl, .refl _⟩ (And.intro ⟨rfl, .refl _⟩ (True.intro))))))))))))))))⟩ (And.intro ⟨_, rfl, And.intro ⟨rfl, .refl _⟩ (And.intro ⟨rfl, .refl _⟩ (And.intro ⟨rfl, .refl _⟩ (And.intro ⟨rfl, .refl _⟩ (And.intro ⟨rfl, .refl _⟩ (And.intro ⟨rfl, .refl _⟩ (And.intro ⟨rfl, .refl _⟩ (And.intro ⟨rfl, .refl _⟩ (And.intro ⟨rfl, .refl _⟩ (And.intro ⟨rfl, .refl _⟩ (And.intro ⟨rfl, .refl _⟩ (And.intro ⟨rfl, .refl _⟩ (And.intro ⟨rfl, .refl _⟩ (And.intro ⟨rfl, .refl _⟩ (And.intro ⟨rfl, .refl _⟩ (And.intro ⟨rfl, .refl _⟩ (True.intro))))))))))))))))⟩ (True.intro)), rfl⟩ h
    · conv => whnf
      exact join_end (v := v1) ⟨rfl, And.intro (.refl _) (And.intro (.refl _) (And.intro (.refl _) (And.intro (.refl _) True.intro))), And.intro ⟨_, rfl, And.intro ⟨rfl, .refl _⟩ (And.intro ⟨rfl, .refl _⟩ (And.intro ⟨rfl, .refl _⟩ (And.intro ⟨rfl, .refl _⟩ (And.intro ⟨rfl, .refl _⟩ (And.intro ⟨rfl, .refl _⟩ (And.intro ⟨rfl, .refl _⟩ (And.intro ⟨rfl, .refl _⟩ (And.intro ⟨rfl, .refl _⟩ (And.intro ⟨rfl, .refl _⟩ (And.intro ⟨rfl, .refl _⟩ (And.intro ⟨rfl, .refl _⟩ (And.intro ⟨rfl, .refl _⟩ (And.intro ⟨rfl, .refl _⟩ (And.intro ⟨rfl, .refl _⟩ (And.intro ⟨rfl, .refl _⟩ (True.intro))))))))))))))))⟩ (And.intro ⟨_, rfl, And.intro ⟨rfl, .refl _⟩ (And.intro ⟨rfl, .refl _⟩ (And.intro ⟨rfl, .refl _⟩ (And.intro ⟨rfl, .refl _⟩ (And.intro ⟨rfl, .refl _⟩ (And.intro ⟨rfl, .refl _⟩ (And.intro ⟨rfl, .refl _⟩ (And.intro ⟨rfl, .refl _⟩ (And.intro ⟨rfl, .refl _⟩ (And.intro ⟨rfl, .refl _⟩ (And.intro ⟨rfl, .refl _⟩ (And.intro ⟨rfl, .refl _⟩ (And.intro ⟨rfl, .refl _⟩ (And.intro ⟨rfl, .refl _⟩ (And.intro ⟨rfl, .refl _⟩ (And.intro ⟨rfl, .refl _⟩ (True.intro))))))))))))))))⟩ (True.intro)), rfl⟩ h
  · rintro v3 h
    conv => whnf
    refine .go ?_
    conv => whnf
    revert h; refine cut_join (fun v75 => ⟨X :: AV.d (D.i a1) :: AV.ref 2 0 :: X :: AV.ref 4 0 :: X :: AV.d (D.i v3) :: dd 5 (AV.d (D.b v75) :: dd 49 ([])), N :: N :: some (OB.box [AV.d (D.i a0.State), AV.d (D.i a0.Mine.ASN), AV.d (D.i a0.Mine.ID), AV.d (D.i a0.Mine.Hold), AV.d (D.i a0.Mine.Role), AV.d (D.i a0.Mine.Grace), AV.d (D.b a0.Mine.Again), AV.d (D.i a0.ASN), AV.d (D.i a0.Theirs.ASN), AV.d (D.i a0.Theirs.ID), AV.d (D.i a0.Theirs.Hold), AV.d (D.i a0.Theirs.Role), AV.d (D.i a0.Theirs.Grace), AV.d (D.b a0.Theirs.Again), AV.d (D.i a0.Sent), AV.d (D.i a0.Heard)]) :: N :: some (OB.box [AV.d (D.i 0), AV.d (D.i 0), AV.d (D.i 0), AV.d (D.i 0), AV.d (D.i 0), AV.d (D.i 0), AV.d (D.b false), AV.d (D.i 0), AV.d (D.i 0), AV.d (D.i 0), AV.d (D.i 0), AV.d (D.i 0), AV.d (D.i 0), AV.d (D.b false), AV.d (D.i 0), AV.d (D.i 0)]) :: nn 57 ([])⟩) ?_ ?_
    · intro k76 h
      conv => whnf
      revert h; refine sel_if ?_ ?_ <;> intro h
      · conv => whnf
        exact join_end (v := true) ⟨rfl, And.intro (.refl _) (And.intro (.refl _) (And.intro (.refl _) (And.intro (.refl _) (And.intro (.refl _) True.intro)))), And.intro ⟨_, rfl, And.intro ⟨rfl, .refl _⟩ (And.intro ⟨rfl, .refl _⟩ (And.intro ⟨rfl, .refl _⟩ (And.intro ⟨rfl, .refl _⟩ (And.intro ⟨rfl, .refl _⟩ (And.intro ⟨rfl, .refl _⟩ (And.intro ⟨rfl, .refl _⟩ (And.intro ⟨rfl, .refl _⟩ (And.intro ⟨rfl, .refl _⟩ (And.intro ⟨rfl, .refl _⟩ (And.intro ⟨rfl, .refl _⟩ (And.intro ⟨rfl, .refl _⟩ (And.intro ⟨rfl, .refl _⟩ (And.intro ⟨rfl, .refl _⟩ (And.intro ⟨rfl, .refl _⟩ (And.intro ⟨rfl, .refl _⟩ (True.intro))))))))))))))))⟩ (And.intro ⟨_, rfl, And.intro ⟨rfl, .refl _⟩ (And.intro ⟨rfl, .refl _⟩ (And.intro ⟨rfl, .refl _⟩ (And.intro ⟨rfl, .refl _⟩ (And.intro ⟨rfl, .refl _⟩ (And.intro ⟨rfl, .refl _⟩ (And.intro ⟨rfl, .refl _⟩ (And.intro ⟨rfl, .refl _⟩ (And.intro ⟨rfl, .refl _⟩ (And.intro ⟨rfl, .refl _⟩ (And.intro ⟨rfl, .refl _⟩ (And.intro ⟨rfl, .refl _⟩ (And.intro ⟨rfl, .refl _⟩ (And.intro ⟨rfl, .refl _⟩ (And.intro ⟨rfl, .refl _⟩ (And.intro ⟨rfl, .refl _⟩ (True.intro))))))))))))))))⟩ (True.intro)), rfl⟩ h
      · conv => whnf
        revert h; refine sel_if ?_ ?_ <;> intro h
        · conv => whnf
          exact join_end (v := true) ⟨rfl, And.intro (.refl _) (And.intro (.refl _) (And.intro (.refl _) (And.intro (.refl _) (And.intro (.refl _) True.intro)))), And.intro ⟨_, rfl, And.intro ⟨rfl, .refl _⟩ (And.intro ⟨rfl, .refl _⟩ (And.intro ⟨rfl, .refl _⟩ (And.intro ⟨rfl, .refl _⟩ (And.intro ⟨rfl, .refl _⟩ (And.intro ⟨rfl, .refl _⟩ (And.intro ⟨rfl, .refl _⟩ (And.intro ⟨rfl, .refl _⟩ (And.intro ⟨rfl, .refl _⟩ (And.intro ⟨rfl, .refl _⟩ (And.intro ⟨rfl, .refl _⟩ (And.intro ⟨rfl, .refl _⟩ (And.intro ⟨rfl, .refl _⟩ (And.intro ⟨rfl, .refl _⟩ (And.intro ⟨rfl, .refl _⟩ (And.intro ⟨rfl, .refl _⟩ (True.intro))))))))))))))))⟩ (And.intro ⟨_, rfl, And.intro ⟨rfl, .refl _⟩ (And.intro ⟨rfl, .refl _⟩ (And.intro ⟨rfl, .refl _⟩ (And.intro ⟨rfl, .refl _⟩ (And.intro ⟨rfl, .refl _⟩ (And.intro ⟨rfl, .refl _⟩ (And.intro ⟨rfl, .refl _⟩ (And.intro ⟨rfl, .refl _⟩ (And.intro ⟨rfl, .refl _⟩ (And.intro ⟨rfl, .refl _⟩ (And.intro ⟨rfl, .refl _⟩ (And.intro ⟨rfl, .refl _⟩ (And.intro ⟨rfl, .refl _⟩ (And.intro ⟨rfl, .refl _⟩ (And.intro ⟨rfl, .refl _⟩ (And.intro ⟨rfl, .refl _⟩ (True.intro))))))))))))))))⟩ (True.intro)), rfl⟩ h
        · conv => whnf
          exact join_end (v := (decide (a1 < a0.Heard))) ⟨rfl, And.intro (.refl _) (And.intro (.refl _) (And.intro (.refl _) (And.intro (.refl _) (And.intro (.refl _) True.intro)))), And.intro ⟨_, rfl, And.intro ⟨rfl, .refl _⟩ (And.intro ⟨rfl, .refl _⟩ (And.intro ⟨rfl, .refl _⟩ (And.intro ⟨rfl, .refl _⟩ (And.intro ⟨rfl, .refl _⟩ (And.intro ⟨rfl, .refl _⟩ (And.intro ⟨rfl, .refl _⟩ (And.intro ⟨rfl, .refl _⟩ (And.intro ⟨rfl, .refl _⟩ (And.intro ⟨rfl, .refl _⟩ (And.intro ⟨rfl, .refl _⟩ (And.intro ⟨rfl, .refl _⟩ (And.intro ⟨rfl, .refl _⟩ (And.intro ⟨rfl, .refl _⟩ (And.intro ⟨rfl, .refl _⟩ (And.intro ⟨rfl, .refl _⟩ (True.intro))))))))))))))))⟩ (And.intro ⟨_, rfl, And.intro ⟨rfl, .refl _⟩ (And.intro ⟨rfl, .refl _⟩ (And.intro ⟨rfl, .refl _⟩ (And.intro ⟨rfl, .refl _⟩ (And.intro ⟨rfl, .refl _⟩ (And.intro ⟨rfl, .refl _⟩ (And.intro ⟨rfl, .refl _⟩ (And.intro ⟨rfl, .refl _⟩ (And.intro ⟨rfl, .refl _⟩ (And.intro ⟨rfl, .refl _⟩ (And.intro ⟨rfl, .refl _⟩ (And.intro ⟨rfl, .refl _⟩ (And.intro ⟨rfl, .refl _⟩ (And.intro ⟨rfl, .refl _⟩ (And.intro ⟨rfl, .refl _⟩ (And.intro ⟨rfl, .refl _⟩ (True.intro))))))))))))))))⟩ (True.intro)), rfl⟩ h
    · rintro v75 h
      conv => whnf
      refine .go ?_
      conv => whnf
      revert h; refine sel_if ?_ ?_ <;> intro h
      · conv => whnf
        refine ⟨rfl, ?_⟩
        conv => whnf
        cases h
        exact ⟨rfl, rfl⟩
      · conv => whnf
        refine ⟨_, rfl, ?_⟩
        conv => whnf
        refine .go ?_
        conv => whnf
        revert h; refine sel_if ?_ ?_ <;> intro h
        · conv => whnf
          replace h := bind_inv h; obtain ⟨⟨v128, v129⟩, g130, h⟩ := h
          refine ⟨_, _, session_ended_ok g130, .inl rfl, ?_⟩
          conv => whnf
          cases h
          exact ⟨rfl, rfl⟩
        · conv => whnf
          revert h; refine cut_join (fun v135 => ⟨X :: AV.d (D.i a1) :: AV.ref 2 0 :: X :: AV.ref 4 0 :: dd 33 (AV.d (D.b v135) :: dd 23 ([])), N :: N :: some (OB.box [AV.d (D.i a0.State), AV.d (D.i a0.Mine.ASN), AV.d (D.i a0.Mine.ID), AV.d (D.i a0.Mine.Hold), AV.d (D.i a0.Mine.Role), AV.d (D.i a0.Mine.Grace), AV.d (D.b a0.Mine.Again), AV.d (D.i a0.ASN), AV.d (D.i a0.Theirs.ASN), AV.d (D.i a0.Theirs.ID), AV.d (D.i a0.Theirs.Hold), AV.d (D.i a0.Theirs.Role), AV.d (D.i a0.Theirs.Grace), AV.d (D.b a0.Theirs.Again), AV.d (D.i a0.Sent), AV.d (D.i a0.Heard)]) :: N :: some (OB.box [AV.d (D.i 0), AV.d (D.i 0), AV.d (D.i 0), AV.d (D.i 0), AV.d (D.i 0), AV.d (D.i 0), AV.d (D.b false), AV.d (D.i 0), AV.d (D.i 0), AV.d (D.i 0), AV.d (D.i 0), AV.d (D.i 0), AV.d (D.i 0), AV.d (D.b false), AV.d (D.i 0), AV.d (D.i 0)]) :: nn 57 ([])⟩) ?_ ?_
          · intro k136 h
            conv => whnf
            refine dOB (by kernel_rfl) ?_
            conv => whnf
            revert h; refine sel_if ?_ ?_ <;> intro h
            · conv => whnf
              refine ⟨_, rfl, ?_⟩
              conv => whnf
              replace h := bind_inv h; obtain ⟨v137, g138, h⟩ := h
              refine ⟨_, _, session_Hold_ok g138, .inl rfl, ?_⟩
              conv => whnf
              refine ⟨by decide, _, rfl, ?_⟩
              conv => whnf
              refine cOB (by kernel_rfl) ?_
              conv => whnf
              exact join_end (v := (decide ((i64w (a1 - a0.Sent)) ≥ (i64w (Int.tdiv v137 3))))) ⟨rfl, And.intro (.refl _) (And.intro (.refl _) (And.intro (.refl _) (And.intro (.refl _) True.intro))), And.intro ⟨_, rfl, And.intro ⟨rfl, .refl _⟩ (And.intro ⟨rfl, .refl _⟩ (And.intro ⟨rfl, .refl _⟩ (And.intro ⟨rfl, .refl _⟩ (And.intro ⟨rfl, .refl _⟩ (And.intro ⟨rfl, .refl _⟩ (And.intro ⟨rfl, .refl _⟩ (And.intro ⟨rfl, .refl _⟩ (And.intro ⟨rfl, .refl _⟩ (And.intro ⟨rfl, .refl _⟩ (And.intro ⟨rfl, .refl _⟩ (And.intro ⟨rfl, .refl _⟩ (And.intro ⟨rfl, .refl _⟩ (And.intro ⟨rfl, .refl _⟩ (And.intro ⟨rfl, .refl _⟩ (And.intro ⟨rfl, .refl _⟩ (True.intro))))))))))))))))⟩ (And.intro ⟨_, rfl, And.intro ⟨rfl, .refl _⟩ (And.intro ⟨rfl, .refl _⟩ (And.intro ⟨rfl, .refl _⟩ (And.intro ⟨rfl, .refl _⟩ (And.intro ⟨rfl, .refl _⟩ (And.intro ⟨rfl, .refl _⟩ (And.intro ⟨rfl, .refl _⟩ (And.intro ⟨rfl, .refl _⟩ (And.intro ⟨rfl, .refl _⟩ (And.intro ⟨rfl, .refl _⟩ (And.intro ⟨rfl, .refl _⟩ (And.intro ⟨rfl, .refl _⟩ (And.intro ⟨rfl, .refl _⟩ (And.intro ⟨rfl, .refl _⟩ (And.intro ⟨rfl, .refl _⟩ (And.intro ⟨rfl, .refl _⟩ (True.intro))))))))))))))))⟩ (True.intro)), rfl⟩ h
            · conv => whnf
              revert h; refine sel_if ?_ ?_ <;> intro h
              · conv => whnf
                refine ⟨_, rfl, ?_⟩
                conv => whnf
                replace h := bind_inv h; obtain ⟨v139, g140, h⟩ := h
                refine ⟨_, _, session_Hold_ok g140, .inl rfl, ?_⟩
                conv => whnf
                refine ⟨by decide, _, rfl, ?_⟩
                conv => whnf
                refine cOB (by kernel_rfl) ?_
                conv => whnf
                exact join_end (v := (decide ((i64w (a1 - a0.Sent)) ≥ (i64w (Int.tdiv v139 3))))) ⟨rfl, And.intro (.refl _) (And.intro (.refl _) (And.intro (.refl _) (And.intro (.refl _) True.intro))), And.intro ⟨_, rfl, And.intro ⟨rfl, .refl _⟩ (And.intro ⟨rfl, .refl _⟩ (And.intro ⟨rfl, .refl _⟩ (And.intro ⟨rfl, .refl _⟩ (And.intro ⟨rfl, .refl _⟩ (And.intro ⟨rfl, .refl _⟩ (And.intro ⟨rfl, .refl _⟩ (And.intro ⟨rfl, .refl _⟩ (And.intro ⟨rfl, .refl _⟩ (And.intro ⟨rfl, .refl _⟩ (And.intro ⟨rfl, .refl _⟩ (And.intro ⟨rfl, .refl _⟩ (And.intro ⟨rfl, .refl _⟩ (And.intro ⟨rfl, .refl _⟩ (And.intro ⟨rfl, .refl _⟩ (And.intro ⟨rfl, .refl _⟩ (True.intro))))))))))))))))⟩ (And.intro ⟨_, rfl, And.intro ⟨rfl, .refl _⟩ (And.intro ⟨rfl, .refl _⟩ (And.intro ⟨rfl, .refl _⟩ (And.intro ⟨rfl, .refl _⟩ (And.intro ⟨rfl, .refl _⟩ (And.intro ⟨rfl, .refl _⟩ (And.intro ⟨rfl, .refl _⟩ (And.intro ⟨rfl, .refl _⟩ (And.intro ⟨rfl, .refl _⟩ (And.intro ⟨rfl, .refl _⟩ (And.intro ⟨rfl, .refl _⟩ (And.intro ⟨rfl, .refl _⟩ (And.intro ⟨rfl, .refl _⟩ (And.intro ⟨rfl, .refl _⟩ (And.intro ⟨rfl, .refl _⟩ (And.intro ⟨rfl, .refl _⟩ (True.intro))))))))))))))))⟩ (True.intro)), rfl⟩ h
              · conv => whnf
                refine cOB (by kernel_rfl) ?_
                conv => whnf
                exact join_end (v := false) ⟨rfl, And.intro (.refl _) (And.intro (.refl _) (And.intro (.refl _) (And.intro (.refl _) True.intro))), And.intro ⟨_, rfl, And.intro ⟨rfl, .refl _⟩ (And.intro ⟨rfl, .refl _⟩ (And.intro ⟨rfl, .refl _⟩ (And.intro ⟨rfl, .refl _⟩ (And.intro ⟨rfl, .refl _⟩ (And.intro ⟨rfl, .refl _⟩ (And.intro ⟨rfl, .refl _⟩ (And.intro ⟨rfl, .refl _⟩ (And.intro ⟨rfl, .refl _⟩ (And.intro ⟨rfl, .refl _⟩ (And.intro ⟨rfl, .refl _⟩ (And.intro ⟨rfl, .refl _⟩ (And.intro ⟨rfl, .refl _⟩ (And.intro ⟨rfl, .refl _⟩ (And.intro ⟨rfl, .refl _⟩ (And.intro ⟨rfl, .refl _⟩ (True.intro))))))))))))))))⟩ (And.intro ⟨_, rfl, And.intro ⟨rfl, .refl _⟩ (And.intro ⟨rfl, .refl _⟩ (And.intro ⟨rfl, .refl _⟩ (And.intro ⟨rfl, .refl _⟩ (And.intro ⟨rfl, .refl _⟩ (And.intro ⟨rfl, .refl _⟩ (And.intro ⟨rfl, .refl _⟩ (And.intro ⟨rfl, .refl _⟩ (And.intro ⟨rfl, .refl _⟩ (And.intro ⟨rfl, .refl _⟩ (And.intro ⟨rfl, .refl _⟩ (And.intro ⟨rfl, .refl _⟩ (And.intro ⟨rfl, .refl _⟩ (And.intro ⟨rfl, .refl _⟩ (And.intro ⟨rfl, .refl _⟩ (And.intro ⟨rfl, .refl _⟩ (True.intro))))))))))))))))⟩ (True.intro)), rfl⟩ h
          · rintro v135 h
            conv => whnf
            refine .go ?_
            conv => whnf
            revert h; refine sel_if ?_ ?_ <;> intro h
            · conv => whnf
              refine dOB (by kernel_rfl) ?_
              conv => whnf
              replace h := bind_inv h; obtain ⟨v143, g144, h⟩ := h
              refine ⟨_, _, session_keepalive_ok g144, .inl rfl, ?_⟩
              conv => whnf
              refine cOB (by kernel_rfl) ?_
              conv => whnf
              cases h
              exact ⟨rfl, rfl⟩
            · conv => whnf
              refine ⟨rfl, ?_⟩
              conv => whnf
              cases h
              exact ⟨rfl, rfl⟩
end Go.AX.Q32
