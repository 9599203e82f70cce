/-
  The functions do what their plain forms say (proofs written by a program of mine), part 10.
-/
import Derived.Test.YtikcogmkchljaaaQ32P9
namespace Go.AX.Q32
open Go Go.AX Go.Proofs
set_option maxRecDepth 100000
set_option maxHeartbeats 4000000
set_option linter.unusedVariables false
theorem law32_SessionRuns_ok {a0 : Session} {a1 : Message} {a2 : Int} {a3 : List Int} {r : Bool} (h : law32_SessionRuns a0 a1 a2 a3 = some r) : CallsOK Try.prog 6 [AV.d (Session.toD a0), AV.d (Message.toD a1), AV.d (D.i a2), AV.d (D.l 1 D.i a3)] [] (.d (D.b r)) [] := by
  refine ok Try.f6 (by kernel_rfl) (by kernel_rfl) ⟨rfl, ?_⟩
  unfold law32_SessionRuns at h
  conv => whnf
  refine ⟨a1.Body.length, List.length_map _, ?_⟩
  conv => whnf
  refine .go ?_
  conv => whnf
  revert h; refine sel_if ?_ ?_ <;> intro h
  · conv => whnf
    replace h := bind_inv h; obtain ⟨v3, g4, h⟩ := h
    refine ⟨_, _, law32_awake_ok g4, .inl rfl, ?_⟩
    conv => whnf
    cases h
    exact ⟨rfl, rfl⟩
  · conv => whnf
    replace h := bind_inv h; obtain ⟨v5, g6, h⟩ := h
    refine ⟨_, _, mill_New_ok g6, .inr rfl, ?_⟩
    conv => whnf
    refine dOB (by kernel_rfl) ?_
    conv => whnf
    replace h := bind_inv h; obtain ⟨⟨v7, v8⟩, g9, h⟩ := h
    refine ⟨_, _, mill_Deck_Open_ok g9, .inl rfl, ?_⟩
    conv => whnf
    refine ⟨([a0, (⟨0, v7, 102, (⟨0, 0, 0, 0, 0, false⟩ : Open), 0, 0⟩ : Session)] : List Session).length, by first | exact List.length_map _ | rfl | (simp only [List.length_map]; omega), ?_⟩
    conv => whnf
    refine cOB (by kernel_rfl) ?_
    conv => whnf
    revert h; refine cut_join (fun _ => ⟨dd 9 (AV.ref 36 0 :: dd 212 ([])), nn 36 (some (OB.box [AV.d (D.l 1 D.i v8.L), AV.d (D.i v8.At)]) :: nn 185 ([]))⟩) ?_ ?_
    · intro k161 h
      conv => whnf
      revert h; refine loop_own 41 50 16 false Session.toD rfl (fun i236 _ => ⟨X :: X :: AV.d (D.i a2) :: X :: X :: AV.ref 5 0 :: X :: X :: X :: AV.ref 36 0 :: dd 31 (AV.own 41 (List.map Session.toD ([a0, (⟨0, v7, 102, (⟨0, 0, 0, 0, 0, false⟩ : Open), 0, 0⟩ : Session)] : List Session)).length :: AV.d (D.i (([a0, (⟨0, v7, 102, (⟨0, 0, 0, 0, 0, false⟩ : Open), 0, 0⟩ : Session)] : List Session).length : Int)) :: AV.d (D.i (i236 : Int)) :: dd 178 ([])), nn 5 (some (OB.box [AV.d (D.i a1.Type_), AV.d (D.l 1 D.u8 a1.Body)]) :: nn 30 (some (OB.box [AV.d (D.l 1 D.i v8.L), AV.d (D.i v8.At)]) :: nn 4 (some (OB.row 50 16 (List.map Session.toD ([a0, (⟨0, v7, 102, (⟨0, 0, 0, 0, 0, false⟩ : Open), 0, 0⟩ : Session)] : List Session)) false) :: nn 180 ([]))))⟩) ⟨rfl, And.intro (.refl _) (And.intro (.refl _) (And.intro (.refl _) (And.intro (.refl _) (And.intro (.refl _) (And.intro (.refl _) True.intro))))), And.intro ⟨_, rfl, And.intro ⟨rfl, .refl _⟩ (And.intro ⟨rfl, .refl _⟩ (True.intro))⟩ (And.intro ⟨_, rfl, And.intro ⟨rfl, .refl _⟩ (And.intro ⟨rfl, .refl _⟩ (True.intro))⟩ (And.intro (.inl ⟨_, rfl, id⟩) (True.intro))), rfl⟩ ?_ ?_
      · rintro _ K238 h
        conv => whnf
        refine .go ?_
        conv => whnf
        exact join_end (v := ()) ⟨rfl, And.intro (.refl _) True.intro, And.intro ⟨_, rfl, And.intro ⟨rfl, .refl _⟩ (And.intro ⟨rfl, .refl _⟩ (True.intro))⟩ (True.intro), rfl⟩ h
      · rintro next240 i236 x237 _ K238 hii236 hxi236 hwi236 h hK239
        conv => whnf
        refine .go ?_
        conv => whnf
        refine sel_t (lt_t hii236) ?_
        conv => whnf
        refine .go ?_
        conv => whnf
        refine ⟨rfl, idx_b (f := Session.toD) hii236, ?_⟩
        conv => whnf
        refine ⟨rfl, Session.toD x237, hxi236, ?_⟩
        conv => whnf
        replace h := bind_inv h; obtain ⟨⟨v277, v278, v279⟩, g280, h⟩ := h
        refine ⟨_, _, session_Start_ok g280, .inl rfl, ?_⟩
        conv => whnf
        replace h := bind_inv h; obtain ⟨⟨v281, v282, v283⟩, g284, h⟩ := h
        refine ⟨_, _, ref32_Start_ok g284, .inl rfl, ?_⟩
        conv => whnf
        revert h; refine cut_join (fun v287 => ⟨X :: X :: AV.d (D.i a2) :: X :: X :: AV.ref 5 0 :: X :: X :: X :: AV.ref 36 0 :: X :: AV.ref 11 0 :: AV.ref 12 0 :: X :: X :: AV.ref 15 0 :: dd 25 (AV.own 41 (List.map Session.toD ([a0, (⟨0, v7, 102, (⟨0, 0, 0, 0, 0, false⟩ : Open), 0, 0⟩ : Session)] : List Session)).length :: AV.d (D.i (([a0, (⟨0, v7, 102, (⟨0, 0, 0, 0, 0, false⟩ : Open), 0, 0⟩ : Session)] : List Session).length : Int)) :: AV.d (D.i (i236 : Int)) :: dd 30 (AV.d (D.b v287) :: dd 147 ([]))), nn 5 (some (OB.box [AV.d (D.i a1.Type_), AV.d (D.l 1 D.u8 a1.Body)]) :: nn 5 (some (OB.box [AV.d (D.i x237.State), AV.d (D.i x237.Mine.ASN), AV.d (D.i x237.Mine.ID), AV.d (D.i x237.Mine.Hold), AV.d (D.i x237.Mine.Role), AV.d (D.i x237.Mine.Grace), AV.d (D.b x237.Mine.Again), AV.d (D.i x237.ASN), AV.d (D.i x237.Theirs.ASN), AV.d (D.i x237.Theirs.ID), AV.d (D.i x237.Theirs.Hold), AV.d (D.i x237.Theirs.Role), AV.d (D.i x237.Theirs.Grace), AV.d (D.b x237.Theirs.Again), AV.d (D.i x237.Sent), AV.d (D.i x237.Heard)]) :: some (OB.box [AV.d (D.i v277.State), AV.d (D.i v277.Mine.ASN), AV.d (D.i v277.Mine.ID), AV.d (D.i v277.Mine.Hold), AV.d (D.i v277.Mine.Role), AV.d (D.i v277.Mine.Grace), AV.d (D.b v277.Mine.Again), AV.d (D.i v277.ASN), AV.d (D.i v277.Theirs.ASN), AV.d (D.i v277.Theirs.ID), AV.d (D.i v277.Theirs.Hold), AV.d (D.i v277.Theirs.Role), AV.d (D.i v277.Theirs.Grace), AV.d (D.b v277.Theirs.Again), AV.d (D.i v277.Sent), AV.d (D.i v277.Heard)]) :: N :: N :: some (OB.box [AV.d (D.i v281.State), AV.d (D.i v281.Mine.ASN), AV.d (D.i v281.Mine.ID), AV.d (D.i v281.Mine.Hold), AV.d (D.i v281.Mine.Role), AV.d (D.i v281.Mine.Grace), AV.d (D.b v281.Mine.Again), AV.d (D.i v281.ASN), AV.d (D.i v281.Theirs.ASN), AV.d (D.i v281.Theirs.ID), AV.d (D.i v281.Theirs.Hold), AV.d (D.i v281.Theirs.Role), AV.d (D.i v281.Theirs.Grace), AV.d (D.b v281.Theirs.Again), AV.d (D.i v281.Sent), AV.d (D.i v281.Heard)]) :: nn 20 (some (OB.box [AV.d (D.l 1 D.i v8.L), AV.d (D.i v8.At)]) :: nn 4 (some (OB.row 50 16 (List.map Session.toD ([a0, (⟨0, v7, 102, (⟨0, 0, 0, 0, 0, false⟩ : Open), 0, 0⟩ : Session)] : List Session)) false) :: nn 180 ([])))))⟩) ?_ ?_
        · intro k288 h
          conv => whnf
          revert h; refine sel_if ?_ ?_ <;> intro h
          · conv => whnf
            exact join_end (v := true) ⟨rfl, And.intro (.refl _) (And.intro (.refl _) (And.intro (.refl _) (And.intro (.refl _) (And.intro (.refl _) (And.intro (.refl _) (And.intro (.refl _) (And.intro (.refl _) (And.intro (.refl _) (And.intro (.refl _) True.intro))))))))), And.intro ⟨_, rfl, And.intro ⟨rfl, .refl _⟩ (And.intro ⟨rfl, .refl _⟩ (True.intro))⟩ (And.intro ⟨_, rfl, And.intro ⟨rfl, .refl _⟩ (And.intro ⟨rfl, .refl _⟩ (And.intro ⟨rfl, .refl _⟩ (And.intro ⟨rfl, .refl _⟩ (And.intro ⟨rfl, .refl _⟩ (And.intro ⟨rfl, .refl _⟩ (And.intro ⟨rfl, .refl _⟩ (And.intro ⟨rfl, .refl _⟩ (And.intro ⟨rfl, .refl _⟩ (And.intro ⟨rfl, .refl _⟩ (And.intro ⟨rfl, .refl _⟩ (And.intro ⟨rfl, .refl _⟩ (And.intro ⟨rfl, .refl _⟩ (And.intro ⟨rfl, .refl _⟩ (And.intro ⟨rfl, .refl _⟩ (And.intro ⟨rfl, .refl _⟩ (True.intro))))))))))))))))⟩ (And.intro ⟨_, rfl, And.intro ⟨rfl, .refl _⟩ (And.intro ⟨rfl, .refl _⟩ (And.intro ⟨rfl, .refl _⟩ (And.intro ⟨rfl, .refl _⟩ (And.intro ⟨rfl, .refl _⟩ (And.intro ⟨rfl, .refl _⟩ (And.intro ⟨rfl, .refl _⟩ (And.intro ⟨rfl, .refl _⟩ (And.intro ⟨rfl, .refl _⟩ (And.intro ⟨rfl, .refl _⟩ (And.intro ⟨rfl, .refl _⟩ (And.intro ⟨rfl, .refl _⟩ (And.intro ⟨rfl, .refl _⟩ (And.intro ⟨rfl, .refl _⟩ (And.intro ⟨rfl, .refl _⟩ (And.intro ⟨rfl, .refl _⟩ (True.intro))))))))))))))))⟩ (And.intro ⟨_, rfl, And.intro ⟨rfl, .refl _⟩ (And.intro ⟨rfl, .refl _⟩ (And.intro ⟨rfl, .refl _⟩ (And.intro ⟨rfl, .refl _⟩ (And.intro ⟨rfl, .refl _⟩ (And.intro ⟨rfl, .refl _⟩ (And.intro ⟨rfl, .refl _⟩ (And.intro ⟨rfl, .refl _⟩ (And.intro ⟨rfl, .refl _⟩ (And.intro ⟨rfl, .refl _⟩ (And.intro ⟨rfl, .refl _⟩ (And.intro ⟨rfl, .refl _⟩ (And.intro ⟨rfl, .refl _⟩ (And.intro ⟨rfl, .refl _⟩ (And.intro ⟨rfl, .refl _⟩ (And.intro ⟨rfl, .refl _⟩ (True.intro))))))))))))))))⟩ (And.intro ⟨_, rfl, And.intro ⟨rfl, .refl _⟩ (And.intro ⟨rfl, .refl _⟩ (True.intro))⟩ (And.intro (.inl ⟨_, rfl, id⟩) (True.intro)))))), rfl⟩ h
          · conv => whnf
            revert h; refine sel_if ?_ ?_ <;> intro h
            · conv => whnf
              exact join_end (v := true) ⟨rfl, And.intro (.refl _) (And.intro (.refl _) (And.intro (.refl _) (And.intro (.refl _) (And.intro (.refl _) (And.intro (.refl _) (And.intro (.refl _) (And.intro (.refl _) (And.intro (.refl _) (And.intro (.refl _) True.intro))))))))), And.intro ⟨_, rfl, And.intro ⟨rfl, .refl _⟩ (And.intro ⟨rfl, .refl _⟩ (True.intro))⟩ (And.intro ⟨_, rfl, And.intro ⟨rfl, .refl _⟩ (And.intro ⟨rfl, .refl _⟩ (And.intro ⟨rfl, .refl _⟩ (And.intro ⟨rfl, .refl _⟩ (And.intro ⟨rfl, .refl _⟩ (And.intro ⟨rfl, .refl _⟩ (And.intro ⟨rfl, .refl _⟩ (And.intro ⟨rfl, .refl _⟩ (And.intro ⟨rfl, .refl _⟩ (And.intro ⟨rfl, .refl _⟩ (And.intro ⟨rfl, .refl _⟩ (And.intro ⟨rfl, .refl _⟩ (And.intro ⟨rfl, .refl _⟩ (And.intro ⟨rfl, .refl _⟩ (And.intro ⟨rfl, .refl _⟩ (And.intro ⟨rfl, .refl _⟩ (True.intro))))))))))))))))⟩ (And.intro ⟨_, rfl, And.intro ⟨rfl, .refl _⟩ (And.intro ⟨rfl, .refl _⟩ (And.intro ⟨rfl, .refl _⟩ (And.intro ⟨rfl, .refl _⟩ (And.intro ⟨rfl, .refl _⟩ (And.intro ⟨rfl, .refl _⟩ (And.intro ⟨rfl, .refl _⟩ (And.intro ⟨rfl, .refl _⟩ (And.intro ⟨rfl, .refl _⟩ (And.intro ⟨rfl, .refl _⟩ (And.intro ⟨rfl, .refl _⟩ (And.intro ⟨rfl, .refl _⟩ (And.intro ⟨rfl, .refl _⟩ (And.intro ⟨rfl, .refl _⟩ (And.intro ⟨rfl, .refl _⟩ (And.intro ⟨rfl, .refl _⟩ (True.intro))))))))))))))))⟩ (And.intro ⟨_, rfl, And.intro ⟨rfl, .refl _⟩ (And.intro ⟨rfl, .refl _⟩ (And.intro ⟨rfl, .refl _⟩ (And.intro ⟨rfl, .refl _⟩ (And.intro ⟨rfl, .refl _⟩ (And.intro ⟨rfl, .refl _⟩ (And.intro ⟨rfl, .refl _⟩ (And.intro ⟨rfl, .refl _⟩ (And.intro ⟨rfl, .refl _⟩ (And.intro ⟨rfl, .refl _⟩ (And.intro ⟨rfl, .refl _⟩ (And.intro ⟨rfl, .refl _⟩ (And.intro ⟨rfl, .refl _⟩ (And.intro ⟨rfl, .refl _⟩ (And.intro ⟨rfl, .refl _⟩ (And.intro ⟨rfl, .refl _⟩ (True.intro))))))))))))))))⟩ (And.intro ⟨_, rfl, And.intro ⟨rfl, .refl _⟩ (And.intro ⟨rfl, .refl _⟩ (True.intro))⟩ (And.intro (.inl ⟨_, rfl, id⟩) (True.intro)))))), rfl⟩ h
            · conv => whnf
              replace h := bind_inv h; obtain ⟨v289, g290, h⟩ := h
              refine ⟨_, _, ref32_SameMessages_ok g290, .inl rfl, ?_⟩
              conv => whnf
              exact join_end (v := (!v289)) ⟨rfl, And.intro (.refl _) (And.intro (.refl _) (And.intro (.refl _) (And.intro (.refl _) (And.intro (.refl _) (And.intro (.refl _) (And.intro (.refl _) (And.intro (.refl _) (And.intro (.refl _) (And.intro (.refl _) True.intro))))))))), And.intro ⟨_, rfl, And.intro ⟨rfl, .refl _⟩ (And.intro ⟨rfl, .refl _⟩ (True.intro))⟩ (And.intro ⟨_, rfl, And.intro ⟨rfl, .refl _⟩ (And.intro ⟨rfl, .refl _⟩ (And.intro ⟨rfl, .refl _⟩ (And.intro ⟨rfl, .refl _⟩ (And.intro ⟨rfl, .refl _⟩ (And.intro ⟨rfl, .refl _⟩ (And.intro ⟨rfl, .refl _⟩ (And.intro ⟨rfl, .refl _⟩ (And.intro ⟨rfl, .refl _⟩ (And.intro ⟨rfl, .refl _⟩ (And.intro ⟨rfl, .refl _⟩ (And.intro ⟨rfl, .refl _⟩ (And.intro ⟨rfl, .refl _⟩ (And.intro ⟨rfl, .refl _⟩ (And.intro ⟨rfl, .refl _⟩ (And.intro ⟨rfl, .refl _⟩ (True.intro))))))))))))))))⟩ (And.intro ⟨_, rfl, And.intro ⟨rfl, .refl _⟩ (And.intro ⟨rfl, .refl _⟩ (And.intro ⟨rfl, .refl _⟩ (And.intro ⟨rfl, .refl _⟩ (And.intro ⟨rfl, .refl _⟩ (And.intro ⟨rfl, .refl _⟩ (And.intro ⟨rfl, .refl _⟩ (And.intro ⟨rfl, .refl _⟩ (And.intro ⟨rfl, .refl _⟩ (And.intro ⟨rfl, .refl _⟩ (And.intro ⟨rfl, .refl _⟩ (And.intro ⟨rfl, .refl _⟩ (And.intro ⟨rfl, .refl _⟩ (And.intro ⟨rfl, .refl _⟩ (And.intro ⟨rfl, .refl _⟩ (And.intro ⟨rfl, .refl _⟩ (True.intro))))))))))))))))⟩ (And.intro ⟨_, rfl, And.intro ⟨rfl, .refl _⟩ (And.intro ⟨rfl, .refl _⟩ (And.intro ⟨rfl, .refl _⟩ (And.intro ⟨rfl, .refl _⟩ (And.intro ⟨rfl, .refl _⟩ (And.intro ⟨rfl, .refl _⟩ (And.intro ⟨rfl, .refl _⟩ (And.intro ⟨rfl, .refl _⟩ (And.intro ⟨rfl, .refl _⟩ (And.intro ⟨rfl, .refl _⟩ (And.intro ⟨rfl, .refl _⟩ (And.intro ⟨rfl, .refl _⟩ (And.intro ⟨rfl, .refl _⟩ (And.intro ⟨rfl, .refl _⟩ (And.intro ⟨rfl, .refl _⟩ (And.intro ⟨rfl, .refl _⟩ (True.intro))))))))))))))))⟩ (And.intro ⟨_, rfl, And.intro ⟨rfl, .refl _⟩ (And.intro ⟨rfl, .refl _⟩ (True.intro))⟩ (And.intro (.inl ⟨_, rfl, id⟩) (True.intro)))))), rfl⟩ h
        · rintro v287 h
          conv => whnf
          refine .go ?_
          conv => whnf
          revert h; refine sel_if ?_ ?_ <;> intro h
          · conv => whnf
            cases h
            exact ⟨rfl, rfl⟩
          · conv => whnf
            replace h := bind_inv h; obtain ⟨⟨v291, v292, v293⟩, g294, h⟩ := h
            refine ⟨_, _, session_Receive_ok g294, .inl rfl, ?_⟩
            conv => whnf
            replace h := bind_inv h; obtain ⟨⟨v295, v296, v297⟩, g298, h⟩ := h
            refine ⟨_, _, ref32_Receive_ok g298, .inl rfl, ?_⟩
            conv => whnf
            revert h; refine cut_join (fun v305 => ⟨X :: X :: AV.d (D.i a2) :: X :: X :: AV.ref 5 0 :: X :: X :: X :: AV.ref 36 0 :: dd 31 (AV.own 41 (List.map Session.toD ([a0, (⟨0, v7, 102, (⟨0, 0, 0, 0, 0, false⟩ : Open), 0, 0⟩ : Session)] : List Session)).length :: AV.d (D.i (([a0, (⟨0, v7, 102, (⟨0, 0, 0, 0, 0, false⟩ : Open), 0, 0⟩ : Session)] : List Session).length : Int)) :: AV.d (D.i (i236 : Int)) :: dd 67 (AV.d (D.b v305) :: dd 110 ([]))), nn 5 (some (OB.box [AV.d (D.i a1.Type_), AV.d (D.l 1 D.u8 a1.Body)]) :: nn 30 (some (OB.box [AV.d (D.l 1 D.i v8.L), AV.d (D.i v8.At)]) :: nn 4 (some (OB.row 50 16 (List.map Session.toD ([a0, (⟨0, v7, 102, (⟨0, 0, 0, 0, 0, false⟩ : Open), 0, 0⟩ : Session)] : List Session)) false) :: nn 180 ([]))))⟩) ?_ ?_
            · intro k306 h
              conv => whnf
              refine dOB (by kernel_rfl) ?_
              conv => whnf
              revert h; refine sel_if ?_ ?_ <;> intro h
              · conv => whnf
                refine cOB (by kernel_rfl) ?_
                conv => whnf
                exact join_end (v := true) ⟨rfl, And.intro (.refl _) (And.intro (.refl _) (And.intro (.refl _) (And.intro (.refl _) (And.intro (.refl _) (And.intro (.refl _) (And.intro (.refl _) True.intro)))))), And.intro ⟨_, rfl, And.intro ⟨rfl, .refl _⟩ (And.intro ⟨rfl, .refl _⟩ (True.intro))⟩ (And.intro ⟨_, rfl, And.intro ⟨rfl, .refl _⟩ (And.intro ⟨rfl, .refl _⟩ (True.intro))⟩ (And.intro (.inl ⟨_, rfl, id⟩) (True.intro))), rfl⟩ h
              · conv => whnf
                revert h; refine sel_if ?_ ?_ <;> intro h
                · conv => whnf
                  refine cOB (by kernel_rfl) ?_
                  conv => whnf
                  exact join_end (v := true) ⟨rfl, And.intro (.refl _) (And.intro (.refl _) (And.intro (.refl _) (And.intro (.refl _) (And.intro (.refl _) (And.intro (.refl _) (And.intro (.refl _) True.intro)))))), And.intro ⟨_, rfl, And.intro ⟨rfl, .refl _⟩ (And.intro ⟨rfl, .refl _⟩ (True.intro))⟩ (And.intro ⟨_, rfl, And.intro ⟨rfl, .refl _⟩ (And.intro ⟨rfl, .refl _⟩ (True.intro))⟩ (And.intro (.inl ⟨_, rfl, id⟩) (True.intro))), rfl⟩ h
                · conv => whnf
                  replace h := bind_inv h; obtain ⟨v307, g308, h⟩ := h
                  refine ⟨_, _, ref32_SameMessages_ok g308, .inl rfl, ?_⟩
                  conv => whnf
                  revert h; refine sel_if ?_ ?_ <;> intro h
                  · conv => whnf
                    refine cOB (by kernel_rfl) ?_
                    conv => whnf
                    exact join_end (v := true) ⟨rfl, And.intro (.refl _) (And.intro (.refl _) (And.intro (.refl _) (And.intro (.refl _) (And.intro (.refl _) (And.intro (.refl _) (And.intro (.refl _) True.intro)))))), And.intro ⟨_, rfl, And.intro ⟨rfl, .refl _⟩ (And.intro ⟨rfl, .refl _⟩ (True.intro))⟩ (And.intro ⟨_, rfl, And.intro ⟨rfl, .refl _⟩ (And.intro ⟨rfl, .refl _⟩ (True.intro))⟩ (And.intro (.inl ⟨_, rfl, id⟩) (True.intro))), rfl⟩ h
                  · conv => whnf
                    replace h := bind_inv h; obtain ⟨v309, g310, h⟩ := h
                    refine ⟨_, _, session_Hold_ok g310, .inl rfl, ?_⟩
                    conv => whnf
                    replace h := bind_inv h; obtain ⟨v311, g312, h⟩ := h
                    refine ⟨_, _, ref32_Hold_ok g312, .inl rfl, ?_⟩
                    conv => whnf
                    refine cOB (by kernel_rfl) ?_
                    conv => whnf
                    exact join_end (v := (v309 != v311)) ⟨rfl, And.intro (.refl _) (And.intro (.refl _) (And.intro (.refl _) (And.intro (.refl _) (And.intro (.refl _) (And.intro (.refl _) (And.intro (.refl _) True.intro)))))), And.intro ⟨_, rfl, And.intro ⟨rfl, .refl _⟩ (And.intro ⟨rfl, .refl _⟩ (True.intro))⟩ (And.intro ⟨_, rfl, And.intro ⟨rfl, .refl _⟩ (And.intro ⟨rfl, .refl _⟩ (True.intro))⟩ (And.intro (.inl ⟨_, rfl, id⟩) (True.intro))), rfl⟩ h
            · rintro v305 h
              conv => whnf
              refine .go ?_
              conv => whnf
              revert h; refine sel_if ?_ ?_ <;> intro h
              · conv => whnf
                cases h
                exact ⟨rfl, rfl⟩
              · conv => whnf
                refine ⟨_, hwi236, ?_⟩
                conv => whnf
                exact hK239 _ () ⟨rfl, And.intro (.refl _) (And.intro (.refl _) (And.intro (.refl _) (And.intro (.refl _) (And.intro (.refl _) (And.intro (.refl _) True.intro))))), And.intro ⟨_, rfl, And.intro ⟨rfl, .refl _⟩ (And.intro ⟨rfl, .refl _⟩ (True.intro))⟩ (And.intro ⟨_, rfl, And.intro ⟨rfl, .refl _⟩ (And.intro ⟨rfl, .refl _⟩ (True.intro))⟩ (And.intro (.inl ⟨_, rfl, id⟩) (True.intro))), rfl⟩ h
    · rintro _ h
      conv => whnf
      replace h := bind_inv h; obtain ⟨⟨v313, v314⟩, g315, h⟩ := h
      refine ⟨_, _, mill_Deck_Open_ok g315, .inl rfl, ?_⟩
      conv => whnf
      replace h := bind_inv h; obtain ⟨⟨v316, v317, v318⟩, g319, h⟩ := h
      refine ⟨_, _, ref32_Start_ok g319, .inl rfl, ?_⟩
      conv => whnf
      revert h; refine cut_join (fun _ => ⟨dd 222 ([]), nn 222 ([])⟩) ?_ ?_
      · intro k781 h
        conv => whnf
        revert h; refine loop_while (fun (v1086, v1087, v1088, v1089) => ⟨dd 9 (AV.ref 36 0 :: dd 8 (AV.ref 18 0 :: X :: X :: AV.d (D.i v1086) :: AV.d (D.i v1087) :: dd 199 ([]))), nn 18 (some (OB.box [AV.d (D.i v1089.State), AV.d (D.i v1089.Mine.ASN), AV.d (D.i v1089.Mine.ID), AV.d (D.i v1089.Mine.Hold), AV.d (D.i v1089.Mine.Role), AV.d (D.i v1089.Mine.Grace), AV.d (D.b v1089.Mine.Again), AV.d (D.i v1089.ASN), AV.d (D.i v1089.Theirs.ASN), AV.d (D.i v1089.Theirs.ID), AV.d (D.i v1089.Theirs.Hold), AV.d (D.i v1089.Theirs.Role), AV.d (D.i v1089.Theirs.Grace), AV.d (D.b v1089.Theirs.Again), AV.d (D.i v1089.Sent), AV.d (D.i v1089.Heard)]) :: nn 17 (some (OB.box [AV.d (D.l 1 D.i v1088.L), AV.d (D.i v1088.At)]) :: nn 185 ([])))⟩) ⟨rfl, And.intro (.refl _) (And.intro (.refl _) (And.intro (.refl _) (And.intro (.refl _) True.intro))), And.intro ⟨_, rfl, And.intro ⟨rfl, .refl _⟩ (And.intro ⟨rfl, .refl _⟩ (And.intro ⟨rfl, .refl _⟩ (And.intro ⟨rfl, .refl _⟩ (And.intro ⟨rfl, .refl _⟩ (And.intro ⟨rfl, .refl _⟩ (And.intro ⟨rfl, .refl _⟩ (And.intro ⟨rfl, .refl _⟩ (And.intro ⟨rfl, .refl _⟩ (And.intro ⟨rfl, .refl _⟩ (And.intro ⟨rfl, .refl _⟩ (And.intro ⟨rfl, .refl _⟩ (And.intro ⟨rfl, .refl _⟩ (And.intro ⟨rfl, .refl _⟩ (And.intro ⟨rfl, .refl _⟩ (And.intro ⟨rfl, .refl _⟩ (True.intro))))))))))))))))⟩ (And.intro ⟨_, rfl, And.intro ⟨rfl, .refl _⟩ (And.intro ⟨rfl, .refl _⟩ (True.intro))⟩ (True.intro)), rfl⟩ ?_
        rintro next1092 ⟨v1086, v1087, v1088, v1089⟩ K1090 h hK1091
        conv => whnf
        refine .go ?_
        conv => whnf
        revert h; refine sel_if ?_ ?_ <;> intro h
        · conv => whnf
          refine .go ?_
          conv => whnf
          replace h := bind_inv h; obtain ⟨⟨v1168, v1169⟩, g1170, h⟩ := h
          refine ⟨_, _, mill_Deck_Next_ok g1170, .inl rfl, ?_⟩
          conv => whnf
          replace h := bind_inv h; obtain ⟨v1171, g1172, h⟩ := h
          refine ⟨rfl, geti_b (f := D.i) g1172, ?_⟩
          conv => whnf
          refine ⟨rfl, D.i v1171, (geti_d (f := D.i) g1172), ?_⟩
          conv => whnf
          refine ⟨_, rfl, ?_⟩
          conv => whnf
          replace h := bind_inv h; obtain ⟨⟨v1173, v1174⟩, g1175, h⟩ := h
          refine ⟨_, _, law32_message_ok g1175, .inl rfl, ?_⟩
          conv => whnf
          replace h := bind_inv h; obtain ⟨⟨v1176, v1177, v1178⟩, g1179, h⟩ := h
          refine ⟨_, _, session_Receive_ok g1179, .inl rfl, ?_⟩
          conv => whnf
          replace h := bind_inv h; obtain ⟨⟨v1180, v1181, v1182⟩, g1183, h⟩ := h
          refine ⟨_, _, ref32_Receive_ok g1183, .inl rfl, ?_⟩
          conv => whnf
          revert h; refine cut_join (fun v1190 => ⟨dd 9 (AV.ref 36 0 :: dd 8 (AV.ref 18 0 :: X :: X :: AV.d (D.i (i64w (v1086 + v1171))) :: AV.d (D.i v1087) :: X :: AV.ref 24 0 :: X :: X :: AV.ref 27 0 :: X :: AV.d (D.i v1182) :: dd 141 (AV.d (D.b v1190) :: dd 50 ([])))), nn 18 (some (OB.box [AV.d (D.i v1089.State), AV.d (D.i v1089.Mine.ASN), AV.d (D.i v1089.Mine.ID), AV.d (D.i v1089.Mine.Hold), AV.d (D.i v1089.Mine.Role), AV.d (D.i v1089.Mine.Grace), AV.d (D.b v1089.Mine.Again), AV.d (D.i v1089.ASN), AV.d (D.i v1089.Theirs.ASN), AV.d (D.i v1089.Theirs.ID), AV.d (D.i v1089.Theirs.Hold), AV.d (D.i v1089.Theirs.Role), AV.d (D.i v1089.Theirs.Grace), AV.d (D.b v1089.Theirs.Again), AV.d (D.i v1089.Sent), AV.d (D.i v1089.Heard)]) :: nn 5 (some (OB.box [AV.d (D.i v1176.State), AV.d (D.i v1176.Mine.ASN), AV.d (D.i v1176.Mine.ID), AV.d (D.i v1176.Mine.Hold), AV.d (D.i v1176.Mine.Role), AV.d (D.i v1176.Mine.Grace), AV.d (D.b v1176.Mine.Again), AV.d (D.i v1176.ASN), AV.d (D.i v1176.Theirs.ASN), AV.d (D.i v1176.Theirs.ID), AV.d (D.i v1176.Theirs.Hold), AV.d (D.i v1176.Theirs.Role), AV.d (D.i v1176.Theirs.Grace), AV.d (D.b v1176.Theirs.Again), AV.d (D.i v1176.Sent), AV.d (D.i v1176.Heard)]) :: N :: N :: some (OB.box [AV.d (D.i v1180.State), AV.d (D.i v1180.Mine.ASN), AV.d (D.i v1180.Mine.ID), AV.d (D.i v1180.Mine.Hold), AV.d (D.i v1180.Mine.Role), AV.d (D.i v1180.Mine.Grace), AV.d (D.b v1180.Mine.Again), AV.d (D.i v1180.ASN), AV.d (D.i v1180.Theirs.ASN), AV.d (D.i v1180.Theirs.ID), AV.d (D.i v1180.Theirs.Hold), AV.d (D.i v1180.Theirs.Role), AV.d (D.i v1180.Theirs.Grace), AV.d (D.b v1180.Theirs.Again), AV.d (D.i v1180.Sent), AV.d (D.i v1180.Heard)]) :: nn 8 (some (OB.box [AV.d (D.l 1 D.i v1174.L), AV.d (D.i v1174.At)]) :: nn 185 ([]))))⟩) ?_ ?_
          · intro k1191 h
            conv => whnf
            refine dOB (by kernel_rfl) ?_
            conv => whnf
            revert h; refine sel_if ?_ ?_ <;> intro h
            · conv => whnf
              refine cOB (by kernel_rfl) ?_
              conv => whnf
              exact join_end (v := true) ⟨rfl, And.intro (.refl _) (And.intro (.refl _) (And.intro (.refl _) (And.intro (.refl _) (And.intro (.refl _) (And.intro (.refl _) (And.intro (.refl _) (And.intro (.refl _) True.intro))))))), And.intro ⟨_, rfl, And.intro ⟨rfl, .refl _⟩ (And.intro ⟨rfl, .refl _⟩ (And.intro ⟨rfl, .refl _⟩ (And.intro ⟨rfl, .refl _⟩ (And.intro ⟨rfl, .refl _⟩ (And.intro ⟨rfl, .refl _⟩ (And.intro ⟨rfl, .refl _⟩ (And.intro ⟨rfl, .refl _⟩ (And.intro ⟨rfl, .refl _⟩ (And.intro ⟨rfl, .refl _⟩ (And.intro ⟨rfl, .refl _⟩ (And.intro ⟨rfl, .refl _⟩ (And.intro ⟨rfl, .refl _⟩ (And.intro ⟨rfl, .refl _⟩ (And.intro ⟨rfl, .refl _⟩ (And.intro ⟨rfl, .refl _⟩ (True.intro))))))))))))))))⟩ (And.intro ⟨_, rfl, And.intro ⟨rfl, .refl _⟩ (And.intro ⟨rfl, .refl _⟩ (And.intro ⟨rfl, .refl _⟩ (And.intro ⟨rfl, .refl _⟩ (And.intro ⟨rfl, .refl _⟩ (And.intro ⟨rfl, .refl _⟩ (And.intro ⟨rfl, .refl _⟩ (And.intro ⟨rfl, .refl _⟩ (And.intro ⟨rfl, .refl _⟩ (And.intro ⟨rfl, .refl _⟩ (And.intro ⟨rfl, .refl _⟩ (And.intro ⟨rfl, .refl _⟩ (And.intro ⟨rfl, .refl _⟩ (And.intro ⟨rfl, .refl _⟩ (And.intro ⟨rfl, .refl _⟩ (And.intro ⟨rfl, .refl _⟩ (True.intro))))))))))))))))⟩ (And.intro ⟨_, rfl, And.intro ⟨rfl, .refl _⟩ (And.intro ⟨rfl, .refl _⟩ (And.intro ⟨rfl, .refl _⟩ (And.intro ⟨rfl, .refl _⟩ (And.intro ⟨rfl, .refl _⟩ (And.intro ⟨rfl, .refl _⟩ (And.intro ⟨rfl, .refl _⟩ (And.intro ⟨rfl, .refl _⟩ (And.intro ⟨rfl, .refl _⟩ (And.intro ⟨rfl, .refl _⟩ (And.intro ⟨rfl, .refl _⟩ (And.intro ⟨rfl, .refl _⟩ (And.intro ⟨rfl, .refl _⟩ (And.intro ⟨rfl, .refl _⟩ (And.intro ⟨rfl, .refl _⟩ (And.intro ⟨rfl, .refl _⟩ (True.intro))))))))))))))))⟩ (And.intro ⟨_, rfl, And.intro ⟨rfl, .refl _⟩ (And.intro ⟨rfl, .refl _⟩ (True.intro))⟩ (True.intro)))), rfl⟩ h
            · conv => whnf
              revert h; refine sel_if ?_ ?_ <;> intro h
              · conv => whnf
                refine cOB (by kernel_rfl) ?_
                conv => whnf
                exact join_end (v := true) ⟨rfl, And.intro (.refl _) (And.intro (.refl _) (And.intro (.refl _) (And.intro (.refl _) (And.intro (.refl _) (And.intro (.refl _) (And.intro (.refl _) (And.intro (.refl _) True.intro))))))), And.intro ⟨_, rfl, And.intro ⟨rfl, .refl _⟩ (And.intro ⟨rfl, .refl _⟩ (And.intro ⟨rfl, .refl _⟩ (And.intro ⟨rfl, .refl _⟩ (And.intro ⟨rfl, .refl _⟩ (And.intro ⟨rfl, .refl _⟩ (And.intro ⟨rfl, .refl _⟩ (And.intro ⟨rfl, .refl _⟩ (And.intro ⟨rfl, .refl _⟩ (And.intro ⟨rfl, .refl _⟩ (And.intro ⟨rfl, .refl _⟩ (And.intro ⟨rfl, .refl _⟩ (And.intro ⟨rfl, .refl _⟩ (And.intro ⟨rfl, .refl _⟩ (And.intro ⟨rfl, .refl _⟩ (And.intro ⟨rfl, .refl _⟩ (True.intro))))))))))))))))⟩ (And.intro ⟨_, rfl, And.intro ⟨rfl, .refl _⟩ (And.intro ⟨rfl, .refl _⟩ (And.intro ⟨rfl, .refl _⟩ (And.intro ⟨rfl, .refl _⟩ (And.intro ⟨rfl, .refl _⟩ (And.intro ⟨rfl, .refl _⟩ (And.intro ⟨rfl, .refl _⟩ (And.intro ⟨rfl, .refl _⟩ (And.intro ⟨rfl, .refl _⟩ (And.intro ⟨rfl, .refl _⟩ (And.intro ⟨rfl, .refl _⟩ (And.intro ⟨rfl, .refl _⟩ (And.intro ⟨rfl, .refl _⟩ (And.intro ⟨rfl, .refl _⟩ (And.intro ⟨rfl, .refl _⟩ (And.intro ⟨rfl, .refl _⟩ (True.intro))))))))))))))))⟩ (And.intro ⟨_, rfl, And.intro ⟨rfl, .refl _⟩ (And.intro ⟨rfl, .refl _⟩ (And.intro ⟨rfl, .refl _⟩ (And.intro ⟨rfl, .refl _⟩ (And.intro ⟨rfl, .refl _⟩ (And.intro ⟨rfl, .refl _⟩ (And.intro ⟨rfl, .refl _⟩ (And.intro ⟨rfl, .refl _⟩ (And.intro ⟨rfl, .refl _⟩ (And.intro ⟨rfl, .refl _⟩ (And.intro ⟨rfl, .refl _⟩ (And.intro ⟨rfl, .refl _⟩ (And.intro ⟨rfl, .refl _⟩ (And.intro ⟨rfl, .refl _⟩ (And.intro ⟨rfl, .refl _⟩ (And.intro ⟨rfl, .refl _⟩ (True.intro))))))))))))))))⟩ (And.intro ⟨_, rfl, And.intro ⟨rfl, .refl _⟩ (And.intro ⟨rfl, .refl _⟩ (True.intro))⟩ (True.intro)))), rfl⟩ h
              · conv => whnf
                replace h := bind_inv h; obtain ⟨v1192, g1193, h⟩ := h
                refine ⟨_, _, ref32_SameMessages_ok g1193, .inl rfl, ?_⟩
                conv => whnf
                revert h; refine sel_if ?_ ?_ <;> intro h
                · conv => whnf
                  refine cOB (by kernel_rfl) ?_
                  conv => whnf
                  exact join_end (v := true) ⟨rfl, And.intro (.refl _) (And.intro (.refl _) (And.intro (.refl _) (And.intro (.refl _) (And.intro (.refl _) (And.intro (.refl _) (And.intro (.refl _) (And.intro (.refl _) True.intro))))))), And.intro ⟨_, rfl, And.intro ⟨rfl, .refl _⟩ (And.intro ⟨rfl, .refl _⟩ (And.intro ⟨rfl, .refl _⟩ (And.intro ⟨rfl, .refl _⟩ (And.intro ⟨rfl, .refl _⟩ (And.intro ⟨rfl, .refl _⟩ (And.intro ⟨rfl, .refl _⟩ (And.intro ⟨rfl, .refl _⟩ (And.intro ⟨rfl, .refl _⟩ (And.intro ⟨rfl, .refl _⟩ (And.intro ⟨rfl, .refl _⟩ (And.intro ⟨rfl, .refl _⟩ (And.intro ⟨rfl, .refl _⟩ (And.intro ⟨rfl, .refl _⟩ (And.intro ⟨rfl, .refl _⟩ (And.intro ⟨rfl, .refl _⟩ (True.intro))))))))))))))))⟩ (And.intro ⟨_, rfl, And.intro ⟨rfl, .refl _⟩ (And.intro ⟨rfl, .refl _⟩ (And.intro ⟨rfl, .refl _⟩ (And.intro ⟨rfl, .refl _⟩ (And.intro ⟨rfl, .refl _⟩ (And.intro ⟨rfl, .refl _⟩ (And.intro ⟨rfl, .refl _⟩ (And.intro ⟨rfl, .refl _⟩ (And.intro ⟨rfl, .refl _⟩ (And.intro ⟨rfl, .refl _⟩ (And.intro ⟨rfl, .refl _⟩ (And.intro ⟨rfl, .refl _⟩ (And.intro ⟨rfl, .refl _⟩ (And.intro ⟨rfl, .refl _⟩ (And.intro ⟨rfl, .refl _⟩ (And.intro ⟨rfl, .refl _⟩ (True.intro))))))))))))))))⟩ (And.intro ⟨_, rfl, And.intro ⟨rfl, .refl _⟩ (And.intro ⟨rfl, .refl _⟩ (And.intro ⟨rfl, .refl _⟩ (And.intro ⟨rfl, .refl _⟩ (And.intro ⟨rfl, .refl _⟩ (And.intro ⟨rfl, .refl _⟩ (And.intro ⟨rfl, .refl _⟩ (And.intro ⟨rfl, .refl _⟩ (And.intro ⟨rfl, .refl _⟩ (And.intro ⟨rfl, .refl _⟩ (And.intro ⟨rfl, .refl _⟩ (And.intro ⟨rfl, .refl _⟩ (And.intro ⟨rfl, .refl _⟩ (And.intro ⟨rfl, .refl _⟩ (And.intro ⟨rfl, .refl _⟩ (And.intro ⟨rfl, .refl _⟩ (True.intro))))))))))))))))⟩ (And.intro ⟨_, rfl, And.intro ⟨rfl, .refl _⟩ (And.intro ⟨rfl, .refl _⟩ (True.intro))⟩ (True.intro)))), rfl⟩ h
                · conv => whnf
                  replace h := bind_inv h; obtain ⟨v1194, g1195, h⟩ := h
                  refine ⟨_, _, session_Hold_ok g1195, .inl rfl, ?_⟩
                  conv => whnf
                  replace h := bind_inv h; obtain ⟨v1196, g1197, h⟩ := h
                  refine ⟨_, _, ref32_Hold_ok g1197, .inl rfl, ?_⟩
                  conv => whnf
                  refine cOB (by kernel_rfl) ?_
                  conv => whnf
                  exact join_end (v := (v1194 != v1196)) ⟨rfl, And.intro (.refl _) (And.intro (.refl _) (And.intro (.refl _) (And.intro (.refl _) (And.intro (.refl _) (And.intro (.refl _) (And.intro (.refl _) (And.intro (.refl _) True.intro))))))), And.intro ⟨_, rfl, And.intro ⟨rfl, .refl _⟩ (And.intro ⟨rfl, .refl _⟩ (And.intro ⟨rfl, .refl _⟩ (And.intro ⟨rfl, .refl _⟩ (And.intro ⟨rfl, .refl _⟩ (And.intro ⟨rfl, .refl _⟩ (And.intro ⟨rfl, .refl _⟩ (And.intro ⟨rfl, .refl _⟩ (And.intro ⟨rfl, .refl _⟩ (And.intro ⟨rfl, .refl _⟩ (And.intro ⟨rfl, .refl _⟩ (And.intro ⟨rfl, .refl _⟩ (And.intro ⟨rfl, .refl _⟩ (And.intro ⟨rfl, .refl _⟩ (And.intro ⟨rfl, .refl _⟩ (And.intro ⟨rfl, .refl _⟩ (True.intro))))))))))))))))⟩ (And.intro ⟨_, rfl, And.intro ⟨rfl, .refl _⟩ (And.intro ⟨rfl, .refl _⟩ (And.intro ⟨rfl, .refl _⟩ (And.intro ⟨rfl, .refl _⟩ (And.intro ⟨rfl, .refl _⟩ (And.intro ⟨rfl, .refl _⟩ (And.intro ⟨rfl, .refl _⟩ (And.intro ⟨rfl, .refl _⟩ (And.intro ⟨rfl, .refl _⟩ (And.intro ⟨rfl, .refl _⟩ (And.intro ⟨rfl, .refl _⟩ (And.intro ⟨rfl, .refl _⟩ (And.intro ⟨rfl, .refl _⟩ (And.intro ⟨rfl, .refl _⟩ (And.intro ⟨rfl, .refl _⟩ (And.intro ⟨rfl, .refl _⟩ (True.intro))))))))))))))))⟩ (And.intro ⟨_, rfl, And.intro ⟨rfl, .refl _⟩ (And.intro ⟨rfl, .refl _⟩ (And.intro ⟨rfl, .refl _⟩ (And.intro ⟨rfl, .refl _⟩ (And.intro ⟨rfl, .refl _⟩ (And.intro ⟨rfl, .refl _⟩ (And.intro ⟨rfl, .refl _⟩ (And.intro ⟨rfl, .refl _⟩ (And.intro ⟨rfl, .refl _⟩ (And.intro ⟨rfl, .refl _⟩ (And.intro ⟨rfl, .refl _⟩ (And.intro ⟨rfl, .refl _⟩ (And.intro ⟨rfl, .refl _⟩ (And.intro ⟨rfl, .refl _⟩ (And.intro ⟨rfl, .refl _⟩ (And.intro ⟨rfl, .refl _⟩ (True.intro))))))))))))))))⟩ (And.intro ⟨_, rfl, And.intro ⟨rfl, .refl _⟩ (And.intro ⟨rfl, .refl _⟩ (True.intro))⟩ (True.intro)))), rfl⟩ h
          · rintro v1190 h
            conv => whnf
            refine .go ?_
            conv => whnf
            revert h; refine sel_if ?_ ?_ <;> intro h
            · conv => whnf
              cases h
              exact ⟨rfl, rfl⟩
            · conv => whnf
              revert h; refine cut_join (fun v1198 => ⟨dd 9 (AV.ref 36 0 :: dd 8 (AV.ref 18 0 :: X :: X :: AV.d (D.i (i64w (v1086 + v1171))) :: AV.d (D.i v1087) :: X :: AV.ref 24 0 :: X :: X :: AV.ref 27 0 :: dd 194 ([]))), nn 18 (some (OB.box [AV.d (D.i v1198.State), AV.d (D.i v1198.Mine.ASN), AV.d (D.i v1198.Mine.ID), AV.d (D.i v1198.Mine.Hold), AV.d (D.i v1198.Mine.Role), AV.d (D.i v1198.Mine.Grace), AV.d (D.b v1198.Mine.Again), AV.d (D.i v1198.ASN), AV.d (D.i v1198.Theirs.ASN), AV.d (D.i v1198.Theirs.ID), AV.d (D.i v1198.Theirs.Hold), AV.d (D.i v1198.Theirs.Role), AV.d (D.i v1198.Theirs.Grace), AV.d (D.b v1198.Theirs.Again), AV.d (D.i v1198.Sent), AV.d (D.i v1198.Heard)]) :: nn 5 (some (OB.box [AV.d (D.i v1176.State), AV.d (D.i v1176.Mine.ASN), AV.d (D.i v1176.Mine.ID), AV.d (D.i v1176.Mine.Hold), AV.d (D.i v1176.Mine.Role), AV.d (D.i v1176.Mine.Grace), AV.d (D.b v1176.Mine.Again), AV.d (D.i v1176.ASN), AV.d (D.i v1176.Theirs.ASN), AV.d (D.i v1176.Theirs.ID), AV.d (D.i v1176.Theirs.Hold), AV.d (D.i v1176.Theirs.Role), AV.d (D.i v1176.Theirs.Grace), AV.d (D.b v1176.Theirs.Again), AV.d (D.i v1176.Sent), AV.d (D.i v1176.Heard)]) :: N :: N :: some (OB.box [AV.d (D.i v1180.State), AV.d (D.i v1180.Mine.ASN), AV.d (D.i v1180.Mine.ID), AV.d (D.i v1180.Mine.Hold), AV.d (D.i v1180.Mine.Role), AV.d (D.i v1180.Mine.Grace), AV.d (D.b v1180.Mine.Again), AV.d (D.i v1180.ASN), AV.d (D.i v1180.Theirs.ASN), AV.d (D.i v1180.Theirs.ID), AV.d (D.i v1180.Theirs.Hold), AV.d (D.i v1180.Theirs.Role), AV.d (D.i v1180.Theirs.Grace), AV.d (D.b v1180.Theirs.Again), AV.d (D.i v1180.Sent), AV.d (D.i v1180.Heard)]) :: nn 8 (some (OB.box [AV.d (D.l 1 D.i v1174.L), AV.d (D.i v1174.At)]) :: nn 185 ([]))))⟩) ?_ ?_
              · intro k1199 h
                conv => whnf
                revert h; refine sel_if ?_ ?_ <;> intro h
                · conv => whnf
                  exact join_end (v := v1180) ⟨rfl, And.intro (.refl _) (And.intro (.refl _) (And.intro (.refl _) (And.intro (.refl _) (And.intro (.refl _) (And.intro (.refl _) True.intro))))), And.intro ⟨_, rfl, And.intro ⟨rfl, .refl _⟩ (And.intro ⟨rfl, .refl _⟩ (And.intro ⟨rfl, .refl _⟩ (And.intro ⟨rfl, .refl _⟩ (And.intro ⟨rfl, .refl _⟩ (And.intro ⟨rfl, .refl _⟩ (And.intro ⟨rfl, .refl _⟩ (And.intro ⟨rfl, .refl _⟩ (And.intro ⟨rfl, .refl _⟩ (And.intro ⟨rfl, .refl _⟩ (And.intro ⟨rfl, .refl _⟩ (And.intro ⟨rfl, .refl _⟩ (And.intro ⟨rfl, .refl _⟩ (And.intro ⟨rfl, .refl _⟩ (And.intro ⟨rfl, .refl _⟩ (And.intro ⟨rfl, .refl _⟩ (True.intro))))))))))))))))⟩ (And.intro ⟨_, rfl, And.intro ⟨rfl, .refl _⟩ (And.intro ⟨rfl, .refl _⟩ (And.intro ⟨rfl, .refl _⟩ (And.intro ⟨rfl, .refl _⟩ (And.intro ⟨rfl, .refl _⟩ (And.intro ⟨rfl, .refl _⟩ (And.intro ⟨rfl, .refl _⟩ (And.intro ⟨rfl, .refl _⟩ (And.intro ⟨rfl, .refl _⟩ (And.intro ⟨rfl, .refl _⟩ (And.intro ⟨rfl, .refl _⟩ (And.intro ⟨rfl, .refl _⟩ (And.intro ⟨rfl, .refl _⟩ (And.intro ⟨rfl, .refl _⟩ (And.intro ⟨rfl, .refl _⟩ (And.intro ⟨rfl, .refl _⟩ (True.intro))))))))))))))))⟩ (And.intro ⟨_, rfl, And.intro ⟨rfl, .refl _⟩ (And.intro ⟨rfl, .refl _⟩ (And.intro ⟨rfl, .refl _⟩ (And.intro ⟨rfl, .refl _⟩ (And.intro ⟨rfl, .refl _⟩ (And.intro ⟨rfl, .refl _⟩ (And.intro ⟨rfl, .refl _⟩ (And.intro ⟨rfl, .refl _⟩ (And.intro ⟨rfl, .refl _⟩ (And.intro ⟨rfl, .refl _⟩ (And.intro ⟨rfl, .refl _⟩ (And.intro ⟨rfl, .refl _⟩ (And.intro ⟨rfl, .refl _⟩ (And.intro ⟨rfl, .refl _⟩ (And.intro ⟨rfl, .refl _⟩ (And.intro ⟨rfl, .refl _⟩ (True.intro))))))))))))))))⟩ (And.intro ⟨_, rfl, And.intro ⟨rfl, .refl _⟩ (And.intro ⟨rfl, .refl _⟩ (True.intro))⟩ (True.intro)))), rfl⟩ h
                · conv => whnf
                  exact join_end (v := v1089) ⟨rfl, And.intro (.refl _) (And.intro (.refl _) (And.intro (.refl _) (And.intro (.refl _) (And.intro (.refl _) (And.intro (.refl _) True.intro))))), And.intro ⟨_, rfl, And.intro ⟨rfl, .refl _⟩ (And.intro ⟨rfl, .refl _⟩ (And.intro ⟨rfl, .refl _⟩ (And.intro ⟨rfl, .refl _⟩ (And.intro ⟨rfl, .refl _⟩ (And.intro ⟨rfl, .refl _⟩ (And.intro ⟨rfl, .refl _⟩ (And.intro ⟨rfl, .refl _⟩ (And.intro ⟨rfl, .refl _⟩ (And.intro ⟨rfl, .refl _⟩ (And.intro ⟨rfl, .refl _⟩ (And.intro ⟨rfl, .refl _⟩ (And.intro ⟨rfl, .refl _⟩ (And.intro ⟨rfl, .refl _⟩ (And.intro ⟨rfl, .refl _⟩ (And.intro ⟨rfl, .refl _⟩ (True.intro))))))))))))))))⟩ (And.intro ⟨_, rfl, And.intro ⟨rfl, .refl _⟩ (And.intro ⟨rfl, .refl _⟩ (And.intro ⟨rfl, .refl _⟩ (And.intro ⟨rfl, .refl _⟩ (And.intro ⟨rfl, .refl _⟩ (And.intro ⟨rfl, .refl _⟩ (And.intro ⟨rfl, .refl _⟩ (And.intro ⟨rfl, .refl _⟩ (And.intro ⟨rfl, .refl _⟩ (And.intro ⟨rfl, .refl _⟩ (And.intro ⟨rfl, .refl _⟩ (And.intro ⟨rfl, .refl _⟩ (And.intro ⟨rfl, .refl _⟩ (And.intro ⟨rfl, .refl _⟩ (And.intro ⟨rfl, .refl _⟩ (And.intro ⟨rfl, .refl _⟩ (True.intro))))))))))))))))⟩ (And.intro ⟨_, rfl, And.intro ⟨rfl, .refl _⟩ (And.intro ⟨rfl, .refl _⟩ (And.intro ⟨rfl, .refl _⟩ (And.intro ⟨rfl, .refl _⟩ (And.intro ⟨rfl, .refl _⟩ (And.intro ⟨rfl, .refl _⟩ (And.intro ⟨rfl, .refl _⟩ (And.intro ⟨rfl, .refl _⟩ (And.intro ⟨rfl, .refl _⟩ (And.intro ⟨rfl, .refl _⟩ (And.intro ⟨rfl, .refl _⟩ (And.intro ⟨rfl, .refl _⟩ (And.intro ⟨rfl, .refl _⟩ (And.intro ⟨rfl, .refl _⟩ (And.intro ⟨rfl, .refl _⟩ (And.intro ⟨rfl, .refl _⟩ (True.intro))))))))))))))))⟩ (And.intro ⟨_, rfl, And.intro ⟨rfl, .refl _⟩ (And.intro ⟨rfl, .refl _⟩ (True.intro))⟩ (True.intro)))), rfl⟩ h
              · rintro v1198 h
                conv => whnf
                replace h := bind_inv h; obtain ⟨⟨v1200, v1201⟩, g1202, h⟩ := h
                refine ⟨_, _, mill_Deck_Next_ok g1202, .inl rfl, ?_⟩
                conv => whnf
                replace h := bind_inv h; obtain ⟨v1203, g1204, h⟩ := h
                refine ⟨rfl, geti_b (f := D.i) g1204, ?_⟩
                conv => whnf
                refine ⟨rfl, D.i v1203, (geti_d (f := D.i) g1204), ?_⟩
                conv => whnf
                refine ⟨_, rfl, ?_⟩
                conv => whnf
                replace h := bind_inv h; obtain ⟨⟨v1205, v1206⟩, g1207, h⟩ := h
                refine ⟨_, _, session_Tick_ok g1207, .inl rfl, ?_⟩
                conv => whnf
                replace h := bind_inv h; obtain ⟨⟨v1208, v1209⟩, g1210, h⟩ := h
                refine ⟨_, _, ref32_Tick_ok g1210, .inl rfl, ?_⟩
                conv => whnf
                revert h; refine cut_join (fun v1213 => ⟨dd 9 (AV.ref 36 0 :: dd 8 (AV.ref 18 0 :: X :: X :: AV.d (D.i (i64w ((i64w (v1086 + v1171)) + v1203))) :: AV.d (D.i v1087) :: dd 4 (AV.ref 27 0 :: dd 174 (AV.d (D.b v1213) :: dd 19 ([]))))), nn 18 (some (OB.box [AV.d (D.i v1198.State), AV.d (D.i v1198.Mine.ASN), AV.d (D.i v1198.Mine.ID), AV.d (D.i v1198.Mine.Hold), AV.d (D.i v1198.Mine.Role), AV.d (D.i v1198.Mine.Grace), AV.d (D.b v1198.Mine.Again), AV.d (D.i v1198.ASN), AV.d (D.i v1198.Theirs.ASN), AV.d (D.i v1198.Theirs.ID), AV.d (D.i v1198.Theirs.Hold), AV.d (D.i v1198.Theirs.Role), AV.d (D.i v1198.Theirs.Grace), AV.d (D.b v1198.Theirs.Again), AV.d (D.i v1198.Sent), AV.d (D.i v1198.Heard)]) :: nn 8 (some (OB.box [AV.d (D.i v1208.State), AV.d (D.i v1208.Mine.ASN), AV.d (D.i v1208.Mine.ID), AV.d (D.i v1208.Mine.Hold), AV.d (D.i v1208.Mine.Role), AV.d (D.i v1208.Mine.Grace), AV.d (D.b v1208.Mine.Again), AV.d (D.i v1208.ASN), AV.d (D.i v1208.Theirs.ASN), AV.d (D.i v1208.Theirs.ID), AV.d (D.i v1208.Theirs.Hold), AV.d (D.i v1208.Theirs.Role), AV.d (D.i v1208.Theirs.Grace), AV.d (D.b v1208.Theirs.Again), AV.d (D.i v1208.Sent), AV.d (D.i v1208.Heard)]) :: nn 8 (some (OB.box [AV.d (D.l 1 D.i v1201.L), AV.d (D.i v1201.At)]) :: nn 185 ([]))))⟩) ?_ ?_
                · intro k1214 h
                  conv => whnf
                  revert h; refine sel_if ?_ ?_ <;> intro h
                  · conv => whnf
                    exact join_end (v := true) ⟨rfl, And.intro (.refl _) (And.intro (.refl _) (And.intro (.refl _) (And.intro (.refl _) (And.intro (.refl _) (And.intro (.refl _) True.intro))))), And.intro ⟨_, rfl, And.intro ⟨rfl, .refl _⟩ (And.intro ⟨rfl, .refl _⟩ (And.intro ⟨rfl, .refl _⟩ (And.intro ⟨rfl, .refl _⟩ (And.intro ⟨rfl, .refl _⟩ (And.intro ⟨rfl, .refl _⟩ (And.intro ⟨rfl, .refl _⟩ (And.intro ⟨rfl, .refl _⟩ (And.intro ⟨rfl, .refl _⟩ (And.intro ⟨rfl, .refl _⟩ (And.intro ⟨rfl, .refl _⟩ (And.intro ⟨rfl, .refl _⟩ (And.intro ⟨rfl, .refl _⟩ (And.intro ⟨rfl, .refl _⟩ (And.intro ⟨rfl, .refl _⟩ (And.intro ⟨rfl, .refl _⟩ (True.intro))))))))))))))))⟩ (And.intro ⟨_, rfl, And.intro ⟨rfl, .refl _⟩ (And.intro ⟨rfl, .refl _⟩ (And.intro ⟨rfl, .refl _⟩ (And.intro ⟨rfl, .refl _⟩ (And.intro ⟨rfl, .refl _⟩ (And.intro ⟨rfl, .refl _⟩ (And.intro ⟨rfl, .refl _⟩ (And.intro ⟨rfl, .refl _⟩ (And.intro ⟨rfl, .refl _⟩ (And.intro ⟨rfl, .refl _⟩ (And.intro ⟨rfl, .refl _⟩ (And.intro ⟨rfl, .refl _⟩ (And.intro ⟨rfl, .refl _⟩ (And.intro ⟨rfl, .refl _⟩ (And.intro ⟨rfl, .refl _⟩ (And.intro ⟨rfl, .refl _⟩ (True.intro))))))))))))))))⟩ (And.intro ⟨_, rfl, And.intro ⟨rfl, .refl _⟩ (And.intro ⟨rfl, .refl _⟩ (True.intro))⟩ (True.intro))), rfl⟩ h
                  · conv => whnf
                    replace h := bind_inv h; obtain ⟨v1215, g1216, h⟩ := h
                    refine ⟨_, _, ref32_SameMessages_ok g1216, .inl rfl, ?_⟩
                    conv => whnf
                    exact join_end (v := (!v1215)) ⟨rfl, And.intro (.refl _) (And.intro (.refl _) (And.intro (.refl _) (And.intro (.refl _) (And.intro (.refl _) (And.intro (.refl _) True.intro))))), And.intro ⟨_, rfl, And.intro ⟨rfl, .refl _⟩ (And.intro ⟨rfl, .refl _⟩ (And.intro ⟨rfl, .refl _⟩ (And.intro ⟨rfl, .refl _⟩ (And.intro ⟨rfl, .refl _⟩ (And.intro ⟨rfl, .refl _⟩ (And.intro ⟨rfl, .refl _⟩ (And.intro ⟨rfl, .refl _⟩ (And.intro ⟨rfl, .refl _⟩ (And.intro ⟨rfl, .refl _⟩ (And.intro ⟨rfl, .refl _⟩ (And.intro ⟨rfl, .refl _⟩ (And.intro ⟨rfl, .refl _⟩ (And.intro ⟨rfl, .refl _⟩ (And.intro ⟨rfl, .refl _⟩ (And.intro ⟨rfl, .refl _⟩ (True.intro))))))))))))))))⟩ (And.intro ⟨_, rfl, And.intro ⟨rfl, .refl _⟩ (And.intro ⟨rfl, .refl _⟩ (And.intro ⟨rfl, .refl _⟩ (And.intro ⟨rfl, .refl _⟩ (And.intro ⟨rfl, .refl _⟩ (And.intro ⟨rfl, .refl _⟩ (And.intro ⟨rfl, .refl _⟩ (And.intro ⟨rfl, .refl _⟩ (And.intro ⟨rfl, .refl _⟩ (And.intro ⟨rfl, .refl _⟩ (And.intro ⟨rfl, .refl _⟩ (And.intro ⟨rfl, .refl _⟩ (And.intro ⟨rfl, .refl _⟩ (And.intro ⟨rfl, .refl _⟩ (And.intro ⟨rfl, .refl _⟩ (And.intro ⟨rfl, .refl _⟩ (True.intro))))))))))))))))⟩ (And.intro ⟨_, rfl, And.intro ⟨rfl, .refl _⟩ (And.intro ⟨rfl, .refl _⟩ (True.intro))⟩ (True.intro))), rfl⟩ h
                · rintro v1213 h
                  conv => whnf
                  refine .go ?_
                  conv => whnf
                  revert h; refine sel_if ?_ ?_ <;> intro h
                  · conv => whnf
                    cases h
                    exact ⟨rfl, rfl⟩
                  · conv => whnf
                    revert h; refine cut_join (fun (v1220, v1221) => ⟨dd 9 (AV.ref 36 0 :: dd 8 (AV.ref 18 0 :: X :: X :: AV.d (D.i (i64w ((i64w (v1086 + v1171)) + v1203))) :: AV.d (D.i v1087) :: dd 188 (AV.d (D.b v1220) :: dd 10 ([])))), nn 18 (some (OB.box [AV.d (D.i v1208.State), AV.d (D.i v1208.Mine.ASN), AV.d (D.i v1208.Mine.ID), AV.d (D.i v1208.Mine.Hold), AV.d (D.i v1208.Mine.Role), AV.d (D.i v1208.Mine.Grace), AV.d (D.b v1208.Mine.Again), AV.d (D.i v1208.ASN), AV.d (D.i v1208.Theirs.ASN), AV.d (D.i v1208.Theirs.ID), AV.d (D.i v1208.Theirs.Hold), AV.d (D.i v1208.Theirs.Role), AV.d (D.i v1208.Theirs.Grace), AV.d (D.b v1208.Theirs.Again), AV.d (D.i v1208.Sent), AV.d (D.i v1208.Heard)]) :: nn 17 (some (OB.box [AV.d (D.l 1 D.i v1221.L), AV.d (D.i v1221.At)]) :: nn 185 ([])))⟩) ?_ ?_
                    · intro k1222 h
                      conv => whnf
                      revert h; refine sel_if ?_ ?_ <;> intro h
                      · conv => whnf
                        replace h := bind_inv h; obtain ⟨⟨v1223, v1224⟩, g1225, h⟩ := h
                        refine ⟨_, _, mill_Deck_Next_ok g1225, .inl rfl, ?_⟩
                        conv => whnf
                        exact join_end (v := ((v1223 == 0), v1224)) ⟨rfl, And.intro (.refl _) (And.intro (.refl _) (And.intro (.refl _) (And.intro (.refl _) (And.intro (.refl _) True.intro)))), And.intro ⟨_, rfl, And.intro ⟨rfl, .refl _⟩ (And.intro ⟨rfl, .refl _⟩ (And.intro ⟨rfl, .refl _⟩ (And.intro ⟨rfl, .refl _⟩ (And.intro ⟨rfl, .refl _⟩ (And.intro ⟨rfl, .refl _⟩ (And.intro ⟨rfl, .refl _⟩ (And.intro ⟨rfl, .refl _⟩ (And.intro ⟨rfl, .refl _⟩ (And.intro ⟨rfl, .refl _⟩ (And.intro ⟨rfl, .refl _⟩ (And.intro ⟨rfl, .refl _⟩ (And.intro ⟨rfl, .refl _⟩ (And.intro ⟨rfl, .refl _⟩ (And.intro ⟨rfl, .refl _⟩ (And.intro ⟨rfl, .refl _⟩ (True.intro))))))))))))))))⟩ (And.intro ⟨_, rfl, And.intro ⟨rfl, .refl _⟩ (And.intro ⟨rfl, .refl _⟩ (True.intro))⟩ (True.intro)), rfl⟩ h
                      · conv => whnf
                        exact join_end (v := (false, v1201)) ⟨rfl, And.intro (.refl _) (And.intro (.refl _) (And.intro (.refl _) (And.intro (.refl _) (And.intro (.refl _) True.intro)))), And.intro ⟨_, rfl, And.intro ⟨rfl, .refl _⟩ (And.intro ⟨rfl, .refl _⟩ (And.intro ⟨rfl, .refl _⟩ (And.intro ⟨rfl, .refl _⟩ (And.intro ⟨rfl, .refl _⟩ (And.intro ⟨rfl, .refl _⟩ (And.intro ⟨rfl, .refl _⟩ (And.intro ⟨rfl, .refl _⟩ (And.intro ⟨rfl, .refl _⟩ (And.intro ⟨rfl, .refl _⟩ (And.intro ⟨rfl, .refl _⟩ (And.intro ⟨rfl, .refl _⟩ (And.intro ⟨rfl, .refl _⟩ (And.intro ⟨rfl, .refl _⟩ (And.intro ⟨rfl, .refl _⟩ (And.intro ⟨rfl, .refl _⟩ (True.intro))))))))))))))))⟩ (And.intro ⟨_, rfl, And.intro ⟨rfl, .refl _⟩ (And.intro ⟨rfl, .refl _⟩ (True.intro))⟩ (True.intro)), rfl⟩ h
                    · rintro ⟨v1220, v1221⟩ h
                      conv => whnf
                      revert h; refine cut_join (fun (v1233, v1234) => ⟨dd 9 (AV.ref 36 0 :: dd 8 (AV.ref 18 0 :: X :: X :: AV.d (D.i (i64w ((i64w (v1086 + v1171)) + v1203))) :: AV.d (D.i v1087) :: dd 199 ([]))), nn 18 (some (OB.box [AV.d (D.i v1234.State), AV.d (D.i v1234.Mine.ASN), AV.d (D.i v1234.Mine.ID), AV.d (D.i v1234.Mine.Hold), AV.d (D.i v1234.Mine.Role), AV.d (D.i v1234.Mine.Grace), AV.d (D.b v1234.Mine.Again), AV.d (D.i v1234.ASN), AV.d (D.i v1234.Theirs.ASN), AV.d (D.i v1234.Theirs.ID), AV.d (D.i v1234.Theirs.Hold), AV.d (D.i v1234.Theirs.Role), AV.d (D.i v1234.Theirs.Grace), AV.d (D.b v1234.Theirs.Again), AV.d (D.i v1234.Sent), AV.d (D.i v1234.Heard)]) :: nn 17 (some (OB.box [AV.d (D.l 1 D.i v1233.L), AV.d (D.i v1233.At)]) :: nn 185 ([])))⟩) ?_ ?_
                      · intro k1235 h
                        conv => whnf
                        revert h; refine sel_if ?_ ?_ <;> intro h
                        · conv => whnf
                          replace h := bind_inv h; obtain ⟨⟨v1236, v1237⟩, g1238, h⟩ := h
                          refine ⟨_, _, mill_Deck_Open_ok g1238, .inl rfl, ?_⟩
                          conv => whnf
                          replace h := bind_inv h; obtain ⟨⟨v1239, v1240, v1241⟩, g1242, h⟩ := h
                          refine ⟨_, _, ref32_Start_ok g1242, .inl rfl, ?_⟩
                          conv => whnf
                          exact join_end (v := (v1237, v1239)) ⟨rfl, And.intro (.refl _) (And.intro (.refl _) (And.intro (.refl _) (And.intro (.refl _) True.intro))), And.intro ⟨_, rfl, And.intro ⟨rfl, .refl _⟩ (And.intro ⟨rfl, .refl _⟩ (And.intro ⟨rfl, .refl _⟩ (And.intro ⟨rfl, .refl _⟩ (And.intro ⟨rfl, .refl _⟩ (And.intro ⟨rfl, .refl _⟩ (And.intro ⟨rfl, .refl _⟩ (And.intro ⟨rfl, .refl _⟩ (And.intro ⟨rfl, .refl _⟩ (And.intro ⟨rfl, .refl _⟩ (And.intro ⟨rfl, .refl _⟩ (And.intro ⟨rfl, .refl _⟩ (And.intro ⟨rfl, .refl _⟩ (And.intro ⟨rfl, .refl _⟩ (And.intro ⟨rfl, .refl _⟩ (And.intro ⟨rfl, .refl _⟩ (True.intro))))))))))))))))⟩ (And.intro ⟨_, rfl, And.intro ⟨rfl, .refl _⟩ (And.intro ⟨rfl, .refl _⟩ (True.intro))⟩ (True.intro)), rfl⟩ h
                        · conv => whnf
                          exact join_end (v := (v1221, v1208)) ⟨rfl, And.intro (.refl _) (And.intro (.refl _) (And.intro (.refl _) (And.intro (.refl _) True.intro))), And.intro ⟨_, rfl, And.intro ⟨rfl, .refl _⟩ (And.intro ⟨rfl, .refl _⟩ (And.intro ⟨rfl, .refl _⟩ (And.intro ⟨rfl, .refl _⟩ (And.intro ⟨rfl, .refl _⟩ (And.intro ⟨rfl, .refl _⟩ (And.intro ⟨rfl, .refl _⟩ (And.intro ⟨rfl, .refl _⟩ (And.intro ⟨rfl, .refl _⟩ (And.intro ⟨rfl, .refl _⟩ (And.intro ⟨rfl, .refl _⟩ (And.intro ⟨rfl, .refl _⟩ (And.intro ⟨rfl, .refl _⟩ (And.intro ⟨rfl, .refl _⟩ (And.intro ⟨rfl, .refl _⟩ (And.intro ⟨rfl, .refl _⟩ (True.intro))))))))))))))))⟩ (And.intro ⟨_, rfl, And.intro ⟨rfl, .refl _⟩ (And.intro ⟨rfl, .refl _⟩ (True.intro))⟩ (True.intro)), rfl⟩ h
                      · rintro ⟨v1233, v1234⟩ h
                        conv => whnf
                        refine ⟨_, rfl, ?_⟩
                        conv => whnf
                        exact hK1091 _ ((i64w ((i64w (v1086 + v1171)) + v1203)), (i64w (v1087 + 1)), v1233, v1234) ⟨rfl, And.intro (.refl _) (And.intro (.refl _) (And.intro (.refl _) (And.intro (.refl _) True.intro))), And.intro ⟨_, rfl, And.intro ⟨rfl, .refl _⟩ (And.intro ⟨rfl, .refl _⟩ (And.intro ⟨rfl, .refl _⟩ (And.intro ⟨rfl, .refl _⟩ (And.intro ⟨rfl, .refl _⟩ (And.intro ⟨rfl, .refl _⟩ (And.intro ⟨rfl, .refl _⟩ (And.intro ⟨rfl, .refl _⟩ (And.intro ⟨rfl, .refl _⟩ (And.intro ⟨rfl, .refl _⟩ (And.intro ⟨rfl, .refl _⟩ (And.intro ⟨rfl, .refl _⟩ (And.intro ⟨rfl, .refl _⟩ (And.intro ⟨rfl, .refl _⟩ (And.intro ⟨rfl, .refl _⟩ (And.intro ⟨rfl, .refl _⟩ (True.intro))))))))))))))))⟩ (And.intro ⟨_, rfl, And.intro ⟨rfl, .refl _⟩ (And.intro ⟨rfl, .refl _⟩ (True.intro))⟩ (True.intro)), rfl⟩ h
        · conv => whnf
          exact join_end (v := ()) ⟨rfl, True.intro, True.intro, rfl⟩ h
      · rintro _ h
        conv => whnf
        replace h := bind_inv h; obtain ⟨v1243, g1244, h⟩ := h
        refine ⟨_, _, law32_awake_ok g1244, .inl rfl, ?_⟩
        conv => whnf
        cases h
        exact ⟨rfl, rfl⟩
end Go.AX.Q32
