/-
  The functions do what their plain forms say (proofs written by a program of mine), part 1.
-/
import Derived.Test.YtikcogmkchljaaaQ32P0
namespace Go.AX.Q32
open Go Go.AX Go.Proofs
set_option maxRecDepth 100000
set_option maxHeartbeats 4000000
set_option linter.unusedVariables false
theorem mill_New_ok {a0 : List Int} {r : Deck} (h : mill_New a0 = some r) : CallsOK Try.prog 9 [AV.d (D.l 1 D.i a0)] [] (.ref 0 0) [.box (Deck.av r)] := by
  refine ok Try.f9 (by kernel_rfl) (by kernel_rfl) ⟨rfl, ?_⟩
  unfold mill_New at h
  conv => whnf
  cases h
  exact ⟨rfl, rfl⟩

theorem mill_Mod_ok {a0 : Int} {a1 : Int} {r : Int} (h : mill_Mod a0 a1 = some r) : CallsOK Try.prog 21 [AV.d (D.i a0), AV.d (D.i a1)] [] (.d (D.i r)) [] := by
  refine ok Try.f21 (by kernel_rfl) (by kernel_rfl) ⟨rfl, ?_⟩
  unfold mill_Mod at h
  conv => whnf
  replace h := bind_inv h; obtain ⟨_, g1, h⟩ := h
  refine ⟨chk_inv g1, _, rfl, ?_⟩
  conv => whnf
  revert h; refine cut_join (fun v2 => ⟨dd 5 (AV.d (D.i v2) :: dd 9 ([])), nn 15 ([])⟩) ?_ ?_
  · intro k3 h
    conv => whnf
    revert h; refine sel_if ?_ ?_ <;> intro h
    · conv => whnf
      refine ⟨_, rfl, ?_⟩
      conv => whnf
      exact join_end (v := (i64w ((Int.tmod a0 a1) + a1))) ⟨rfl, And.intro (.refl _) True.intro, True.intro, rfl⟩ h
    · conv => whnf
      exact join_end (v := (Int.tmod a0 a1)) ⟨rfl, And.intro (.refl _) True.intro, True.intro, rfl⟩ h
  · rintro v2 h
    conv => whnf
    cases h
    exact ⟨rfl, rfl⟩

theorem mill_Deck_Next_ok {a0 : Deck} {a1 : Int} {r : Int × Deck} (h : mill_Deck_Next a0 a1 = some r) : CallsOK Try.prog 20 [.ref 0 0, AV.d (D.i a1)] [.box (Deck.av a0)] (.d (D.i r.1)) [.box (Deck.av r.2)] := by
  refine ok Try.f20 (by kernel_rfl) (by kernel_rfl) ⟨rfl, ?_⟩
  unfold mill_Deck_Next at h
  conv => whnf
  refine dOB (by kernel_rfl) ?_
  conv => whnf
  refine ⟨a0.L.length, List.length_map _, ?_⟩
  conv => whnf
  refine cOB (by kernel_rfl) ?_
  conv => whnf
  refine .go ?_
  conv => whnf
  revert h; refine sel_if ?_ ?_ <;> intro h
  · conv => whnf
    cases h
    exact ⟨rfl, rfl⟩
  · conv => whnf
    refine ⟨_, rfl, ?_⟩
    conv => whnf
    refine dOB (by kernel_rfl) ?_
    conv => whnf
    refine ⟨_, rfl, ?_⟩
    conv => whnf
    replace h := bind_inv h; obtain ⟨v1, g2, h⟩ := h
    refine ⟨geti_b (f := D.i) g2, D.i v1, geti_d (f := D.i) g2, rfl, ?_⟩
    conv => whnf
    replace h := bind_inv h; obtain ⟨v3, g4, h⟩ := h
    refine ⟨_, _, mill_Mod_ok g4, .inl rfl, ?_⟩
    conv => whnf
    refine cOB (by kernel_rfl) ?_
    conv => whnf
    cases h
    exact ⟨rfl, rfl⟩

theorem mill_Deck_Open_ok {a0 : Deck} {a1 : Int} {r : Open × Deck} (h : mill_Deck_Open a0 a1 = some r) : CallsOK Try.prog 10 [.ref 0 0, AV.d (D.i a1)] [.box (Deck.av a0)] (.d (Open.toD r.1)) [.box (Deck.av r.2)] := by
  refine ok Try.f10 (by kernel_rfl) (by kernel_rfl) ⟨rfl, ?_⟩
  unfold mill_Deck_Open at h
  conv => whnf
  refine dOB (by kernel_rfl) ?_
  conv => whnf
  replace h := bind_inv h; obtain ⟨⟨v1, v2⟩, g3, h⟩ := h
  refine ⟨_, _, mill_Deck_Next_ok g3, .inl rfl, ?_⟩
  conv => whnf
  refine ⟨_, rfl, ?_⟩
  conv => whnf
  replace h := bind_inv h; obtain ⟨⟨v4, v5⟩, g6, h⟩ := h
  refine ⟨_, _, mill_Deck_Next_ok g6, .inl rfl, ?_⟩
  conv => whnf
  replace h := bind_inv h; obtain ⟨v7, g8, h⟩ := h
  refine ⟨rfl, geti_b (f := D.i) g8, ?_⟩
  conv => whnf
  refine ⟨rfl, D.i v7, (geti_d (f := D.i) g8), ?_⟩
  conv => whnf
  replace h := bind_inv h; obtain ⟨⟨v9, v10⟩, g11, h⟩ := h
  refine ⟨_, _, mill_Deck_Next_ok g11, .inl rfl, ?_⟩
  conv => whnf
  refine ⟨_, rfl, ?_⟩
  conv => whnf
  replace h := bind_inv h; obtain ⟨⟨v12, v13⟩, g14, h⟩ := h
  refine ⟨_, _, mill_Deck_Next_ok g14, .inl rfl, ?_⟩
  conv => whnf
  replace h := bind_inv h; obtain ⟨v15, g16, h⟩ := h
  refine ⟨rfl, geti_b (f := D.i) g16, ?_⟩
  conv => whnf
  refine ⟨rfl, D.i v15, (geti_d (f := D.i) g16), ?_⟩
  conv => whnf
  replace h := bind_inv h; obtain ⟨⟨v17, v18⟩, g19, h⟩ := h
  refine ⟨_, _, mill_Deck_Next_ok g19, .inl rfl, ?_⟩
  conv => whnf
  refine cOB (by kernel_rfl) ?_
  conv => whnf
  cases h
  exact ⟨rfl, rfl⟩

theorem mill_Deck_ASN_ok {a0 : Deck} {r : Int × Deck} (h : mill_Deck_ASN a0 = some r) : CallsOK Try.prog 11 [.ref 0 0] [.box (Deck.av a0)] (.d (D.i r.1)) [.box (Deck.av r.2)] := by
  refine ok Try.f11 (by kernel_rfl) (by kernel_rfl) ⟨rfl, ?_⟩
  unfold mill_Deck_ASN at h
  conv => whnf
  replace h := bind_inv h; obtain ⟨⟨v1, v2⟩, g3, h⟩ := h
  refine ⟨_, _, mill_Deck_Next_ok g3, .inl rfl, ?_⟩
  conv => whnf
  refine .go ?_
  conv => whnf
  revert h; refine sel_if ?_ ?_ <;> intro h
  · conv => whnf
    replace h := bind_inv h; obtain ⟨⟨v9, v10⟩, g11, h⟩ := h
    refine ⟨_, _, mill_Deck_Next_ok g11, .inl rfl, ?_⟩
    conv => whnf
    replace h := bind_inv h; obtain ⟨v12, g13, h⟩ := h
    refine ⟨rfl, geti_b (f := D.i) g13, ?_⟩
    conv => whnf
    refine ⟨rfl, D.i v12, (geti_d (f := D.i) g13), ?_⟩
    conv => whnf
    cases h
    exact ⟨rfl, rfl⟩
  · conv => whnf
    replace h := bind_inv h; obtain ⟨⟨v14, v15⟩, g16, h⟩ := h
    refine ⟨_, _, mill_Deck_Next_ok g16, .inl rfl, ?_⟩
    conv => whnf
    refine ⟨_, rfl, ?_⟩
    conv => whnf
    cases h
    exact ⟨rfl, rfl⟩

theorem session_Valid_1_ok {a0 : Int} {a1 : Int} {a2 : Int} {r : Bool} (h : session_Valid_1 a0 a1 a2 = some r) : CallsOK Try.prog 36 [AV.d (D.i a0), AV.d (D.i a1), AV.d (D.i a2)] [] (.d (D.b r)) [] := by
  refine ok Try.f36 (by kernel_rfl) (by kernel_rfl) ⟨rfl, ?_⟩
  unfold session_Valid_1 at h
  conv => whnf
  revert h; refine cut_join (fun v1 => ⟨dd 6 (AV.d (D.b v1) :: dd 8 ([])), nn 15 ([])⟩) ?_ ?_
  · intro k2 h
    conv => whnf
    revert h; refine sel_if ?_ ?_ <;> intro h
    · conv => whnf
      exact join_end (v := (decide (a0 ≤ a2))) ⟨rfl, And.intro (.refl _) True.intro, True.intro, rfl⟩ h
    · conv => whnf
      exact join_end (v := false) ⟨rfl, And.intro (.refl _) True.intro, True.intro, rfl⟩ h
  · rintro v1 h
    conv => whnf
    cases h
    exact ⟨rfl, rfl⟩

theorem session_Valid_ok {a0 : Open} {r : Bool} (h : session_Valid a0 = some r) : CallsOK Try.prog 14 [AV.d (Open.toD a0)] [] (.d (D.b r)) [] := by
  refine ok Try.f14 (by kernel_rfl) (by kernel_rfl) ⟨rfl, ?_⟩
  unfold session_Valid at h
  conv => whnf
  revert h; refine cut_join (fun v15 => ⟨X :: X :: AV.d (D.b v15) :: dd 34 ([]), nn 37 ([])⟩) ?_ ?_
  · intro k16 h
    conv => whnf
    replace h := bind_inv h; obtain ⟨v17, g18, h⟩ := h
    refine ⟨_, _, session_Valid_1_ok g18, .inl rfl, ?_⟩
    conv => whnf
    revert h; refine sel_if ?_ ?_ <;> intro h
    · conv => whnf
      replace h := bind_inv h; obtain ⟨v19, g20, h⟩ := h
      refine ⟨_, _, session_Valid_1_ok g20, .inl rfl, ?_⟩
      conv => whnf
      revert h; refine sel_if ?_ ?_ <;> intro h
      · conv => whnf
        revert h; refine sel_if ?_ ?_ <;> intro h
        · conv => whnf
          replace h := bind_inv h; obtain ⟨v21, g22, h⟩ := h
          refine ⟨_, _, session_Valid_1_ok g22, .inl rfl, ?_⟩
          conv => whnf
          revert h; refine sel_if ?_ ?_ <;> intro h
          · conv => whnf
            replace h := bind_inv h; obtain ⟨v23, g24, h⟩ := h
            refine ⟨_, _, session_Valid_1_ok g24, .inl rfl, ?_⟩
            conv => whnf
            exact join_end (v := v23) ⟨rfl, And.intro (.refl _) True.intro, True.intro, rfl⟩ h
          · conv => whnf
            exact join_end (v := false) ⟨rfl, And.intro (.refl _) True.intro, True.intro, rfl⟩ h
        · conv => whnf
          replace h := bind_inv h; obtain ⟨v25, g26, h⟩ := h
          refine ⟨_, _, session_Valid_1_ok g26, .inl rfl, ?_⟩
          conv => whnf
          revert h; refine sel_if ?_ ?_ <;> intro h
          · conv => whnf
            replace h := bind_inv h; obtain ⟨v27, g28, h⟩ := h
            refine ⟨_, _, session_Valid_1_ok g28, .inl rfl, ?_⟩
            conv => whnf
            revert h; refine sel_if ?_ ?_ <;> intro h
            · conv => whnf
              replace h := bind_inv h; obtain ⟨v29, g30, h⟩ := h
              refine ⟨_, _, session_Valid_1_ok g30, .inl rfl, ?_⟩
              conv => whnf
              exact join_end (v := v29) ⟨rfl, And.intro (.refl _) True.intro, True.intro, rfl⟩ h
            · conv => whnf
              exact join_end (v := false) ⟨rfl, And.intro (.refl _) True.intro, True.intro, rfl⟩ h
          · conv => whnf
            exact join_end (v := false) ⟨rfl, And.intro (.refl _) True.intro, True.intro, rfl⟩ h
      · conv => whnf
        exact join_end (v := false) ⟨rfl, And.intro (.refl _) True.intro, True.intro, rfl⟩ h
    · conv => whnf
      exact join_end (v := false) ⟨rfl, And.intro (.refl _) True.intro, True.intro, rfl⟩ h
  · rintro v15 h
    conv => whnf
    cases h
    exact ⟨rfl, rfl⟩

theorem session_put_ok {a0 : List UInt8} {a1 : Int} {a2 : Int} {r : (List UInt8)} (h : session_put a0 a1 a2 = some r) : CallsOK Try.prog 34 [AV.own 0 (List.map D.u8 a0).length, AV.d (D.i a1), AV.d (D.i a2)] [.row 5 1 (List.map D.u8 a0) false] (AV.own 0 (List.map D.u8 r).length) [.row 5 1 (List.map D.u8 r) false] := by
  refine ok Try.f34 (by kernel_rfl) (by kernel_rfl) ⟨rfl, ?_⟩
  unfold session_put at h
  conv => whnf
  refine ⟨_, rfl, ?_⟩
  conv => whnf
  revert h; refine cut_join (fun v26 => ⟨AV.own 0 (List.map D.u8 v26).length :: dd 21 ([]), some (OB.row 5 1 (List.map D.u8 v26) false) :: nn 22 ([])⟩) ?_ ?_
  · intro k27 h
    conv => whnf
    revert h; refine loop_while (fun (v42, v43) => ⟨AV.own 0 (List.map D.u8 v43).length :: AV.d (D.i v42) :: AV.d (D.i a2) :: dd 19 ([]), some (OB.row 5 1 (List.map D.u8 v43) false) :: nn 22 ([])⟩) ⟨rfl, And.intro (.refl _) (And.intro (.refl _) (And.intro (.refl _) True.intro)), And.intro (.inl ⟨_, rfl, id⟩) (True.intro), rfl⟩ ?_
    rintro next46 ⟨v42, v43⟩ K44 h hK45
    conv => whnf
    refine .go ?_
    conv => whnf
    revert h; refine sel_if ?_ ?_ <;> intro h
    · conv => whnf
      refine .go ?_
      conv => whnf
      refine ⟨_, rfl, ?_⟩
      conv => whnf
      replace h := bind_inv h; obtain ⟨_, g50, h⟩ := h
      refine ⟨chk_inv g50, _, rfl, ?_⟩
      conv => whnf
      refine ⟨_, u8_wrap _, ?_⟩
      conv => whnf
      refine ⟨rfl, ?_⟩
      conv => whnf
      replace h := bind_inv h; obtain ⟨v51, g52, h⟩ := h
      refine ⟨rfl, apnd_b (f := D.u8) (g := D.u8) g52, _, apnd_z (f := D.u8) g52, ?_⟩
      conv => whnf
      refine ⟨_, rfl, ?_⟩
      conv => whnf
      exact hK45 _ ((i64w (v42 - 1)), v51) ⟨rfl, And.intro (.refl _) (And.intro (.refl _) (And.intro (.refl _) True.intro)), And.intro (.inl ⟨_, rfl, id⟩) (True.intro), rfl⟩ h
    · conv => whnf
      exact join_end (v := v43) ⟨rfl, And.intro (.refl _) True.intro, And.intro (.inl ⟨_, rfl, id⟩) (True.intro), rfl⟩ h
  · rintro v26 h
    conv => whnf
    cases h
    exact ⟨rfl, rfl⟩

theorem session_Encode_ok {a0 : Open} {r : (List UInt8) × Int} (h : session_Encode a0 = some r) : CallsOK Try.prog 12 [AV.d (Open.toD a0)] [] (.tup [.d (D.l 1 D.u8 r.1), .d (D.i r.2)]) [] := by
  refine ok Try.f12 (by kernel_rfl) (by kernel_rfl) ⟨rfl, ?_⟩
  unfold session_Encode at h
  conv => whnf
  replace h := bind_inv h; obtain ⟨v1, g2, h⟩ := h
  refine ⟨_, _, session_Valid_ok g2, .inl rfl, ?_⟩
  conv => whnf
  refine .go ?_
  conv => whnf
  revert h; refine sel_if ?_ ?_ <;> intro h
  · conv => whnf
    cases h
    exact ⟨rfl, rfl⟩
  · conv => whnf
    revert h; refine cut_join (fun v5 => ⟨X :: AV.ref 1 0 :: X :: X :: AV.own 4 (List.map D.u8 v5).length :: dd 68 ([]), N :: some (OB.box [AV.d (D.i a0.ASN), AV.d (D.i a0.ID), AV.d (D.i a0.Hold), AV.d (D.i a0.Role), AV.d (D.i a0.Grace), AV.d (D.b a0.Again)]) :: N :: N :: some (OB.row 5 1 (List.map D.u8 v5) false) :: nn 68 ([])⟩) ?_ ?_
    · intro k6 h
      conv => whnf
      revert h; refine sel_if ?_ ?_ <;> intro h
      · conv => whnf
        refine ⟨_, u8_wrap _, ?_⟩
        conv => whnf
        refine ⟨rfl, ?_⟩
        conv => whnf
        replace h := bind_inv h; obtain ⟨v7, g8, h⟩ := h
        refine ⟨rfl, apnd_b (f := D.u8) (g := D.u8) g8, _, apnd_z (f := D.u8) g8, ?_⟩
        conv => whnf
        exact join_end (v := v7) ⟨rfl, And.intro (.refl _) (And.intro (.refl _) True.intro), And.intro ⟨_, rfl, And.intro ⟨rfl, .refl _⟩ (And.intro ⟨rfl, .refl _⟩ (And.intro ⟨rfl, .refl _⟩ (And.intro ⟨rfl, .refl _⟩ (And.intro ⟨rfl, .refl _⟩ (And.intro ⟨rfl, .refl _⟩ (True.intro))))))⟩ (And.intro (.inl ⟨_, rfl, id⟩) (True.intro)), rfl⟩ h
      · conv => whnf
        exact join_end (v := []) ⟨rfl, And.intro (.refl _) (And.intro (.refl _) True.intro), And.intro ⟨_, rfl, And.intro ⟨rfl, .refl _⟩ (And.intro ⟨rfl, .refl _⟩ (And.intro ⟨rfl, .refl _⟩ (And.intro ⟨rfl, .refl _⟩ (And.intro ⟨rfl, .refl _⟩ (And.intro ⟨rfl, .refl _⟩ (True.intro))))))⟩ (And.intro (.inl ⟨_, rfl, id⟩) (True.intro)), rfl⟩ h
    · rintro v5 h
      conv => whnf
      revert h; refine cut_join (fun v9 => ⟨X :: AV.ref 1 0 :: X :: X :: AV.own 4 (List.map D.u8 v5).length :: dd 21 (AV.d (D.b v9) :: dd 46 ([])), N :: some (OB.box [AV.d (D.i a0.ASN), AV.d (D.i a0.ID), AV.d (D.i a0.Hold), AV.d (D.i a0.Role), AV.d (D.i a0.Grace), AV.d (D.b a0.Again)]) :: N :: N :: some (OB.row 5 1 (List.map D.u8 v5) false) :: nn 68 ([])⟩) ?_ ?_
      · intro k10 h
        conv => whnf
        revert h; refine sel_if ?_ ?_ <;> intro h
        · conv => whnf
          exact join_end (v := true) ⟨rfl, And.intro (.refl _) (And.intro (.refl _) (And.intro (.refl _) True.intro)), And.intro ⟨_, rfl, And.intro ⟨rfl, .refl _⟩ (And.intro ⟨rfl, .refl _⟩ (And.intro ⟨rfl, .refl _⟩ (And.intro ⟨rfl, .refl _⟩ (And.intro ⟨rfl, .refl _⟩ (And.intro ⟨rfl, .refl _⟩ (True.intro))))))⟩ (And.intro (.inl ⟨_, rfl, id⟩) (True.intro)), rfl⟩ h
        · conv => whnf
          exact join_end (v := a0.Again) ⟨rfl, And.intro (.refl _) (And.intro (.refl _) (And.intro (.refl _) True.intro)), And.intro ⟨_, rfl, And.intro ⟨rfl, .refl _⟩ (And.intro ⟨rfl, .refl _⟩ (And.intro ⟨rfl, .refl _⟩ (And.intro ⟨rfl, .refl _⟩ (And.intro ⟨rfl, .refl _⟩ (And.intro ⟨rfl, .refl _⟩ (True.intro))))))⟩ (And.intro (.inl ⟨_, rfl, id⟩) (True.intro)), rfl⟩ h
      · rintro v9 h
        conv => whnf
        revert h; refine cut_join (fun v17 => ⟨X :: AV.ref 1 0 :: X :: X :: AV.own 4 (List.map D.u8 v17).length :: dd 68 ([]), N :: some (OB.box [AV.d (D.i a0.ASN), AV.d (D.i a0.ID), AV.d (D.i a0.Hold), AV.d (D.i a0.Role), AV.d (D.i a0.Grace), AV.d (D.b a0.Again)]) :: N :: N :: some (OB.row 5 1 (List.map D.u8 v17) false) :: nn 68 ([])⟩) ?_ ?_
        · intro k18 h
          conv => whnf
          revert h; refine sel_if ?_ ?_ <;> intro h
          · conv => whnf
            revert h; refine cut_join (fun v19 => ⟨X :: AV.ref 1 0 :: X :: X :: AV.own 4 (List.map D.u8 v5).length :: AV.d (D.i v19) :: dd 67 ([]), N :: some (OB.box [AV.d (D.i a0.ASN), AV.d (D.i a0.ID), AV.d (D.i a0.Hold), AV.d (D.i a0.Role), AV.d (D.i a0.Grace), AV.d (D.b a0.Again)]) :: N :: N :: some (OB.row 5 1 (List.map D.u8 v5) false) :: nn 68 ([])⟩) ?_ ?_
            · intro k20 h
              conv => whnf
              revert h; refine sel_if ?_ ?_ <;> intro h
              · conv => whnf
                refine ⟨_, rfl, ?_⟩
                conv => whnf
                exact join_end (v := (i64w ((BitVec.ofInt 64 a0.Grace ||| BitVec.ofInt 64 32768).toNat : Int))) ⟨rfl, And.intro (.refl _) (And.intro (.refl _) (And.intro (.refl _) True.intro)), And.intro ⟨_, rfl, And.intro ⟨rfl, .refl _⟩ (And.intro ⟨rfl, .refl _⟩ (And.intro ⟨rfl, .refl _⟩ (And.intro ⟨rfl, .refl _⟩ (And.intro ⟨rfl, .refl _⟩ (And.intro ⟨rfl, .refl _⟩ (True.intro))))))⟩ (And.intro (.inl ⟨_, rfl, id⟩) (True.intro)), rfl⟩ h
              · conv => whnf
                exact join_end (v := a0.Grace) ⟨rfl, And.intro (.refl _) (And.intro (.refl _) (And.intro (.refl _) True.intro)), And.intro ⟨_, rfl, And.intro ⟨rfl, .refl _⟩ (And.intro ⟨rfl, .refl _⟩ (And.intro ⟨rfl, .refl _⟩ (And.intro ⟨rfl, .refl _⟩ (And.intro ⟨rfl, .refl _⟩ (And.intro ⟨rfl, .refl _⟩ (True.intro))))))⟩ (And.intro (.inl ⟨_, rfl, id⟩) (True.intro)), rfl⟩ h
            · rintro v19 h
              conv => whnf
              refine ⟨rfl, ?_⟩
              conv => whnf
              replace h := bind_inv h; obtain ⟨v21, g22, h⟩ := h
              refine ⟨rfl, apnd_b (f := D.u8) (g := D.u8) g22, _, apnd_z (f := D.u8) g22, ?_⟩
              conv => whnf
              replace h := bind_inv h; obtain ⟨v23, g24, h⟩ := h
              refine ⟨_, _, session_put_ok g24, .inl rfl, ?_⟩
              conv => whnf
              exact join_end (v := v23) ⟨rfl, And.intro (.refl _) (And.intro (.refl _) True.intro), And.intro ⟨_, rfl, And.intro ⟨rfl, .refl _⟩ (And.intro ⟨rfl, .refl _⟩ (And.intro ⟨rfl, .refl _⟩ (And.intro ⟨rfl, .refl _⟩ (And.intro ⟨rfl, .refl _⟩ (And.intro ⟨rfl, .refl _⟩ (True.intro))))))⟩ (And.intro (.inl ⟨_, rfl, id⟩) (True.intro)), rfl⟩ h
          · conv => whnf
            exact join_end (v := v5) ⟨rfl, And.intro (.refl _) (And.intro (.refl _) True.intro), And.intro ⟨_, rfl, And.intro ⟨rfl, .refl _⟩ (And.intro ⟨rfl, .refl _⟩ (And.intro ⟨rfl, .refl _⟩ (And.intro ⟨rfl, .refl _⟩ (And.intro ⟨rfl, .refl _⟩ (And.intro ⟨rfl, .refl _⟩ (True.intro))))))⟩ (And.intro (.inl ⟨_, rfl, id⟩) (True.intro)), rfl⟩ h
        · rintro v17 h
          conv => whnf
          refine dOB (by kernel_rfl) ?_
          conv => whnf
          refine ⟨rfl, ?_⟩
          conv => whnf
          replace h := bind_inv h; obtain ⟨v25, g26, h⟩ := h
          refine ⟨rfl, apnd_b (f := D.u8) (g := D.u8) g26, _, apnd_z (f := D.u8) g26, ?_⟩
          conv => whnf
          replace h := bind_inv h; obtain ⟨v27, g28, h⟩ := h
          refine ⟨_, _, session_put_ok g28, .inl rfl, ?_⟩
          conv => whnf
          refine cOB (by kernel_rfl) ?_
          conv => whnf
          revert h; refine cut_join (fun v29 => ⟨X :: AV.ref 1 0 :: X :: X :: AV.own 4 (List.map D.u8 v27).length :: X :: AV.d (D.i v29) :: dd 66 ([]), N :: some (OB.box [AV.d (D.i a0.ASN), AV.d (D.i a0.ID), AV.d (D.i a0.Hold), AV.d (D.i a0.Role), AV.d (D.i a0.Grace), AV.d (D.b a0.Again)]) :: N :: N :: some (OB.row 5 1 (List.map D.u8 v27) false) :: nn 68 ([])⟩) ?_ ?_
          · intro k30 h
            conv => whnf
            revert h; refine sel_if ?_ ?_ <;> intro h
            · conv => whnf
              exact join_end (v := a0.ASN) ⟨rfl, And.intro (.refl _) (And.intro (.refl _) (And.intro (.refl _) True.intro)), And.intro ⟨_, rfl, And.intro ⟨rfl, .refl _⟩ (And.intro ⟨rfl, .refl _⟩ (And.intro ⟨rfl, .refl _⟩ (And.intro ⟨rfl, .refl _⟩ (And.intro ⟨rfl, .refl _⟩ (And.intro ⟨rfl, .refl _⟩ (True.intro))))))⟩ (And.intro (.inl ⟨_, rfl, id⟩) (True.intro)), rfl⟩ h
            · conv => whnf
              exact join_end (v := 23456) ⟨rfl, And.intro (.refl _) (And.intro (.refl _) (And.intro (.refl _) True.intro)), And.intro ⟨_, rfl, And.intro ⟨rfl, .refl _⟩ (And.intro ⟨rfl, .refl _⟩ (And.intro ⟨rfl, .refl _⟩ (And.intro ⟨rfl, .refl _⟩ (And.intro ⟨rfl, .refl _⟩ (And.intro ⟨rfl, .refl _⟩ (True.intro))))))⟩ (And.intro (.inl ⟨_, rfl, id⟩) (True.intro)), rfl⟩ h
          · rintro v29 h
            conv => whnf
            replace h := bind_inv h; obtain ⟨v31, g32, h⟩ := h
            refine ⟨_, _, session_put_ok g32, .inl rfl, ?_⟩
            conv => whnf
            replace h := bind_inv h; obtain ⟨v33, g34, h⟩ := h
            refine ⟨_, _, session_put_ok g34, .inl rfl, ?_⟩
            conv => whnf
            replace h := bind_inv h; obtain ⟨v35, g36, h⟩ := h
            refine ⟨_, _, session_put_ok g36, .inl rfl, ?_⟩
            conv => whnf
            refine ⟨v27.length, by first | exact List.length_map _ | rfl | (simp only [List.length_map]; omega), ?_⟩
            conv => whnf
            refine ⟨_, rfl, ?_⟩
            conv => whnf
            refine ⟨_, u8_wrap _, ?_⟩
            conv => whnf
            refine ⟨v27.length, by first | exact List.length_map _ | rfl | (simp only [List.length_map]; omega), ?_⟩
            conv => whnf
            refine ⟨_, u8_wrap _, ?_⟩
            conv => whnf
            refine ⟨rfl, ?_⟩
            conv => whnf
            replace h := bind_inv h; obtain ⟨v37, g38, h⟩ := h
            refine ⟨rfl, apnd_b (f := D.u8) (g := D.u8) g38, _, apnd_z (f := D.u8) g38, ?_⟩
            conv => whnf
            refine ⟨rfl, ?_⟩
            conv => whnf
            replace h := bind_inv h; obtain ⟨v39, g40, h⟩ := h
            refine ⟨rfl, apnd_b (f := D.u8) (g := D.u8) g40, _, apnd_z (f := D.u8) g40, ?_⟩
            conv => whnf
            refine ⟨rfl, ?_⟩
            conv => whnf
            cases h
            exact ⟨rfl, rfl⟩

theorem ref32_Valid_ok {a0 : Open} {r : Bool} (h : ref32_Valid a0 = some r) : CallsOK Try.prog 15 [AV.d (Open.toD a0)] [] (.d (D.b r)) [] := by
  refine ok Try.f15 (by kernel_rfl) (by kernel_rfl) ⟨rfl, ?_⟩
  unfold ref32_Valid at h
  conv => whnf
  revert h; refine cut_join (fun v1 => ⟨X :: X :: AV.d (D.b v1) :: dd 53 ([]), nn 56 ([])⟩) ?_ ?_
  · intro k2 h
    conv => whnf
    revert h; refine sel_if ?_ ?_ <;> intro h
    · conv => whnf
      revert h; refine sel_if ?_ ?_ <;> intro h
      · conv => whnf
        revert h; refine sel_if ?_ ?_ <;> intro h
        · conv => whnf
          revert h; refine sel_if ?_ ?_ <;> intro h
          · conv => whnf
            revert h; refine sel_if ?_ ?_ <;> intro h
            · conv => whnf
              revert h; refine sel_if ?_ ?_ <;> intro h
              · conv => whnf
                revert h; refine sel_if ?_ ?_ <;> intro h
                · conv => whnf
                  revert h; refine sel_if ?_ ?_ <;> intro h
                  · conv => whnf
                    exact join_end (v := (decide (a0.Grace ≤ 4095))) ⟨rfl, And.intro (.refl _) True.intro, True.intro, rfl⟩ h
                  · conv => whnf
                    exact join_end (v := false) ⟨rfl, And.intro (.refl _) True.intro, True.intro, rfl⟩ h
                · conv => whnf
                  exact join_end (v := false) ⟨rfl, And.intro (.refl _) True.intro, True.intro, rfl⟩ h
              · conv => whnf
                exact join_end (v := false) ⟨rfl, And.intro (.refl _) True.intro, True.intro, rfl⟩ h
            · conv => whnf
              revert h; refine sel_if ?_ ?_ <;> intro h
              · conv => whnf
                revert h; refine sel_if ?_ ?_ <;> intro h
                · conv => whnf
                  revert h; refine sel_if ?_ ?_ <;> intro h
                  · conv => whnf
                    revert h; refine sel_if ?_ ?_ <;> intro h
                    · conv => whnf
                      revert h; refine sel_if ?_ ?_ <;> intro h
                      · conv => whnf
                        exact join_end (v := (decide (a0.Grace ≤ 4095))) ⟨rfl, And.intro (.refl _) True.intro, True.intro, rfl⟩ h
                      · conv => whnf
                        exact join_end (v := false) ⟨rfl, And.intro (.refl _) True.intro, True.intro, rfl⟩ h
                    · conv => whnf
                      exact join_end (v := false) ⟨rfl, And.intro (.refl _) True.intro, True.intro, rfl⟩ h
                  · conv => whnf
                    exact join_end (v := false) ⟨rfl, And.intro (.refl _) True.intro, True.intro, rfl⟩ h
                · conv => whnf
                  exact join_end (v := false) ⟨rfl, And.intro (.refl _) True.intro, True.intro, rfl⟩ h
              · conv => whnf
                exact join_end (v := false) ⟨rfl, And.intro (.refl _) True.intro, True.intro, rfl⟩ h
          · conv => whnf
            exact join_end (v := false) ⟨rfl, And.intro (.refl _) True.intro, True.intro, rfl⟩ h
        · conv => whnf
          exact join_end (v := false) ⟨rfl, And.intro (.refl _) True.intro, True.intro, rfl⟩ h
      · conv => whnf
        exact join_end (v := false) ⟨rfl, And.intro (.refl _) True.intro, True.intro, rfl⟩ h
    · conv => whnf
      exact join_end (v := false) ⟨rfl, And.intro (.refl _) True.intro, True.intro, rfl⟩ h
  · rintro v1 h
    conv => whnf
    cases h
    exact ⟨rfl, rfl⟩

theorem ref32_number_ok {a0 : Int} {a1 : Int} {r : (List UInt8)} (h : ref32_number a0 a1 = some r) : CallsOK Try.prog 35 [AV.d (D.i a0), AV.d (D.i a1)] [] (.d (D.l 1 D.u8 r)) [] := by
  refine ok Try.f35 (by kernel_rfl) (by kernel_rfl) ⟨rfl, ?_⟩
  unfold ref32_number at h
  conv => whnf
  revert h; refine cut_join (fun v20 => ⟨dd 5 (AV.own 5 (List.map D.u8 v20).length :: dd 15 ([])), nn 5 (some (OB.row 5 1 (List.map D.u8 v20) false) :: nn 15 ([]))⟩) ?_ ?_
  · intro k21 h
    conv => whnf
    revert h; refine loop_while (fun (v32, v33) => ⟨AV.d (D.i a0) :: AV.d (D.i v32) :: X :: X :: X :: AV.own 5 (List.map D.u8 v33).length :: dd 15 ([]), nn 5 (some (OB.row 5 1 (List.map D.u8 v33) false) :: nn 15 ([]))⟩) ⟨rfl, And.intro (.refl _) (And.intro (.refl _) (And.intro (.refl _) True.intro)), And.intro (.inl ⟨_, rfl, id⟩) (True.intro), rfl⟩ ?_
    rintro next36 ⟨v32, v33⟩ K34 h hK35
    conv => whnf
    refine .go ?_
    conv => whnf
    revert h; refine sel_if ?_ ?_ <;> intro h
    · conv => whnf
      refine .go ?_
      conv => whnf
      refine ⟨_, rfl, ?_⟩
      conv => whnf
      refine ⟨_, rfl, ?_⟩
      conv => whnf
      refine ⟨_, u64_wrap _, ?_⟩
      conv => whnf
      refine ⟨Int.natCast_nonneg _, _, rfl, ?_⟩
      conv => whnf
      refine ⟨_, u8_wrap _, ?_⟩
      conv => whnf
      refine ⟨rfl, ?_⟩
      conv => whnf
      replace h := bind_inv h; obtain ⟨v39, g40, h⟩ := h
      refine ⟨rfl, apnd_b (f := D.u8) (g := D.u8) g40, _, apnd_z (f := D.u8) g40, ?_⟩
      conv => whnf
      refine ⟨_, rfl, ?_⟩
      conv => whnf
      exact hK35 _ ((i64w (v32 - 1)), v39) ⟨rfl, And.intro (.refl _) (And.intro (.refl _) (And.intro (.refl _) True.intro)), And.intro (.inl ⟨_, rfl, id⟩) (True.intro), rfl⟩ h
    · conv => whnf
      exact join_end (v := v33) ⟨rfl, And.intro (.refl _) True.intro, And.intro (.inl ⟨_, rfl, id⟩) (True.intro), rfl⟩ h
  · rintro v20 h
    conv => whnf
    refine ⟨rfl, ?_⟩
    conv => whnf
    cases h
    exact ⟨rfl, rfl⟩

theorem ref32_Encode_ok {a0 : Open} {r : (List UInt8) × Int} (h : ref32_Encode a0 = some r) : CallsOK Try.prog 13 [AV.d (Open.toD a0)] [] (.tup [.d (D.l 1 D.u8 r.1), .d (D.i r.2)]) [] := by
  refine ok Try.f13 (by kernel_rfl) (by kernel_rfl) ⟨rfl, ?_⟩
  unfold ref32_Encode at h
  conv => whnf
  replace h := bind_inv h; obtain ⟨v1, g2, h⟩ := h
  refine ⟨_, _, ref32_Valid_ok g2, .inl rfl, ?_⟩
  conv => whnf
  refine .go ?_
  conv => whnf
  revert h; refine sel_if ?_ ?_ <;> intro h
  · conv => whnf
    cases h
    exact ⟨rfl, rfl⟩
  · conv => whnf
    revert h; refine cut_join (fun v5 => ⟨X :: AV.ref 1 0 :: X :: X :: AV.own 4 (List.map D.u8 v5).length :: dd 70 ([]), N :: some (OB.box [AV.d (D.i a0.ASN), AV.d (D.i a0.ID), AV.d (D.i a0.Hold), AV.d (D.i a0.Role), AV.d (D.i a0.Grace), AV.d (D.b a0.Again)]) :: N :: N :: some (OB.row 5 1 (List.map D.u8 v5) false) :: nn 70 ([])⟩) ?_ ?_
    · intro k6 h
      conv => whnf
      revert h; refine sel_if ?_ ?_ <;> intro h
      · conv => whnf
        refine ⟨_, u8_wrap _, ?_⟩
        conv => whnf
        refine ⟨rfl, ?_⟩
        conv => whnf
        replace h := bind_inv h; obtain ⟨v7, g8, h⟩ := h
        refine ⟨rfl, apnd_b (f := D.u8) (g := D.u8) g8, _, apnd_z (f := D.u8) g8, ?_⟩
        conv => whnf
        exact join_end (v := v7) ⟨rfl, And.intro (.refl _) (And.intro (.refl _) True.intro), And.intro ⟨_, rfl, And.intro ⟨rfl, .refl _⟩ (And.intro ⟨rfl, .refl _⟩ (And.intro ⟨rfl, .refl _⟩ (And.intro ⟨rfl, .refl _⟩ (And.intro ⟨rfl, .refl _⟩ (And.intro ⟨rfl, .refl _⟩ (True.intro))))))⟩ (And.intro (.inl ⟨_, rfl, id⟩) (True.intro)), rfl⟩ h
      · conv => whnf
        exact join_end (v := []) ⟨rfl, And.intro (.refl _) (And.intro (.refl _) True.intro), And.intro ⟨_, rfl, And.intro ⟨rfl, .refl _⟩ (And.intro ⟨rfl, .refl _⟩ (And.intro ⟨rfl, .refl _⟩ (And.intro ⟨rfl, .refl _⟩ (And.intro ⟨rfl, .refl _⟩ (And.intro ⟨rfl, .refl _⟩ (True.intro))))))⟩ (And.intro (.inl ⟨_, rfl, id⟩) (True.intro)), rfl⟩ h
    · rintro v5 h
      conv => whnf
      revert h; refine cut_join (fun v9 => ⟨X :: AV.ref 1 0 :: X :: X :: AV.own 4 (List.map D.u8 v5).length :: dd 21 (AV.d (D.b v9) :: dd 48 ([])), N :: some (OB.box [AV.d (D.i a0.ASN), AV.d (D.i a0.ID), AV.d (D.i a0.Hold), AV.d (D.i a0.Role), AV.d (D.i a0.Grace), AV.d (D.b a0.Again)]) :: N :: N :: some (OB.row 5 1 (List.map D.u8 v5) false) :: nn 70 ([])⟩) ?_ ?_
      · intro k10 h
        conv => whnf
        revert h; refine sel_if ?_ ?_ <;> intro h
        · conv => whnf
          exact join_end (v := true) ⟨rfl, And.intro (.refl _) (And.intro (.refl _) (And.intro (.refl _) True.intro)), And.intro ⟨_, rfl, And.intro ⟨rfl, .refl _⟩ (And.intro ⟨rfl, .refl _⟩ (And.intro ⟨rfl, .refl _⟩ (And.intro ⟨rfl, .refl _⟩ (And.intro ⟨rfl, .refl _⟩ (And.intro ⟨rfl, .refl _⟩ (True.intro))))))⟩ (And.intro (.inl ⟨_, rfl, id⟩) (True.intro)), rfl⟩ h
        · conv => whnf
          exact join_end (v := a0.Again) ⟨rfl, And.intro (.refl _) (And.intro (.refl _) (And.intro (.refl _) True.intro)), And.intro ⟨_, rfl, And.intro ⟨rfl, .refl _⟩ (And.intro ⟨rfl, .refl _⟩ (And.intro ⟨rfl, .refl _⟩ (And.intro ⟨rfl, .refl _⟩ (And.intro ⟨rfl, .refl _⟩ (And.intro ⟨rfl, .refl _⟩ (True.intro))))))⟩ (And.intro (.inl ⟨_, rfl, id⟩) (True.intro)), rfl⟩ h
      · rintro v9 h
        conv => whnf
        revert h; refine cut_join (fun v19 => ⟨X :: AV.ref 1 0 :: X :: X :: AV.own 4 (List.map D.u8 v19).length :: dd 70 ([]), N :: some (OB.box [AV.d (D.i a0.ASN), AV.d (D.i a0.ID), AV.d (D.i a0.Hold), AV.d (D.i a0.Role), AV.d (D.i a0.Grace), AV.d (D.b a0.Again)]) :: N :: N :: some (OB.row 5 1 (List.map D.u8 v19) false) :: nn 70 ([])⟩) ?_ ?_
        · intro k20 h
          conv => whnf
          revert h; refine sel_if ?_ ?_ <;> intro h
          · conv => whnf
            revert h; refine cut_join (fun v21 => ⟨X :: AV.ref 1 0 :: X :: X :: AV.own 4 (List.map D.u8 v5).length :: AV.d (D.i v21) :: dd 69 ([]), N :: some (OB.box [AV.d (D.i a0.ASN), AV.d (D.i a0.ID), AV.d (D.i a0.Hold), AV.d (D.i a0.Role), AV.d (D.i a0.Grace), AV.d (D.b a0.Again)]) :: N :: N :: some (OB.row 5 1 (List.map D.u8 v5) false) :: nn 70 ([])⟩) ?_ ?_
            · intro k22 h
              conv => whnf
              revert h; refine sel_if ?_ ?_ <;> intro h
              · conv => whnf
                refine ⟨_, rfl, ?_⟩
                conv => whnf
                exact join_end (v := (i64w (a0.Grace + 32768))) ⟨rfl, And.intro (.refl _) (And.intro (.refl _) (And.intro (.refl _) True.intro)), And.intro ⟨_, rfl, And.intro ⟨rfl, .refl _⟩ (And.intro ⟨rfl, .refl _⟩ (And.intro ⟨rfl, .refl _⟩ (And.intro ⟨rfl, .refl _⟩ (And.intro ⟨rfl, .refl _⟩ (And.intro ⟨rfl, .refl _⟩ (True.intro))))))⟩ (And.intro (.inl ⟨_, rfl, id⟩) (True.intro)), rfl⟩ h
              · conv => whnf
                exact join_end (v := a0.Grace) ⟨rfl, And.intro (.refl _) (And.intro (.refl _) (And.intro (.refl _) True.intro)), And.intro ⟨_, rfl, And.intro ⟨rfl, .refl _⟩ (And.intro ⟨rfl, .refl _⟩ (And.intro ⟨rfl, .refl _⟩ (And.intro ⟨rfl, .refl _⟩ (And.intro ⟨rfl, .refl _⟩ (And.intro ⟨rfl, .refl _⟩ (True.intro))))))⟩ (And.intro (.inl ⟨_, rfl, id⟩) (True.intro)), rfl⟩ h
            · rintro v21 h
              conv => whnf
              refine ⟨rfl, ?_⟩
              conv => whnf
              replace h := bind_inv h; obtain ⟨v23, g24, h⟩ := h
              refine ⟨rfl, apnd_b (f := D.u8) (g := D.u8) g24, _, apnd_z (f := D.u8) g24, ?_⟩
              conv => whnf
              replace h := bind_inv h; obtain ⟨v25, g26, h⟩ := h
              refine ⟨_, _, ref32_number_ok g26, .inl rfl, ?_⟩
              conv => whnf
              replace h := bind_inv h; obtain ⟨v27, g28, h⟩ := h
              refine ⟨rfl, apnd_b (f := D.u8) (g := D.u8) g28, _, apnd_z (f := D.u8) g28, ?_⟩
              conv => whnf
              exact join_end (v := v27) ⟨rfl, And.intro (.refl _) (And.intro (.refl _) True.intro), And.intro ⟨_, rfl, And.intro ⟨rfl, .refl _⟩ (And.intro ⟨rfl, .refl _⟩ (And.intro ⟨rfl, .refl _⟩ (And.intro ⟨rfl, .refl _⟩ (And.intro ⟨rfl, .refl _⟩ (And.intro ⟨rfl, .refl _⟩ (True.intro))))))⟩ (And.intro (.inl ⟨_, rfl, id⟩) (True.intro)), rfl⟩ h
          · conv => whnf
            exact join_end (v := v5) ⟨rfl, And.intro (.refl _) (And.intro (.refl _) True.intro), And.intro ⟨_, rfl, And.intro ⟨rfl, .refl _⟩ (And.intro ⟨rfl, .refl _⟩ (And.intro ⟨rfl, .refl _⟩ (And.intro ⟨rfl, .refl _⟩ (And.intro ⟨rfl, .refl _⟩ (And.intro ⟨rfl, .refl _⟩ (True.intro))))))⟩ (And.intro (.inl ⟨_, rfl, id⟩) (True.intro)), rfl⟩ h
        · rintro v19 h
          conv => whnf
          refine dOB (by kernel_rfl) ?_
          conv => whnf
          refine ⟨rfl, ?_⟩
          conv => whnf
          replace h := bind_inv h; obtain ⟨v29, g30, h⟩ := h
          refine ⟨rfl, apnd_b (f := D.u8) (g := D.u8) g30, _, apnd_z (f := D.u8) g30, ?_⟩
          conv => whnf
          replace h := bind_inv h; obtain ⟨v31, g32, h⟩ := h
          refine ⟨_, _, ref32_number_ok g32, .inl rfl, ?_⟩
          conv => whnf
          replace h := bind_inv h; obtain ⟨v33, g34, h⟩ := h
          refine ⟨rfl, apnd_b (f := D.u8) (g := D.u8) g34, _, apnd_z (f := D.u8) g34, ?_⟩
          conv => whnf
          refine cOB (by kernel_rfl) ?_
          conv => whnf
          revert h; refine cut_join (fun v35 => ⟨X :: AV.ref 1 0 :: X :: X :: AV.own 4 (List.map D.u8 v33).length :: X :: AV.d (D.i v35) :: dd 68 ([]), N :: some (OB.box [AV.d (D.i a0.ASN), AV.d (D.i a0.ID), AV.d (D.i a0.Hold), AV.d (D.i a0.Role), AV.d (D.i a0.Grace), AV.d (D.b a0.Again)]) :: N :: N :: some (OB.row 5 1 (List.map D.u8 v33) false) :: nn 70 ([])⟩) ?_ ?_
          · intro k36 h
            conv => whnf
            revert h; refine sel_if ?_ ?_ <;> intro h
            · conv => whnf
              exact join_end (v := 23456) ⟨rfl, And.intro (.refl _) (And.intro (.refl _) (And.intro (.refl _) True.intro)), And.intro ⟨_, rfl, And.intro ⟨rfl, .refl _⟩ (And.intro ⟨rfl, .refl _⟩ (And.intro ⟨rfl, .refl _⟩ (And.intro ⟨rfl, .refl _⟩ (And.intro ⟨rfl, .refl _⟩ (And.intro ⟨rfl, .refl _⟩ (True.intro))))))⟩ (And.intro (.inl ⟨_, rfl, id⟩) (True.intro)), rfl⟩ h
            · conv => whnf
              exact join_end (v := a0.ASN) ⟨rfl, And.intro (.refl _) (And.intro (.refl _) (And.intro (.refl _) True.intro)), And.intro ⟨_, rfl, And.intro ⟨rfl, .refl _⟩ (And.intro ⟨rfl, .refl _⟩ (And.intro ⟨rfl, .refl _⟩ (And.intro ⟨rfl, .refl _⟩ (And.intro ⟨rfl, .refl _⟩ (And.intro ⟨rfl, .refl _⟩ (True.intro))))))⟩ (And.intro (.inl ⟨_, rfl, id⟩) (True.intro)), rfl⟩ h
          · rintro v35 h
            conv => whnf
            replace h := bind_inv h; obtain ⟨v37, g38, h⟩ := h
            refine ⟨_, _, ref32_number_ok g38, .inl rfl, ?_⟩
            conv => whnf
            replace h := bind_inv h; obtain ⟨v39, g40, h⟩ := h
            refine ⟨rfl, apnd_b (f := D.u8) (g := D.u8) g40, _, apnd_z (f := D.u8) g40, ?_⟩
            conv => whnf
            refine dOB (by kernel_rfl) ?_
            conv => whnf
            replace h := bind_inv h; obtain ⟨v41, g42, h⟩ := h
            refine ⟨_, _, ref32_number_ok g42, .inl rfl, ?_⟩
            conv => whnf
            replace h := bind_inv h; obtain ⟨v43, g44, h⟩ := h
            refine ⟨rfl, apnd_b (f := D.u8) (g := D.u8) g44, _, apnd_z (f := D.u8) g44, ?_⟩
            conv => whnf
            replace h := bind_inv h; obtain ⟨v45, g46, h⟩ := h
            refine ⟨_, _, ref32_number_ok g46, .inl rfl, ?_⟩
            conv => whnf
            replace h := bind_inv h; obtain ⟨v47, g48, h⟩ := h
            refine ⟨rfl, apnd_b (f := D.u8) (g := D.u8) g48, _, apnd_z (f := D.u8) g48, ?_⟩
            conv => whnf
            refine cOB (by kernel_rfl) ?_
            conv => whnf
            refine ⟨v33.length, by first | exact List.length_map _ | rfl | (simp only [List.length_map]; omega), ?_⟩
            conv => whnf
            refine ⟨_, rfl, ?_⟩
            conv => whnf
            refine ⟨_, u8_wrap _, ?_⟩
            conv => whnf
            refine ⟨v33.length, by first | exact List.length_map _ | rfl | (simp only [List.length_map]; omega), ?_⟩
            conv => whnf
            refine ⟨_, u8_wrap _, ?_⟩
            conv => whnf
            refine ⟨rfl, ?_⟩
            conv => whnf
            replace h := bind_inv h; obtain ⟨v49, g50, h⟩ := h
            refine ⟨rfl, apnd_b (f := D.u8) (g := D.u8) g50, _, apnd_z (f := D.u8) g50, ?_⟩
            conv => whnf
            refine ⟨rfl, ?_⟩
            conv => whnf
            replace h := bind_inv h; obtain ⟨v51, g52, h⟩ := h
            refine ⟨rfl, apnd_b (f := D.u8) (g := D.u8) g52, _, apnd_z (f := D.u8) g52, ?_⟩
            conv => whnf
            refine ⟨rfl, ?_⟩
            conv => whnf
            cases h
            exact ⟨rfl, rfl⟩

theorem ref32_SameMessages_ok {a0 : List Message} {a1 : List Message} {r : Bool} (h : ref32_SameMessages a0 a1 = some r) : CallsOK Try.prog 16 [AV.d (D.l 2 Message.toD a0), AV.d (D.l 2 Message.toD a1)] [] (.d (D.b r)) [] := by
  refine ok Try.f16 (by kernel_rfl) (by kernel_rfl) ⟨rfl, ?_⟩
  unfold ref32_SameMessages at h
  conv => whnf
  refine ⟨a0.length, List.length_map _, ?_⟩
  conv => whnf
  refine ⟨a1.length, List.length_map _, ?_⟩
  conv => whnf
  refine .go ?_
  conv => whnf
  revert h; refine sel_if ?_ ?_ <;> intro h
  · conv => whnf
    cases h
    exact ⟨rfl, rfl⟩
  · conv => whnf
    refine ⟨a0.length, List.length_map _, ?_⟩
    conv => whnf
    revert h; refine cut_join (fun _ => ⟨dd 43 ([]), nn 43 ([])⟩) ?_ ?_
    · intro k48 h
      conv => whnf
      revert h; refine loop_for 11 2 Message.toD rfl (fun i71 _ => ⟨AV.d (D.l 2 Message.toD a0) :: AV.d (D.l 2 Message.toD a1) :: dd 9 (AV.d (D.l 2 Message.toD a0) :: AV.d (D.i (a0.length : Int)) :: AV.d (D.i (i71 : Int)) :: dd 29 ([])), nn 43 ([])⟩) ⟨rfl, And.intro (.refl _) (And.intro (.refl _) (And.intro (.refl _) (And.intro (.refl _) (And.intro (.refl _) True.intro)))), True.intro, rfl⟩ ?_ ?_
      · rintro _ K73 h
        conv => whnf
        refine .go ?_
        conv => whnf
        refine sel_f lt_f ?_
        conv => whnf
        exact join_end (v := ()) ⟨rfl, True.intro, True.intro, rfl⟩ h
      · rintro next75 i71 x72 _ K73 hii71 hxi71 hwi71 h hK74
        conv => whnf
        refine .go ?_
        conv => whnf
        refine sel_t (lt_t hii71) ?_
        conv => whnf
        refine .go ?_
        conv => whnf
        revert h; refine cut_join (fun v90 => ⟨AV.d (D.l 2 Message.toD a0) :: AV.d (D.l 2 Message.toD a1) :: dd 9 (AV.d (D.l 2 Message.toD a0) :: AV.d (D.i (a0.length : Int)) :: AV.d (D.i (i71 : Int)) :: dd 27 (AV.d (D.b v90) :: X :: [])), nn 43 ([])⟩) ?_ ?_
        · intro k91 h
          conv => whnf
          refine dOB (by kernel_rfl) ?_
          conv => whnf
          refine ⟨idx_b (f := Message.toD) hii71, Message.toD x72, hxi71, rfl, ?_⟩
          conv => whnf
          replace h := bind_inv h; obtain ⟨v92, g93, h⟩ := h
          refine ⟨geti_b (f := Message.toD) g93, Message.toD v92, geti_d (f := Message.toD) g93, rfl, ?_⟩
          conv => whnf
          revert h; refine sel_if ?_ ?_ <;> intro h
          · conv => whnf
            refine cOB (by kernel_rfl) ?_
            conv => whnf
            exact join_end (v := true) ⟨rfl, And.intro (.refl _) (And.intro (.refl _) (And.intro (.refl _) (And.intro (.refl _) (And.intro (.refl _) (And.intro (.refl _) True.intro))))), True.intro, rfl⟩ h
          · conv => whnf
            refine ⟨idx_b (f := Message.toD) hii71, Message.toD x72, hxi71, rfl, ?_⟩
            conv => whnf
            refine ⟨x72.Body, rfl, ?_⟩
            conv => whnf
            replace h := bind_inv h; obtain ⟨v94, g95, h⟩ := h
            refine ⟨geti_b (f := Message.toD) g95, Message.toD v94, geti_d (f := Message.toD) g95, rfl, ?_⟩
            conv => whnf
            refine ⟨v94.Body, rfl, ?_⟩
            conv => whnf
            refine cOB (by kernel_rfl) ?_
            conv => whnf
            exact join_end (v := (!((bs x72.Body).toList == (bs v94.Body).toList))) ⟨rfl, And.intro (.refl _) (And.intro (.refl _) (And.intro (.refl _) (And.intro (.refl _) (And.intro (.refl _) (And.intro (.refl _) True.intro))))), True.intro, rfl⟩ h
        · rintro v90 h
          conv => whnf
          refine .go ?_
          conv => whnf
          revert h; refine sel_if ?_ ?_ <;> intro h
          · conv => whnf
            cases h
            exact ⟨rfl, rfl⟩
          · conv => whnf
            refine ⟨_, hwi71, ?_⟩
            conv => whnf
            exact hK74 _ () ⟨rfl, And.intro (.refl _) (And.intro (.refl _) (And.intro (.refl _) (And.intro (.refl _) (And.intro (.refl _) True.intro)))), True.intro, rfl⟩ h
    · rintro _ h
      conv => whnf
      cases h
      exact ⟨rfl, rfl⟩
end Go.AX.Q32
