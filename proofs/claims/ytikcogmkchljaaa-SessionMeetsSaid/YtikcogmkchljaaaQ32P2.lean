/-
  The functions do what their plain forms say (proofs written by a program of mine), part 2.
-/
import Derived.Test.YtikcogmkchljaaaQ32P1
namespace Go.AX.Q32
open Go Go.AX Go.Proofs
set_option maxRecDepth 100000
set_option maxHeartbeats 4000000
set_option linter.unusedVariables false
theorem session_Notify_ok {a0 : Int} {r : Message} (h : session_Notify a0 = some r) : CallsOK Try.prog 17 [AV.d (D.i a0)] [] (.d (Message.toD r)) [] := by
  refine ok Try.f17 (by kernel_rfl) (by kernel_rfl) ⟨rfl, ?_⟩
  unfold session_Notify at h
  conv => whnf
  refine ⟨_, u8_wrap _, ?_⟩
  conv => whnf
  refine ⟨rfl, ?_⟩
  conv => whnf
  cases h
  exact ⟨rfl, rfl⟩

theorem ref32_Notify_ok {a0 : Int} {r : Message} (h : ref32_Notify a0 = some r) : CallsOK Try.prog 18 [AV.d (D.i a0)] [] (.d (Message.toD r)) [] := by
  refine ok Try.f18 (by kernel_rfl) (by kernel_rfl) ⟨rfl, ?_⟩
  unfold ref32_Notify at h
  conv => whnf
  refine ⟨_, u8_wrap _, ?_⟩
  conv => whnf
  refine ⟨rfl, ?_⟩
  conv => whnf
  cases h
  exact ⟨rfl, rfl⟩

theorem law32_awake_ok  {r : Bool} (h : law32_awake = some r) : CallsOK Try.prog 19 [] [] (.d (D.b r)) [] := by
  refine ok Try.f19 (by kernel_rfl) (by kernel_rfl) ⟨rfl, ?_⟩
  unfold law32_awake at h
  conv => whnf
  replace h := bind_inv h; obtain ⟨⟨v1, v2⟩, g3, h⟩ := h
  refine ⟨_, _, session_Encode_ok g3, .inl rfl, ?_⟩
  conv => whnf
  revert h; refine cut_join (fun v6 => ⟨AV.d (D.b v6) :: dd 20 ([]), nn 21 ([])⟩) ?_ ?_
  · intro k7 h
    conv => whnf
    revert h; refine sel_if ?_ ?_ <;> intro h
    · conv => whnf
      refine ⟨v1, rfl, ?_⟩
      conv => whnf
      revert h; refine sel_if ?_ ?_ <;> intro h
      · conv => whnf
        replace h := bind_inv h; obtain ⟨v8, g9, h⟩ := h
        refine ⟨_, _, session_Notify_ok g9, .inl rfl, ?_⟩
        conv => whnf
        refine ⟨v8.Body.length, List.length_map _, ?_⟩
        conv => whnf
        exact join_end (v := ((v8.Body.length : Int) == 2)) ⟨rfl, And.intro (.refl _) True.intro, True.intro, rfl⟩ h
      · conv => whnf
        exact join_end (v := false) ⟨rfl, And.intro (.refl _) True.intro, True.intro, rfl⟩ h
    · conv => whnf
      exact join_end (v := false) ⟨rfl, And.intro (.refl _) True.intro, True.intro, rfl⟩ h
  · rintro v6 h
    conv => whnf
    cases h
    exact ⟨rfl, rfl⟩

theorem law32_SessionOpens_ok {a0 : Open} {a1 : List Int} {a2 : Int} {r : Bool} (h : law32_SessionOpens a0 a1 a2 = some r) : CallsOK Try.prog 3 [AV.d (Open.toD a0), AV.d (D.l 1 D.i a1), AV.d (D.i a2)] [] (.d (D.b r)) [] := by
  refine ok Try.f3 (by kernel_rfl) (by kernel_rfl) ⟨rfl, ?_⟩
  unfold law32_SessionOpens at h
  conv => whnf
  replace h := bind_inv h; obtain ⟨v1, g2, h⟩ := h
  refine ⟨_, _, mill_New_ok g2, .inr rfl, ?_⟩
  conv => whnf
  refine dOB (by kernel_rfl) ?_
  conv => whnf
  replace h := bind_inv h; obtain ⟨⟨v3, v4⟩, g5, h⟩ := h
  refine ⟨_, _, mill_Deck_ASN_ok g5, .inl rfl, ?_⟩
  conv => whnf
  replace h := bind_inv h; obtain ⟨⟨v6, v7⟩, g8, h⟩ := h
  refine ⟨_, _, mill_Deck_Open_ok g8, .inl rfl, ?_⟩
  conv => whnf
  replace h := bind_inv h; obtain ⟨⟨v9, v10⟩, g11, h⟩ := h
  refine ⟨_, _, mill_Deck_Open_ok g11, .inl rfl, ?_⟩
  conv => whnf
  replace h := bind_inv h; obtain ⟨⟨v12, v13⟩, g14, h⟩ := h
  refine ⟨_, _, mill_Deck_Open_ok g14, .inl rfl, ?_⟩
  conv => whnf
  refine ⟨([a0, v6, v9, v12] : List Open).length, by first | exact List.length_map _ | rfl | (simp only [List.length_map]; omega), ?_⟩
  conv => whnf
  refine cOB (by kernel_rfl) ?_
  conv => whnf
  revert h; refine cut_join (fun _ => ⟨X :: X :: AV.d (D.i a2) :: dd 66 ([]), nn 69 ([])⟩) ?_ ?_
  · intro k86 h
    conv => whnf
    revert h; refine loop_own 25 23 6 false Open.toD rfl (fun i121 _ => ⟨X :: X :: AV.d (D.i a2) :: dd 22 (AV.own 25 (List.map Open.toD ([a0, v6, v9, v12] : List Open)).length :: AV.d (D.i (([a0, v6, v9, v12] : List Open).length : Int)) :: AV.d (D.i (i121 : Int)) :: dd 41 ([])), nn 25 (some (OB.row 23 6 (List.map Open.toD ([a0, v6, v9, v12] : List Open)) false) :: nn 43 ([]))⟩) ⟨rfl, And.intro (.refl _) (And.intro (.refl _) (And.intro (.refl _) (And.intro (.refl _) True.intro))), And.intro (.inl ⟨_, rfl, id⟩) (True.intro), rfl⟩ ?_ ?_
    · rintro _ K123 h
      conv => whnf
      refine .go ?_
      conv => whnf
      exact join_end (v := ()) ⟨rfl, And.intro (.refl _) True.intro, True.intro, rfl⟩ h
    · rintro next125 i121 x122 _ K123 hii121 hxi121 hwi121 h hK124
      conv => whnf
      refine .go ?_
      conv => whnf
      refine sel_t (lt_t hii121) ?_
      conv => whnf
      refine .go ?_
      conv => whnf
      refine ⟨rfl, idx_b (f := Open.toD) hii121, ?_⟩
      conv => whnf
      refine ⟨rfl, Open.toD x122, hxi121, ?_⟩
      conv => whnf
      replace h := bind_inv h; obtain ⟨⟨v142, v143⟩, g144, h⟩ := h
      refine ⟨_, _, session_Encode_ok g144, .inl rfl, ?_⟩
      conv => whnf
      replace h := bind_inv h; obtain ⟨⟨v145, v146⟩, g147, h⟩ := h
      refine ⟨_, _, ref32_Encode_ok g147, .inl rfl, ?_⟩
      conv => whnf
      revert h; refine cut_join (fun v152 => ⟨X :: X :: AV.d (D.i a2) :: dd 22 (AV.own 25 (List.map Open.toD ([a0, v6, v9, v12] : List Open)).length :: AV.d (D.i (([a0, v6, v9, v12] : List Open).length : Int)) :: AV.d (D.i (i121 : Int)) :: dd 29 (AV.d (D.b v152) :: dd 11 ([]))), nn 25 (some (OB.row 23 6 (List.map Open.toD ([a0, v6, v9, v12] : List Open)) false) :: nn 43 ([]))⟩) ?_ ?_
      · intro k153 h
        conv => whnf
        refine dOB (by kernel_rfl) ?_
        conv => whnf
        replace h := bind_inv h; obtain ⟨v154, g155, h⟩ := h
        refine ⟨_, _, session_Valid_ok g155, .inl rfl, ?_⟩
        conv => whnf
        replace h := bind_inv h; obtain ⟨v156, g157, h⟩ := h
        refine ⟨_, _, ref32_Valid_ok g157, .inl rfl, ?_⟩
        conv => whnf
        revert h; refine sel_if ?_ ?_ <;> intro h
        · conv => whnf
          refine cOB (by kernel_rfl) ?_
          conv => whnf
          exact join_end (v := true) ⟨rfl, And.intro (.refl _) (And.intro (.refl _) (And.intro (.refl _) (And.intro (.refl _) (And.intro (.refl _) True.intro)))), And.intro (.inl ⟨_, rfl, id⟩) (True.intro), rfl⟩ h
        · conv => whnf
          revert h; refine sel_if ?_ ?_ <;> intro h
          · conv => whnf
            refine cOB (by kernel_rfl) ?_
            conv => whnf
            exact join_end (v := true) ⟨rfl, And.intro (.refl _) (And.intro (.refl _) (And.intro (.refl _) (And.intro (.refl _) (And.intro (.refl _) True.intro)))), And.intro (.inl ⟨_, rfl, id⟩) (True.intro), rfl⟩ h
          · conv => whnf
            refine ⟨v142, rfl, ?_⟩
            conv => whnf
            refine ⟨v145, rfl, ?_⟩
            conv => whnf
            refine cOB (by kernel_rfl) ?_
            conv => whnf
            exact join_end (v := (!((bs v142).toList == (bs v145).toList))) ⟨rfl, And.intro (.refl _) (And.intro (.refl _) (And.intro (.refl _) (And.intro (.refl _) (And.intro (.refl _) True.intro)))), And.intro (.inl ⟨_, rfl, id⟩) (True.intro), rfl⟩ h
      · rintro v152 h
        conv => whnf
        refine .go ?_
        conv => whnf
        revert h; refine sel_if ?_ ?_ <;> intro h
        · conv => whnf
          cases h
          exact ⟨rfl, rfl⟩
        · conv => whnf
          refine ⟨_, hwi121, ?_⟩
          conv => whnf
          exact hK124 _ () ⟨rfl, And.intro (.refl _) (And.intro (.refl _) (And.intro (.refl _) (And.intro (.refl _) True.intro))), And.intro (.inl ⟨_, rfl, id⟩) (True.intro), rfl⟩ h
  · rintro _ h
    conv => whnf
    revert h; refine cut_join (fun v166 => ⟨dd 6 (AV.d (D.b v166) :: dd 62 ([])), nn 69 ([])⟩) ?_ ?_
    · intro k167 h
      conv => whnf
      replace h := bind_inv h; obtain ⟨v168, g169, h⟩ := h
      refine ⟨_, _, session_Notify_ok g169, .inl rfl, ?_⟩
      conv => whnf
      replace h := bind_inv h; obtain ⟨v170, g171, h⟩ := h
      refine ⟨_, _, ref32_Notify_ok g171, .inl rfl, ?_⟩
      conv => whnf
      refine ⟨rfl, ?_⟩
      conv => whnf
      refine ⟨rfl, ?_⟩
      conv => whnf
      replace h := bind_inv h; obtain ⟨v172, g173, h⟩ := h
      refine ⟨_, _, ref32_SameMessages_ok g173, .inl rfl, ?_⟩
      conv => whnf
      revert h; refine sel_if ?_ ?_ <;> intro h
      · conv => whnf
        replace h := bind_inv h; obtain ⟨v174, g175, h⟩ := h
        refine ⟨_, _, law32_awake_ok g175, .inl rfl, ?_⟩
        conv => whnf
        exact join_end (v := v174) ⟨rfl, And.intro (.refl _) True.intro, True.intro, rfl⟩ h
      · conv => whnf
        exact join_end (v := false) ⟨rfl, And.intro (.refl _) True.intro, True.intro, rfl⟩ h
    · rintro v166 h
      conv => whnf
      cases h
      exact ⟨rfl, rfl⟩

theorem session_reader_part_ok {a0 : session_reader} {a1 : Int} {r : (List UInt8) × session_reader} (h : session_reader_part a0 a1 = some r) : CallsOK Try.prog 39 [.ref 0 0, AV.d (D.i a1)] [.box (session_reader.av a0)] (.d (D.l 1 D.u8 r.1)) [.box (session_reader.av r.2)] := by
  refine ok Try.f39 (by kernel_rfl) (by kernel_rfl) ⟨rfl, ?_⟩
  unfold session_reader_part at h
  conv => whnf
  revert h; refine cut_join (fun v1 => ⟨AV.ref 0 0 :: AV.d (D.i a1) :: dd 16 (AV.d (D.b v1) :: dd 19 ([])), some (OB.box [AV.d (D.l 1 D.u8 a0.b), AV.d (D.b a0.bad)]) :: nn 38 ([])⟩) ?_ ?_
  · intro k2 h
    conv => whnf
    revert h; refine sel_if ?_ ?_ <;> intro h
    · conv => whnf
      exact join_end (v := true) ⟨rfl, And.intro (.refl _) (And.intro (.refl _) (And.intro (.refl _) True.intro)), And.intro ⟨_, rfl, And.intro ⟨rfl, .refl _⟩ (And.intro ⟨rfl, .refl _⟩ (True.intro))⟩ (True.intro), rfl⟩ h
    · conv => whnf
      refine ⟨a0.b.length, List.length_map _, ?_⟩
      conv => whnf
      exact join_end (v := (decide (a1 > (a0.b.length : Int)))) ⟨rfl, And.intro (.refl _) (And.intro (.refl _) (And.intro (.refl _) True.intro)), And.intro ⟨_, rfl, And.intro ⟨rfl, .refl _⟩ (And.intro ⟨rfl, .refl _⟩ (True.intro))⟩ (True.intro), rfl⟩ h
  · rintro v1 h
    conv => whnf
    refine .go ?_
    conv => whnf
    revert h; refine sel_if ?_ ?_ <;> intro h
    · conv => whnf
      refine ⟨rfl, ?_⟩
      conv => whnf
      cases h
      exact ⟨rfl, rfl⟩
    · conv => whnf
      replace h := bind_inv h; obtain ⟨v3, g4, h⟩ := h
      refine ⟨part_b (f := D.u8) g4, _, part_z (f := D.u8) g4, ?_⟩
      conv => whnf
      replace h := bind_inv h; obtain ⟨v5, g6, h⟩ := h
      refine ⟨part_b0 (f := D.u8) g6, _, part_z0 (f := D.u8) g6, ?_⟩
      conv => whnf
      cases h
      exact ⟨rfl, rfl⟩

theorem session_reader_number_ok {a0 : session_reader} {a1 : Int} {r : Int × session_reader} (h : session_reader_number a0 a1 = some r) : CallsOK Try.prog 37 [.ref 0 0, AV.d (D.i a1)] [.box (session_reader.av a0)] (.d (D.i r.1)) [.box (session_reader.av r.2)] := by
  refine ok Try.f37 (by kernel_rfl) (by kernel_rfl) ⟨rfl, ?_⟩
  unfold session_reader_number at h
  conv => whnf
  replace h := bind_inv h; obtain ⟨⟨v1, v2⟩, g3, h⟩ := h
  refine ⟨_, _, session_reader_part_ok g3, .inl rfl, ?_⟩
  conv => whnf
  refine ⟨v1.length, List.length_map _, ?_⟩
  conv => whnf
  revert h; refine cut_join (fun v15 => ⟨dd 5 (AV.d (D.i v15) :: dd 17 ([])), some (OB.box [AV.d (D.l 1 D.u8 v2.b), AV.d (D.b v2.bad)]) :: nn 23 ([])⟩) ?_ ?_
  · intro k16 h
    conv => whnf
    revert h; refine loop_for 10 1 D.u8 rfl (fun i23 v22 => ⟨dd 5 (AV.d (D.i v22) :: dd 4 (AV.d (D.l 1 D.u8 v1) :: AV.d (D.i (v1.length : Int)) :: AV.d (D.i (i23 : Int)) :: dd 10 ([]))), some (OB.box [AV.d (D.l 1 D.u8 v2.b), AV.d (D.b v2.bad)]) :: nn 23 ([])⟩) ⟨rfl, And.intro (.refl _) (And.intro (.refl _) (And.intro (.refl _) (And.intro (.refl _) True.intro))), And.intro ⟨_, rfl, And.intro ⟨rfl, .refl _⟩ (And.intro ⟨rfl, .refl _⟩ (True.intro))⟩ (True.intro), rfl⟩ ?_ ?_
    · rintro v22 K25 h
      conv => whnf
      refine .go ?_
      conv => whnf
      refine sel_f lt_f ?_
      conv => whnf
      exact join_end (v := v22) ⟨rfl, And.intro (.refl _) True.intro, And.intro ⟨_, rfl, And.intro ⟨rfl, .refl _⟩ (And.intro ⟨rfl, .refl _⟩ (True.intro))⟩ (True.intro), rfl⟩ h
    · rintro next27 i23 x24 v22 K25 hii23 hxi23 hwi23 h hK26
      conv => whnf
      refine .go ?_
      conv => whnf
      refine sel_t (lt_t hii23) ?_
      conv => whnf
      refine .go ?_
      conv => whnf
      refine ⟨idx_b (f := D.u8) hii23, D.u8 x24, hxi23, rfl, ?_⟩
      conv => whnf
      refine ⟨by decide, _, rfl, ?_⟩
      conv => whnf
      refine ⟨_, i64_of_u8 x24, ?_⟩
      conv => whnf
      refine ⟨_, rfl, ?_⟩
      conv => whnf
      refine ⟨_, hwi23, ?_⟩
      conv => whnf
      exact hK26 _ (i64w ((BitVec.ofInt 64 (i64w (v22 * (2 ^ (min (Int.toNat 8) 64)))) ||| BitVec.ofInt 64 (x24.toNat : Int)).toNat : Int)) ⟨rfl, And.intro (.refl _) (And.intro (.refl _) (And.intro (.refl _) (And.intro (.refl _) True.intro))), And.intro ⟨_, rfl, And.intro ⟨rfl, .refl _⟩ (And.intro ⟨rfl, .refl _⟩ (True.intro))⟩ (True.intro), rfl⟩ h
  · rintro v15 h
    conv => whnf
    cases h
    exact ⟨rfl, rfl⟩

theorem session_reader_more_ok {a0 : session_reader} {r : Bool × session_reader} (h : session_reader_more a0 = some r) : CallsOK Try.prog 38 [.ref 0 0] [.box (session_reader.av a0)] (.d (D.b r.1)) [.box (session_reader.av r.2)] := by
  refine ok Try.f38 (by kernel_rfl) (by kernel_rfl) ⟨rfl, ?_⟩
  unfold session_reader_more at h
  conv => whnf
  revert h; refine cut_join (fun v1 => ⟨X :: X :: AV.d (D.b v1) :: dd 13 ([]), some (OB.box [AV.d (D.l 1 D.u8 a0.b), AV.d (D.b a0.bad)]) :: nn 16 ([])⟩) ?_ ?_
  · intro k2 h
    conv => whnf
    revert h; refine sel_if ?_ ?_ <;> intro h
    · conv => whnf
      refine ⟨a0.b.length, List.length_map _, ?_⟩
      conv => whnf
      exact join_end (v := (decide ((a0.b.length : Int) > 0))) ⟨rfl, And.intro (.refl _) True.intro, And.intro ⟨_, rfl, And.intro ⟨rfl, .refl _⟩ (And.intro ⟨rfl, .refl _⟩ (True.intro))⟩ (True.intro), rfl⟩ h
    · conv => whnf
      exact join_end (v := false) ⟨rfl, And.intro (.refl _) True.intro, And.intro ⟨_, rfl, And.intro ⟨rfl, .refl _⟩ (And.intro ⟨rfl, .refl _⟩ (True.intro))⟩ (True.intro), rfl⟩ h
  · rintro v1 h
    conv => whnf
    cases h
    exact ⟨rfl, rfl⟩

theorem session_lengths_ok {a0 : Int} {r : Int} (h : session_lengths a0 = some r) : CallsOK Try.prog 49 [AV.d (D.i a0)] [] (.d (D.i r)) [] := by
  refine ok Try.f49 (by kernel_rfl) (by kernel_rfl) ⟨rfl, ?_⟩
  unfold session_lengths at h
  conv => whnf
  refine .go ?_
  conv => whnf
  refine .go ?_
  conv => whnf
  revert h; refine sel_if ?_ ?_ <;> intro h
  · conv => whnf
    cases h
    exact ⟨rfl, rfl⟩
  · conv => whnf
    refine .go ?_
    conv => whnf
    revert h; refine sel_if ?_ ?_ <;> intro h
    · conv => whnf
      cases h
      exact ⟨rfl, rfl⟩
    · conv => whnf
      refine .go ?_
      conv => whnf
      revert h; refine sel_if ?_ ?_ <;> intro h
      · conv => whnf
        cases h
        exact ⟨rfl, rfl⟩
      · conv => whnf
        cases h
        exact ⟨rfl, rfl⟩

theorem session_reader_capabilities_ok {a0 : session_reader} {a1 : List (Int × Int)} {r : session_reader × (List (Int × Int))} (h : session_reader_capabilities a0 a1 = some r) : CallsOK Try.prog 40 [.ref 0 0, AV.mp 1] [.box (session_reader.av a0), .map 3 3 (entsD D.i D.i a1)] (.tup []) [.box (session_reader.av r.1), .map 3 3 (entsD D.i D.i r.2)] := by
  refine ok Try.f40 (by kernel_rfl) (by kernel_rfl) ⟨rfl, ?_⟩
  unfold session_reader_capabilities at h
  conv => whnf
  revert h; refine cut_join (fun (v158, v159) => ⟨dd 53 ([]), some (OB.box [AV.d (D.l 1 D.u8 v158.b), AV.d (D.b v158.bad)]) :: some (OB.map 3 3 (entsD D.i D.i v159)) :: nn 53 ([])⟩) ?_ ?_
  · intro k160 h
    conv => whnf
    revert h; refine loop_while (fun (v263, v264) => ⟨AV.ref 0 0 :: AV.mp 1 :: dd 51 ([]), some (OB.box [AV.d (D.l 1 D.u8 v263.b), AV.d (D.b v263.bad)]) :: some (OB.map 3 3 (entsD D.i D.i v264)) :: nn 53 ([])⟩) ⟨rfl, And.intro (.refl _) (And.intro (.refl _) True.intro), And.intro ⟨_, rfl, And.intro ⟨rfl, .refl _⟩ (And.intro ⟨rfl, .refl _⟩ (True.intro))⟩ (And.intro rfl (True.intro)), rfl⟩ ?_
    rintro next267 ⟨v263, v264⟩ K265 h hK266
    conv => whnf
    replace h := bind_inv h; obtain ⟨⟨v268, v269⟩, g270, h⟩ := h
    refine ⟨_, _, session_reader_more_ok g270, .inl rfl, ?_⟩
    conv => whnf
    refine .go ?_
    conv => whnf
    revert h; refine sel_if ?_ ?_ <;> intro h
    · conv => whnf
      revert h; refine cut_join (fun (v293, v294) => ⟨AV.ref 0 0 :: AV.mp 1 :: dd 51 ([]), some (OB.box [AV.d (D.l 1 D.u8 v293.b), AV.d (D.b v293.bad)]) :: some (OB.map 3 3 (entsD D.i D.i v294)) :: nn 53 ([])⟩) ?_ ?_
      · intro k295 h
        conv => whnf
        replace h := bind_inv h; obtain ⟨⟨v296, v297⟩, g298, h⟩ := h
        refine ⟨_, _, session_reader_number_ok g298, .inl rfl, ?_⟩
        conv => whnf
        replace h := bind_inv h; obtain ⟨⟨v299, v300⟩, g301, h⟩ := h
        refine ⟨_, _, session_reader_number_ok g301, .inl rfl, ?_⟩
        conv => whnf
        replace h := bind_inv h; obtain ⟨⟨v302, v303⟩, g304, h⟩ := h
        refine ⟨_, _, session_reader_part_ok g304, .inl rfl, ?_⟩
        conv => whnf
        replace h := bind_inv h; obtain ⟨v305, g306, h⟩ := h
        refine ⟨_, _, session_lengths_ok g306, .inl rfl, ?_⟩
        conv => whnf
        revert h; refine cut_join (fun v307 => ⟨AV.ref 0 0 :: AV.mp 1 :: X :: X :: AV.d (D.i v296) :: AV.ref 20 0 :: AV.d (D.i v305) :: dd 21 (AV.d (D.b v307) :: dd 24 ([])), some (OB.box [AV.d (D.l 1 D.u8 v303.b), AV.d (D.b v303.bad)]) :: some (OB.map 3 3 (entsD D.i D.i v264)) :: nn 18 (some (OB.box [AV.d (D.l 1 D.u8 v302), AV.d (D.b false)]) :: nn 34 ([]))⟩) ?_ ?_
        · intro k308 h
          conv => whnf
          revert h; refine sel_if ?_ ?_ <;> intro h
          · conv => whnf
            exact join_end (v := true) ⟨rfl, And.intro (.refl _) (And.intro (.refl _) (And.intro (.refl _) (And.intro (.refl _) (And.intro (.refl _) (And.intro (.refl _) True.intro))))), And.intro ⟨_, rfl, And.intro ⟨rfl, .refl _⟩ (And.intro ⟨rfl, .refl _⟩ (True.intro))⟩ (And.intro rfl (And.intro ⟨_, rfl, And.intro ⟨rfl, .refl _⟩ (And.intro ⟨rfl, .refl _⟩ (True.intro))⟩ (True.intro))), rfl⟩ h
          · conv => whnf
            exact join_end (v := (decide (v305 < 0))) ⟨rfl, And.intro (.refl _) (And.intro (.refl _) (And.intro (.refl _) (And.intro (.refl _) (And.intro (.refl _) (And.intro (.refl _) True.intro))))), And.intro ⟨_, rfl, And.intro ⟨rfl, .refl _⟩ (And.intro ⟨rfl, .refl _⟩ (True.intro))⟩ (And.intro rfl (And.intro ⟨_, rfl, And.intro ⟨rfl, .refl _⟩ (And.intro ⟨rfl, .refl _⟩ (True.intro))⟩ (True.intro))), rfl⟩ h
        · rintro v307 h
          conv => whnf
          refine .go ?_
          conv => whnf
          revert h; refine sel_if ?_ ?_ <;> intro h
          · conv => whnf
            exact join_end (v := (v303, v264)) ⟨rfl, And.intro (.refl _) (And.intro (.refl _) True.intro), And.intro ⟨_, rfl, And.intro ⟨rfl, .refl _⟩ (And.intro ⟨rfl, .refl _⟩ (True.intro))⟩ (And.intro rfl (True.intro)), rfl⟩ h
          · conv => whnf
            replace h := bind_inv h; obtain ⟨v309, g310, h⟩ := h
            replace h := bind_inv h; obtain ⟨v311, g312, h⟩ := h
            refine ⟨_, mapGet_ok (ek := D.i) (ev := D.i) (l := v264) (k := v296) keyEq_i, D.i v309, mget_dg (z := 0) rfl g310, v311, mget_sg g312, ?_⟩
            conv => whnf
            revert h; refine cut_join (fun v313 => ⟨AV.ref 0 0 :: AV.mp 1 :: X :: X :: AV.d (D.i v296) :: AV.ref 20 0 :: AV.d (D.i v305) :: dd 37 (AV.d (D.b v313) :: dd 8 ([])), some (OB.box [AV.d (D.l 1 D.u8 v303.b), AV.d (D.b v303.bad)]) :: some (OB.map 3 3 (entsD D.i D.i v264)) :: nn 18 (some (OB.box [AV.d (D.l 1 D.u8 v302), AV.d (D.b false)]) :: nn 34 ([]))⟩) ?_ ?_
            · intro k314 h
              conv => whnf
              revert h; refine sel_if ?_ ?_ <;> intro h
              · conv => whnf
                exact join_end (v := true) ⟨rfl, And.intro (.refl _) (And.intro (.refl _) (And.intro (.refl _) (And.intro (.refl _) (And.intro (.refl _) (And.intro (.refl _) True.intro))))), And.intro ⟨_, rfl, And.intro ⟨rfl, .refl _⟩ (And.intro ⟨rfl, .refl _⟩ (True.intro))⟩ (And.intro rfl (And.intro ⟨_, rfl, And.intro ⟨rfl, .refl _⟩ (And.intro ⟨rfl, .refl _⟩ (True.intro))⟩ (True.intro))), rfl⟩ h
              · conv => whnf
                refine ⟨v302.length, List.length_map _, ?_⟩
                conv => whnf
                exact join_end (v := ((v302.length : Int) != v305)) ⟨rfl, And.intro (.refl _) (And.intro (.refl _) (And.intro (.refl _) (And.intro (.refl _) (And.intro (.refl _) (And.intro (.refl _) True.intro))))), And.intro ⟨_, rfl, And.intro ⟨rfl, .refl _⟩ (And.intro ⟨rfl, .refl _⟩ (True.intro))⟩ (And.intro rfl (And.intro ⟨_, rfl, And.intro ⟨rfl, .refl _⟩ (And.intro ⟨rfl, .refl _⟩ (True.intro))⟩ (True.intro))), rfl⟩ h
            · rintro v313 h
              conv => whnf
              refine .go ?_
              conv => whnf
              revert h; refine sel_if ?_ ?_ <;> intro h
              · conv => whnf
                cases h
                exact ⟨rfl, rfl⟩
              · conv => whnf
                replace h := bind_inv h; obtain ⟨⟨v315, v316⟩, g317, h⟩ := h
                refine ⟨_, _, session_reader_number_ok g317, .inl rfl, ?_⟩
                conv => whnf
                refine ⟨_, mapSet_ok (ek := D.i) (ev := D.i) (l := v264) (k := v296) (v := v315) keyEq_i, ?_⟩
                conv => whnf
                exact join_end (v := (v303, (mset v264 v296 v315))) ⟨rfl, And.intro (.refl _) (And.intro (.refl _) True.intro), And.intro ⟨_, rfl, And.intro ⟨rfl, .refl _⟩ (And.intro ⟨rfl, .refl _⟩ (True.intro))⟩ (And.intro rfl (True.intro)), rfl⟩ h
      · rintro ⟨v293, v294⟩ h
        conv => whnf
        exact hK266 _ (v293, v294) ⟨rfl, And.intro (.refl _) (And.intro (.refl _) True.intro), And.intro ⟨_, rfl, And.intro ⟨rfl, .refl _⟩ (And.intro ⟨rfl, .refl _⟩ (True.intro))⟩ (And.intro rfl (True.intro)), rfl⟩ h
    · conv => whnf
      exact join_end (v := (v269, v264)) ⟨rfl, True.intro, And.intro ⟨_, rfl, And.intro ⟨rfl, .refl _⟩ (And.intro ⟨rfl, .refl _⟩ (True.intro))⟩ (And.intro rfl (True.intro)), rfl⟩ h
  · rintro ⟨v158, v159⟩ h
    conv => whnf
    cases h
    exact ⟨rfl, rfl⟩
end Go.AX.Q32
