/-
  The functions do what their plain forms say (proofs written by a program of mine), part 6.
-/
import Derived.Test.YtoankoojoeaooaaQ23P5
namespace Go.AX.Q23
open Go Go.AX Go.Proofs
set_option maxRecDepth 100000
set_option maxHeartbeats 4000000
set_option linter.unusedVariables false
theorem law23_hops_ok {a0 : Deck} {r : (List Hop) × Deck} (h : law23_hops a0 = some r) : CallsOK Try.prog 22 [.ref 0 0] [.box (Deck.av a0)] (.d (D.l 3 Hop.toD r.1)) [.box (Deck.av r.2)] := by
  refine ok Try.f22 (by kernel_rfl) (by kernel_rfl) ⟨rfl, ?_⟩
  unfold law23_hops at h
  conv => whnf
  replace h := bind_inv h; obtain ⟨⟨v1, v2⟩, g3, h⟩ := h
  refine ⟨_, _, mill_Deck_Next_ok g3, .inl rfl, ?_⟩
  conv => whnf
  refine ⟨_, rfl, ?_⟩
  conv => whnf
  replace h := bind_inv h; obtain ⟨⟨v4, v5⟩, g6, h⟩ := h
  refine ⟨_, _, mill_Deck_Next_ok g6, .inl rfl, ?_⟩
  conv => whnf
  revert h; refine cut_join (fun (v452, v453) => ⟨X :: X :: X :: AV.own 4 (List.map Hop.toD v453).length :: dd 55 ([]), some (OB.box [AV.d (D.l 1 D.i v452.L), AV.d (D.i v452.At)]) :: N :: N :: N :: some (OB.row 57 3 (List.map Hop.toD v453) false) :: nn 55 ([])⟩) ?_ ?_
  · intro k454 h
    conv => whnf
    revert h; refine loop_while (fun (v748, v749, v750, v751, v752) => ⟨AV.ref 0 0 :: X :: X :: AV.own 4 (List.map Hop.toD v752).length :: AV.d (D.i v748) :: AV.d (D.i v749) :: AV.d (D.i v750) :: dd 52 ([]), some (OB.box [AV.d (D.l 1 D.i v751.L), AV.d (D.i v751.At)]) :: N :: N :: N :: some (OB.row 57 3 (List.map Hop.toD v752) false) :: nn 55 ([])⟩) ⟨rfl, And.intro (.refl _) (And.intro (.refl _) (And.intro (.refl _) (And.intro (.refl _) (And.intro (.refl _) True.intro)))), And.intro ⟨_, rfl, And.intro ⟨rfl, .refl _⟩ (And.intro ⟨rfl, .refl _⟩ (True.intro))⟩ (And.intro (.inl ⟨_, rfl, id⟩) (True.intro)), rfl⟩ ?_
    rintro next755 ⟨v748, v749, v750, v751, v752⟩ K753 h hK754
    conv => whnf
    refine .go ?_
    conv => whnf
    revert h; refine sel_if ?_ ?_ <;> intro h
    · conv => whnf
      refine .go ?_
      conv => whnf
      replace h := bind_inv h; obtain ⟨⟨v828, v829⟩, g830, h⟩ := h
      refine ⟨_, _, mill_Deck_Next_ok g830, .inl rfl, ?_⟩
      conv => whnf
      refine ⟨_, rfl, ?_⟩
      conv => whnf
      replace h := bind_inv h; obtain ⟨⟨v831, v832⟩, g833, h⟩ := h
      refine ⟨_, _, mill_Deck_Next_ok g833, .inl rfl, ?_⟩
      conv => whnf
      refine ⟨_, rfl, ?_⟩
      conv => whnf
      refine ⟨_, rfl, ?_⟩
      conv => whnf
      refine dOB (by kernel_rfl) ?_
      conv => whnf
      refine ⟨rfl, ?_⟩
      conv => whnf
      refine ⟨rfl, ?_⟩
      conv => whnf
      refine ⟨rfl, ?_⟩
      conv => whnf
      replace h := bind_inv h; obtain ⟨v834, g835, h⟩ := h
      refine ⟨rfl, geti_b (f := (D.l 1 D.i)) g835, ?_⟩
      conv => whnf
      refine ⟨rfl, (D.l 1 D.i) v834, (geti_d (f := (D.l 1 D.i)) g835), ?_⟩
      conv => whnf
      replace h := bind_inv h; obtain ⟨⟨v836, v837⟩, g838, h⟩ := h
      refine ⟨_, _, mill_Deck_Next_ok g838, .inl rfl, ?_⟩
      conv => whnf
      replace h := bind_inv h; obtain ⟨v839, g840, h⟩ := h
      refine ⟨geti_b (f := D.i) g840, D.i v839, geti_d (f := D.i) g840, rfl, ?_⟩
      conv => whnf
      refine cOB (by kernel_rfl) ?_
      conv => whnf
      replace h := bind_inv h; obtain ⟨⟨v841, v842⟩, g843, h⟩ := h
      refine ⟨_, _, mill_Deck_Next_ok g843, .inl rfl, ?_⟩
      conv => whnf
      refine .go ?_
      conv => whnf
      revert h; refine cut_join (fun (v883, v884) => ⟨AV.ref 0 0 :: X :: X :: AV.own 4 (List.map Hop.toD v752).length :: X :: AV.d (D.i (if (i64w (v831 - 2)) > v749 then (i64w (v831 - 2)) else v749)) :: AV.d (D.i v750) :: AV.ref 8 0 :: dd 51 ([]), some (OB.box [AV.d (D.l 1 D.i v883.L), AV.d (D.i v883.At)]) :: N :: N :: N :: some (OB.row 57 3 (List.map Hop.toD v752) false) :: N :: N :: N :: some (OB.box [AV.d (D.i v884.From), AV.d (D.i v884.To), AV.d (D.i v884.Role)]) :: nn 51 ([])⟩) ?_ ?_
      · intro k885 h
        conv => whnf
        revert h; refine sel_if ?_ ?_ <;> intro h
        · conv => whnf
          replace h := bind_inv h; obtain ⟨⟨v886, v887⟩, g888, h⟩ := h
          refine ⟨_, _, mill_Deck_Next_ok g888, .inl rfl, ?_⟩
          conv => whnf
          refine ⟨_, rfl, ?_⟩
          conv => whnf
          exact join_end (v := (v887, (⟨v748, (i64w (1 + v828)), (i64w (v886 - 1))⟩ : Hop))) ⟨rfl, And.intro (.refl _) (And.intro (.refl _) (And.intro (.refl _) (And.intro (.refl _) (And.intro (.refl _) True.intro)))), And.intro ⟨_, rfl, And.intro ⟨rfl, .refl _⟩ (And.intro ⟨rfl, .refl _⟩ (True.intro))⟩ (And.intro (.inl ⟨_, rfl, id⟩) (And.intro ⟨_, rfl, And.intro ⟨rfl, .refl _⟩ (And.intro ⟨rfl, .refl _⟩ (And.intro ⟨rfl, .refl _⟩ (True.intro)))⟩ (True.intro))), rfl⟩ h
        · conv => whnf
          revert h; refine cut_join (fun (v892, v893) => ⟨AV.ref 0 0 :: X :: X :: AV.own 4 (List.map Hop.toD v752).length :: X :: AV.d (D.i (if (i64w (v831 - 2)) > v749 then (i64w (v831 - 2)) else v749)) :: AV.d (D.i v750) :: AV.ref 8 0 :: dd 51 ([]), some (OB.box [AV.d (D.l 1 D.i v892.L), AV.d (D.i v892.At)]) :: N :: N :: N :: some (OB.row 57 3 (List.map Hop.toD v752) false) :: N :: N :: N :: some (OB.box [AV.d (D.i v893), AV.d (D.i (i64w (1 + v828))), AV.d (D.i v839)]) :: nn 51 ([])⟩) ?_ ?_
          · intro k894 h
            conv => whnf
            revert h; refine sel_if ?_ ?_ <;> intro h
            · conv => whnf
              replace h := bind_inv h; obtain ⟨⟨v895, v896⟩, g897, h⟩ := h
              refine ⟨_, _, mill_Deck_Next_ok g897, .inl rfl, ?_⟩
              conv => whnf
              exact join_end (v := (v896, v895)) ⟨rfl, And.intro (.refl _) (And.intro (.refl _) (And.intro (.refl _) (And.intro (.refl _) (And.intro (.refl _) True.intro)))), And.intro ⟨_, rfl, And.intro ⟨rfl, .refl _⟩ (And.intro ⟨rfl, .refl _⟩ (True.intro))⟩ (And.intro (.inl ⟨_, rfl, id⟩) (And.intro ⟨_, rfl, And.intro ⟨rfl, .refl _⟩ (And.intro ⟨rfl, .refl _⟩ (And.intro ⟨rfl, .refl _⟩ (True.intro)))⟩ (True.intro))), rfl⟩ h
            · conv => whnf
              exact join_end (v := (v842, v748)) ⟨rfl, And.intro (.refl _) (And.intro (.refl _) (And.intro (.refl _) (And.intro (.refl _) (And.intro (.refl _) True.intro)))), And.intro ⟨_, rfl, And.intro ⟨rfl, .refl _⟩ (And.intro ⟨rfl, .refl _⟩ (True.intro))⟩ (And.intro (.inl ⟨_, rfl, id⟩) (And.intro ⟨_, rfl, And.intro ⟨rfl, .refl _⟩ (And.intro ⟨rfl, .refl _⟩ (And.intro ⟨rfl, .refl _⟩ (True.intro)))⟩ (True.intro))), rfl⟩ h
          · rintro ⟨v892, v893⟩ h
            conv => whnf
            exact join_end (v := (v892, (⟨v893, (i64w (1 + v828)), v839⟩ : Hop))) ⟨rfl, And.intro (.refl _) (And.intro (.refl _) (And.intro (.refl _) (And.intro (.refl _) (And.intro (.refl _) True.intro)))), And.intro ⟨_, rfl, And.intro ⟨rfl, .refl _⟩ (And.intro ⟨rfl, .refl _⟩ (True.intro))⟩ (And.intro (.inl ⟨_, rfl, id⟩) (And.intro ⟨_, rfl, And.intro ⟨rfl, .refl _⟩ (And.intro ⟨rfl, .refl _⟩ (And.intro ⟨rfl, .refl _⟩ (True.intro)))⟩ (True.intro))), rfl⟩ h
      · rintro ⟨v883, v884⟩ h
        conv => whnf
        refine ⟨rfl, ?_⟩
        conv => whnf
        replace h := bind_inv h; obtain ⟨v898, g899, h⟩ := h
        refine ⟨rfl, apnd_b (f := Hop.toD) (g := Hop.toD) g899, _, apnd_z (f := Hop.toD) g899, ?_⟩
        conv => whnf
        refine ⟨_, rfl, ?_⟩
        conv => whnf
        exact hK754 _ (v884.To, (if (i64w (v831 - 2)) > v749 then (i64w (v831 - 2)) else v749), (i64w (v750 - 1)), v883, v898) ⟨rfl, And.intro (.refl _) (And.intro (.refl _) (And.intro (.refl _) (And.intro (.refl _) (And.intro (.refl _) True.intro)))), And.intro ⟨_, rfl, And.intro ⟨rfl, .refl _⟩ (And.intro ⟨rfl, .refl _⟩ (True.intro))⟩ (And.intro (.inl ⟨_, rfl, id⟩) (True.intro)), rfl⟩ h
    · conv => whnf
      exact join_end (v := (v751, v752)) ⟨rfl, And.intro (.refl _) True.intro, And.intro ⟨_, rfl, And.intro ⟨rfl, .refl _⟩ (And.intro ⟨rfl, .refl _⟩ (True.intro))⟩ (And.intro (.inl ⟨_, rfl, id⟩) (True.intro)), rfl⟩ h
  · rintro ⟨v452, v453⟩ h
    conv => whnf
    refine ⟨rfl, ?_⟩
    conv => whnf
    cases h
    exact ⟨rfl, rfl⟩

theorem ref23_joined_ok {a0 : List Hop} {r : Bool} (h : ref23_joined a0 = some r) : CallsOK Try.prog 39 [AV.d (D.l 3 Hop.toD a0)] [] (.d (D.b r)) [] := by
  refine ok Try.f39 (by kernel_rfl) (by kernel_rfl) ⟨rfl, ?_⟩
  unfold ref23_joined at h
  conv => whnf
  refine ⟨a0.length, List.length_map _, ?_⟩
  conv => whnf
  revert h; refine cut_join (fun _ => ⟨dd 43 ([]), nn 43 ([])⟩) ?_ ?_
  · intro k48 h
    conv => whnf
    revert h; refine loop_for 5 3 Hop.toD rfl (fun i71 _ => ⟨AV.d (D.l 3 Hop.toD a0) :: dd 4 (AV.d (D.l 3 Hop.toD a0) :: AV.d (D.i (a0.length : Int)) :: AV.d (D.i (i71 : Int)) :: dd 35 ([])), nn 43 ([])⟩) ⟨rfl, And.intro (.refl _) (And.intro (.refl _) (And.intro (.refl _) (And.intro (.refl _) True.intro))), True.intro, rfl⟩ ?_ ?_
    · rintro _ K73 h
      conv => whnf
      refine .go ?_
      conv => whnf
      refine sel_f lt_f ?_
      conv => whnf
      exact join_end (v := ()) ⟨rfl, True.intro, True.intro, rfl⟩ h
    · rintro next75 i71 x72 _ K73 hii71 hxi71 hwi71 h hK74
      conv => whnf
      refine .go ?_
      conv => whnf
      refine sel_t (lt_t hii71) ?_
      conv => whnf
      refine .go ?_
      conv => whnf
      refine ⟨idx_b (f := Hop.toD) hii71, Hop.toD x72, hxi71, rfl, ?_⟩
      conv => whnf
      revert h; refine cut_join (fun v90 => ⟨AV.d (D.l 3 Hop.toD a0) :: dd 4 (AV.d (D.l 3 Hop.toD a0) :: AV.d (D.i (a0.length : Int)) :: AV.d (D.i (i71 : Int)) :: dd 33 (AV.d (D.b v90) :: X :: [])), nn 43 ([])⟩) ?_ ?_
      · intro k91 h
        conv => whnf
        refine dOB (by kernel_rfl) ?_
        conv => whnf
        replace h := bind_inv h; obtain ⟨v92, g93, h⟩ := h
        refine ⟨_, _, ref23_bad_ok g93, .inl rfl, ?_⟩
        conv => whnf
        revert h; refine sel_if ?_ ?_ <;> intro h
        · conv => whnf
          refine cOB (by kernel_rfl) ?_
          conv => whnf
          exact join_end (v := true) ⟨rfl, And.intro (.refl _) (And.intro (.refl _) (And.intro (.refl _) (And.intro (.refl _) (And.intro (.refl _) True.intro)))), True.intro, rfl⟩ h
        · conv => whnf
          revert h; refine sel_if ?_ ?_ <;> intro h
          · conv => whnf
            refine cOB (by kernel_rfl) ?_
            conv => whnf
            exact join_end (v := true) ⟨rfl, And.intro (.refl _) (And.intro (.refl _) (And.intro (.refl _) (And.intro (.refl _) (And.intro (.refl _) True.intro)))), True.intro, rfl⟩ h
          · conv => whnf
            revert h; refine sel_if ?_ ?_ <;> intro h
            · conv => whnf
              refine cOB (by kernel_rfl) ?_
              conv => whnf
              exact join_end (v := true) ⟨rfl, And.intro (.refl _) (And.intro (.refl _) (And.intro (.refl _) (And.intro (.refl _) (And.intro (.refl _) True.intro)))), True.intro, rfl⟩ h
            · conv => whnf
              revert h; refine sel_if ?_ ?_ <;> intro h
              · conv => whnf
                refine ⟨_, rfl, ?_⟩
                conv => whnf
                replace h := bind_inv h; obtain ⟨v94, g95, h⟩ := h
                refine ⟨geti_b (f := Hop.toD) g95, Hop.toD v94, geti_d (f := Hop.toD) g95, rfl, ?_⟩
                conv => whnf
                refine cOB (by kernel_rfl) ?_
                conv => whnf
                exact join_end (v := (v94.To != x72.From)) ⟨rfl, And.intro (.refl _) (And.intro (.refl _) (And.intro (.refl _) (And.intro (.refl _) (And.intro (.refl _) True.intro)))), True.intro, rfl⟩ h
              · conv => whnf
                refine cOB (by kernel_rfl) ?_
                conv => whnf
                exact join_end (v := false) ⟨rfl, And.intro (.refl _) (And.intro (.refl _) (And.intro (.refl _) (And.intro (.refl _) (And.intro (.refl _) True.intro)))), True.intro, rfl⟩ h
      · rintro v90 h
        conv => whnf
        refine .go ?_
        conv => whnf
        revert h; refine sel_if ?_ ?_ <;> intro h
        · conv => whnf
          cases h
          exact ⟨rfl, rfl⟩
        · conv => whnf
          refine ⟨_, hwi71, ?_⟩
          conv => whnf
          exact hK74 _ () ⟨rfl, And.intro (.refl _) (And.intro (.refl _) (And.intro (.refl _) (And.intro (.refl _) True.intro))), True.intro, rfl⟩ h
  · rintro _ h
    conv => whnf
    cases h
    exact ⟨rfl, rfl⟩

theorem ref23_Travels_ok {a0 : List Hop} {r : Bool} (h : ref23_Travels a0 = some r) : CallsOK Try.prog 24 [AV.d (D.l 3 Hop.toD a0)] [] (.d (D.b r)) [] := by
  refine ok Try.f24 (by kernel_rfl) (by kernel_rfl) ⟨rfl, ?_⟩
  unfold ref23_Travels at h
  conv => whnf
  refine ⟨a0.length, List.length_map _, ?_⟩
  conv => whnf
  revert h; refine cut_join (fun _ => ⟨AV.d (D.l 3 Hop.toD a0) :: dd 39 ([]), nn 40 ([])⟩) ?_ ?_
  · intro k60 h
    conv => whnf
    revert h; refine loop_for 8 3 Hop.toD rfl (fun i99 v98 => ⟨AV.d (D.l 3 Hop.toD a0) :: X :: X :: AV.ref 3 0 :: dd 4 (AV.d (D.l 3 Hop.toD a0) :: AV.d (D.i (a0.length : Int)) :: AV.d (D.i (i99 : Int)) :: dd 29 ([])), N :: N :: N :: some (OB.box [AV.d (D.i v98.Origin), AV.d (D.l 2 Segment.toD v98.Path), AV.d (D.b v98.Next.V6), AV.d (D.u64 v98.Next.Hi), AV.d (D.u64 v98.Next.Lo), AV.d (D.i v98.MED), AV.d (D.i v98.Pref), AV.d (D.i v98.OTC), AV.d (D.l 2 Community.toD v98.Communities), AV.d (D.l 3 Large.toD v98.Large), AV.d (D.l 3 Unknown.toD v98.Other)]) :: nn 36 ([])⟩) ⟨rfl, And.intro (.refl _) (And.intro (.refl _) (And.intro (.refl _) (And.intro (.refl _) (And.intro (.refl _) True.intro)))), And.intro ⟨_, rfl, And.intro ⟨rfl, .refl _⟩ (And.intro ⟨rfl, .norm _⟩ (And.intro ⟨rfl, .refl _⟩ (And.intro ⟨rfl, .refl _⟩ (And.intro ⟨rfl, .refl _⟩ (And.intro ⟨rfl, .refl _⟩ (And.intro ⟨rfl, .refl _⟩ (And.intro ⟨rfl, .refl _⟩ (And.intro ⟨rfl, .norm _⟩ (And.intro ⟨rfl, .norm _⟩ (And.intro ⟨rfl, .norm _⟩ (True.intro)))))))))))⟩ (True.intro), rfl⟩ ?_ ?_
    · rintro v98 K101 h
      conv => whnf
      refine .go ?_
      conv => whnf
      refine sel_f lt_f ?_
      conv => whnf
      exact join_end (v := ()) ⟨rfl, And.intro (.refl _) True.intro, True.intro, rfl⟩ h
    · rintro next103 i99 x100 v98 K101 hii99 hxi99 hwi99 h hK102
      conv => whnf
      refine .go ?_
      conv => whnf
      refine sel_t (lt_t hii99) ?_
      conv => whnf
      refine .go ?_
      conv => whnf
      refine ⟨idx_b (f := Hop.toD) hii99, Hop.toD x100, hxi99, rfl, ?_⟩
      conv => whnf
      replace h := bind_inv h; obtain ⟨⟨v112, v113⟩, g114, h⟩ := h
      refine ⟨_, _, ref23_Send_ok g114, .inl rfl, ?_⟩
      conv => whnf
      refine .go ?_
      conv => whnf
      revert h; refine sel_if ?_ ?_ <;> intro h
      · conv => whnf
        cases h
        exact ⟨rfl, rfl⟩
      · conv => whnf
        refine dOB (by kernel_rfl) ?_
        conv => whnf
        replace h := bind_inv h; obtain ⟨v115, g116, h⟩ := h
        refine ⟨_, _, ref23_Inverse_ok g116, .inl rfl, ?_⟩
        conv => whnf
        replace h := bind_inv h; obtain ⟨⟨v117, v118⟩, g119, h⟩ := h
        refine ⟨_, _, ref23_Receive_ok g119, .inl rfl, ?_⟩
        conv => whnf
        refine cOB (by kernel_rfl) ?_
        conv => whnf
        refine .go ?_
        conv => whnf
        revert h; refine sel_if ?_ ?_ <;> intro h
        · conv => whnf
          cases h
          exact ⟨rfl, rfl⟩
        · conv => whnf
          refine ⟨_, hwi99, ?_⟩
          conv => whnf
          exact hK102 _ v117 ⟨rfl, And.intro (.refl _) (And.intro (.refl _) (And.intro (.refl _) (And.intro (.refl _) (And.intro (.refl _) True.intro)))), And.intro ⟨_, rfl, And.intro ⟨rfl, .refl _⟩ (And.intro ⟨rfl, .refl _⟩ (And.intro ⟨rfl, .refl _⟩ (And.intro ⟨rfl, .refl _⟩ (And.intro ⟨rfl, .refl _⟩ (And.intro ⟨rfl, .refl _⟩ (And.intro ⟨rfl, .refl _⟩ (And.intro ⟨rfl, .refl _⟩ (And.intro ⟨rfl, .refl _⟩ (And.intro ⟨rfl, .refl _⟩ (And.intro ⟨rfl, .refl _⟩ (True.intro)))))))))))⟩ (True.intro), rfl⟩ h
  · rintro _ h
    conv => whnf
    replace h := bind_inv h; obtain ⟨v120, g121, h⟩ := h
    refine ⟨_, _, ref23_joined_ok g121, .inl rfl, ?_⟩
    conv => whnf
    cases h
    exact ⟨rfl, rfl⟩

theorem ref23_Valley_ok {a0 : List Hop} {r : Bool} (h : ref23_Valley a0 = some r) : CallsOK Try.prog 26 [AV.d (D.l 3 Hop.toD a0)] [] (.d (D.b r)) [] := by
  refine ok Try.f26 (by kernel_rfl) (by kernel_rfl) ⟨rfl, ?_⟩
  unfold ref23_Valley at h
  conv => whnf
  revert h; refine cut_join (fun v36 => ⟨AV.d (D.l 3 Hop.toD a0) :: X :: X :: AV.d (D.i v36) :: dd 66 ([]), nn 70 ([])⟩) ?_ ?_
  · intro k37 h
    conv => whnf
    revert h; refine loop_while (fun v59 => ⟨AV.d (D.l 3 Hop.toD a0) :: X :: X :: AV.d (D.i v59) :: dd 66 ([]), nn 70 ([])⟩) ⟨rfl, And.intro (.refl _) (And.intro (.refl _) True.intro), True.intro, rfl⟩ ?_
    rintro next62 v59 K60 h hK61
    conv => whnf
    revert h; refine cut_join (fun v67 => ⟨AV.d (D.l 3 Hop.toD a0) :: X :: X :: AV.d (D.i v59) :: dd 19 (AV.d (D.b v67) :: dd 46 ([])), nn 70 ([])⟩) ?_ ?_
    · intro k68 h
      conv => whnf
      refine ⟨a0.length, List.length_map _, ?_⟩
      conv => whnf
      revert h; refine sel_if ?_ ?_ <;> intro h
      · conv => whnf
        replace h := bind_inv h; obtain ⟨v69, g70, h⟩ := h
        refine ⟨geti_b (f := Hop.toD) g70, Hop.toD v69, geti_d (f := Hop.toD) g70, rfl, ?_⟩
        conv => whnf
        revert h; refine sel_if ?_ ?_ <;> intro h
        · conv => whnf
          exact join_end (v := true) ⟨rfl, And.intro (.refl _) (And.intro (.refl _) (And.intro (.refl _) True.intro)), True.intro, rfl⟩ h
        · conv => whnf
          replace h := bind_inv h; obtain ⟨v71, g72, h⟩ := h
          refine ⟨geti_b (f := Hop.toD) g72, Hop.toD v71, geti_d (f := Hop.toD) g72, rfl, ?_⟩
          conv => whnf
          exact join_end (v := (v71.Role == 2)) ⟨rfl, And.intro (.refl _) (And.intro (.refl _) (And.intro (.refl _) True.intro)), True.intro, rfl⟩ h
      · conv => whnf
        exact join_end (v := false) ⟨rfl, And.intro (.refl _) (And.intro (.refl _) (And.intro (.refl _) True.intro)), True.intro, rfl⟩ h
    · rintro v67 h
      conv => whnf
      refine .go ?_
      conv => whnf
      revert h; refine sel_if ?_ ?_ <;> intro h
      · conv => whnf
        refine .go ?_
        conv => whnf
        refine ⟨_, rfl, ?_⟩
        conv => whnf
        exact hK61 _ (i64w (v59 + 1)) ⟨rfl, And.intro (.refl _) (And.intro (.refl _) True.intro), True.intro, rfl⟩ h
      · conv => whnf
        exact join_end (v := v59) ⟨rfl, And.intro (.refl _) (And.intro (.refl _) True.intro), True.intro, rfl⟩ h
  · rintro v36 h
    conv => whnf
    revert h; refine cut_join (fun v75 => ⟨AV.d (D.l 3 Hop.toD a0) :: X :: X :: AV.d (D.i v36) :: dd 33 (AV.d (D.b v75) :: dd 32 ([])), nn 70 ([])⟩) ?_ ?_
    · intro k76 h
      conv => whnf
      refine ⟨a0.length, List.length_map _, ?_⟩
      conv => whnf
      revert h; refine sel_if ?_ ?_ <;> intro h
      · conv => whnf
        replace h := bind_inv h; obtain ⟨v77, g78, h⟩ := h
        refine ⟨geti_b (f := Hop.toD) g78, Hop.toD v77, geti_d (f := Hop.toD) g78, rfl, ?_⟩
        conv => whnf
        exact join_end (v := (v77.Role == 4)) ⟨rfl, And.intro (.refl _) (And.intro (.refl _) (And.intro (.refl _) True.intro)), True.intro, rfl⟩ h
      · conv => whnf
        exact join_end (v := false) ⟨rfl, And.intro (.refl _) (And.intro (.refl _) (And.intro (.refl _) True.intro)), True.intro, rfl⟩ h
    · rintro v75 h
      conv => whnf
      revert h; refine cut_join (fun v79 => ⟨AV.d (D.l 3 Hop.toD a0) :: X :: X :: AV.d (D.i v79) :: dd 66 ([]), nn 70 ([])⟩) ?_ ?_
      · intro k80 h
        conv => whnf
        revert h; refine sel_if ?_ ?_ <;> intro h
        · conv => whnf
          refine ⟨_, rfl, ?_⟩
          conv => whnf
          exact join_end (v := (i64w (v36 + 1))) ⟨rfl, And.intro (.refl _) (And.intro (.refl _) True.intro), True.intro, rfl⟩ h
        · conv => whnf
          exact join_end (v := v36) ⟨rfl, And.intro (.refl _) (And.intro (.refl _) True.intro), True.intro, rfl⟩ h
      · rintro v79 h
        conv => whnf
        revert h; refine cut_join (fun v116 => ⟨AV.d (D.l 3 Hop.toD a0) :: X :: X :: AV.d (D.i v116) :: dd 66 ([]), nn 70 ([])⟩) ?_ ?_
        · intro k117 h
          conv => whnf
          revert h; refine loop_while (fun v139 => ⟨AV.d (D.l 3 Hop.toD a0) :: X :: X :: AV.d (D.i v139) :: dd 66 ([]), nn 70 ([])⟩) ⟨rfl, And.intro (.refl _) (And.intro (.refl _) True.intro), True.intro, rfl⟩ ?_
          rintro next142 v139 K140 h hK141
          conv => whnf
          revert h; refine cut_join (fun v147 => ⟨AV.d (D.l 3 Hop.toD a0) :: X :: X :: AV.d (D.i v139) :: dd 55 (AV.d (D.b v147) :: dd 10 ([])), nn 70 ([])⟩) ?_ ?_
          · intro k148 h
            conv => whnf
            refine ⟨a0.length, List.length_map _, ?_⟩
            conv => whnf
            revert h; refine sel_if ?_ ?_ <;> intro h
            · conv => whnf
              replace h := bind_inv h; obtain ⟨v149, g150, h⟩ := h
              refine ⟨geti_b (f := Hop.toD) g150, Hop.toD v149, geti_d (f := Hop.toD) g150, rfl, ?_⟩
              conv => whnf
              revert h; refine sel_if ?_ ?_ <;> intro h
              · conv => whnf
                exact join_end (v := true) ⟨rfl, And.intro (.refl _) (And.intro (.refl _) (And.intro (.refl _) True.intro)), True.intro, rfl⟩ h
              · conv => whnf
                replace h := bind_inv h; obtain ⟨v151, g152, h⟩ := h
                refine ⟨geti_b (f := Hop.toD) g152, Hop.toD v151, geti_d (f := Hop.toD) g152, rfl, ?_⟩
                conv => whnf
                exact join_end (v := (v151.Role == 1)) ⟨rfl, And.intro (.refl _) (And.intro (.refl _) (And.intro (.refl _) True.intro)), True.intro, rfl⟩ h
            · conv => whnf
              exact join_end (v := false) ⟨rfl, And.intro (.refl _) (And.intro (.refl _) (And.intro (.refl _) True.intro)), True.intro, rfl⟩ h
          · rintro v147 h
            conv => whnf
            refine .go ?_
            conv => whnf
            revert h; refine sel_if ?_ ?_ <;> intro h
            · conv => whnf
              refine .go ?_
              conv => whnf
              refine ⟨_, rfl, ?_⟩
              conv => whnf
              exact hK141 _ (i64w (v139 + 1)) ⟨rfl, And.intro (.refl _) (And.intro (.refl _) True.intro), True.intro, rfl⟩ h
            · conv => whnf
              exact join_end (v := v139) ⟨rfl, And.intro (.refl _) (And.intro (.refl _) True.intro), True.intro, rfl⟩ h
        · rintro v116 h
          conv => whnf
          revert h; refine cut_join (fun v155 => ⟨X :: X :: AV.d (D.b v155) :: dd 67 ([]), nn 70 ([])⟩) ?_ ?_
          · intro k156 h
            conv => whnf
            refine ⟨a0.length, List.length_map _, ?_⟩
            conv => whnf
            revert h; refine sel_if ?_ ?_ <;> intro h
            · conv => whnf
              replace h := bind_inv h; obtain ⟨v157, g158, h⟩ := h
              refine ⟨_, _, ref23_joined_ok g158, .inl rfl, ?_⟩
              conv => whnf
              exact join_end (v := v157) ⟨rfl, And.intro (.refl _) True.intro, True.intro, rfl⟩ h
            · conv => whnf
              exact join_end (v := false) ⟨rfl, And.intro (.refl _) True.intro, True.intro, rfl⟩ h
          · rintro v155 h
            conv => whnf
            cases h
            exact ⟨rfl, rfl⟩

theorem law23_RoleWays_ok {a0 : List Hop} {a1 : List Int} {r : Bool} (h : law23_RoleWays a0 a1 = some r) : CallsOK Try.prog 5 [AV.d (D.l 3 Hop.toD a0), AV.d (D.l 1 D.i a1)] [] (.d (D.b r)) [] := by
  refine ok Try.f5 (by kernel_rfl) (by kernel_rfl) ⟨rfl, ?_⟩
  unfold law23_RoleWays at h
  conv => whnf
  refine ⟨a0.length, List.length_map _, ?_⟩
  conv => whnf
  refine .go ?_
  conv => whnf
  revert h; refine sel_if ?_ ?_ <;> intro h
  · conv => whnf
    replace h := bind_inv h; obtain ⟨v3, g4, h⟩ := h
    refine ⟨_, _, law23_awake_ok g4, .inl rfl, ?_⟩
    conv => whnf
    cases h
    exact ⟨rfl, rfl⟩
  · conv => whnf
    replace h := bind_inv h; obtain ⟨v5, g6, h⟩ := h
    refine ⟨_, _, mill_New_ok g6, .inr rfl, ?_⟩
    conv => whnf
    replace h := bind_inv h; obtain ⟨⟨v7, v8⟩, g9, h⟩ := h
    refine ⟨_, _, law23_hops_ok g9, .inl rfl, ?_⟩
    conv => whnf
    refine ⟨([a0, v7] : List (List Hop)).length, by first | exact List.length_map _ | rfl, ?_⟩
    conv => whnf
    revert h; refine cut_join (fun _ => ⟨dd 35 ([]), nn 35 ([])⟩) ?_ ?_
    · intro k89 h
      conv => whnf
      revert h; refine loop_own 15 47 1 false (D.l 3 Hop.toD) rfl (fun i128 _ => ⟨dd 15 (AV.own 15 (List.map (D.l 3 Hop.toD) ([a0, v7] : List (List Hop))).length :: AV.d (D.i (([a0, v7] : List (List Hop)).length : Int)) :: AV.d (D.i (i128 : Int)) :: dd 17 ([])), nn 15 (some (OB.row 47 1 (List.map (D.l 3 Hop.toD) ([a0, v7] : List (List Hop))) false) :: nn 19 ([]))⟩) ⟨rfl, And.intro (.refl _) (And.intro (.refl _) (And.intro (.refl _) True.intro)), And.intro (.inl ⟨_, rfl, id⟩) (True.intro), rfl⟩ ?_ ?_
      · rintro _ K130 h
        conv => whnf
        refine .go ?_
        conv => whnf
        exact join_end (v := ()) ⟨rfl, True.intro, True.intro, rfl⟩ h
      · rintro next132 i128 x129 _ K130 hii128 hxi128 hwi128 h hK131
        conv => whnf
        refine .go ?_
        conv => whnf
        refine sel_t (lt_t hii128) ?_
        conv => whnf
        refine .go ?_
        conv => whnf
        refine ⟨rfl, idx_b (f := (D.l 3 Hop.toD)) hii128, ?_⟩
        conv => whnf
        refine ⟨rfl, (D.l 3 Hop.toD) x129, hxi128, ?_⟩
        conv => whnf
        revert h; refine cut_join (fun v159 => ⟨dd 15 (AV.own 15 (List.map (D.l 3 Hop.toD) ([a0, v7] : List (List Hop))).length :: AV.d (D.i (([a0, v7] : List (List Hop)).length : Int)) :: AV.d (D.i (i128 : Int)) :: dd 14 (AV.d (D.b v159) :: X :: X :: [])), nn 15 (some (OB.row 47 1 (List.map (D.l 3 Hop.toD) ([a0, v7] : List (List Hop))) false) :: nn 19 ([]))⟩) ?_ ?_
        · intro k160 h
          conv => whnf
          replace h := bind_inv h; obtain ⟨v161, g162, h⟩ := h
          refine ⟨_, _, role_Travels_ok g162, .inl rfl, ?_⟩
          conv => whnf
          replace h := bind_inv h; obtain ⟨v163, g164, h⟩ := h
          refine ⟨_, _, ref23_Travels_ok g164, .inl rfl, ?_⟩
          conv => whnf
          revert h; refine sel_if ?_ ?_ <;> intro h
          · conv => whnf
            exact join_end (v := true) ⟨rfl, And.intro (.refl _) (And.intro (.refl _) (And.intro (.refl _) (And.intro (.refl _) True.intro))), And.intro (.inl ⟨_, rfl, id⟩) (True.intro), rfl⟩ h
          · conv => whnf
            replace h := bind_inv h; obtain ⟨v165, g166, h⟩ := h
            refine ⟨_, _, role_Valley_ok g166, .inl rfl, ?_⟩
            conv => whnf
            replace h := bind_inv h; obtain ⟨v167, g168, h⟩ := h
            refine ⟨_, _, ref23_Valley_ok g168, .inl rfl, ?_⟩
            conv => whnf
            exact join_end (v := (!(v165 == v167))) ⟨rfl, And.intro (.refl _) (And.intro (.refl _) (And.intro (.refl _) (And.intro (.refl _) True.intro))), And.intro (.inl ⟨_, rfl, id⟩) (True.intro), rfl⟩ h
        · rintro v159 h
          conv => whnf
          refine .go ?_
          conv => whnf
          revert h; refine sel_if ?_ ?_ <;> intro h
          · conv => whnf
            cases h
            exact ⟨rfl, rfl⟩
          · conv => whnf
            refine ⟨_, hwi128, ?_⟩
            conv => whnf
            exact hK131 _ () ⟨rfl, And.intro (.refl _) (And.intro (.refl _) (And.intro (.refl _) True.intro)), And.intro (.inl ⟨_, rfl, id⟩) (True.intro), rfl⟩ h
    · rintro _ h
      conv => whnf
      replace h := bind_inv h; obtain ⟨v169, g170, h⟩ := h
      refine ⟨_, _, law23_awake_ok g170, .inl rfl, ?_⟩
      conv => whnf
      cases h
      exact ⟨rfl, rfl⟩

theorem law23_RoleValleys_ok {a0 : List Hop} {a1 : List Int} {r : Bool} (h : law23_RoleValleys a0 a1 = some r) : CallsOK Try.prog 6 [AV.d (D.l 3 Hop.toD a0), AV.d (D.l 1 D.i a1)] [] (.d (D.b r)) [] := by
  refine ok Try.f6 (by kernel_rfl) (by kernel_rfl) ⟨rfl, ?_⟩
  unfold law23_RoleValleys at h
  conv => whnf
  refine ⟨a0.length, List.length_map _, ?_⟩
  conv => whnf
  refine .go ?_
  conv => whnf
  revert h; refine sel_if ?_ ?_ <;> intro h
  · conv => whnf
    replace h := bind_inv h; obtain ⟨v3, g4, h⟩ := h
    refine ⟨_, _, law23_awake_ok g4, .inl rfl, ?_⟩
    conv => whnf
    cases h
    exact ⟨rfl, rfl⟩
  · conv => whnf
    replace h := bind_inv h; obtain ⟨v5, g6, h⟩ := h
    refine ⟨_, _, mill_New_ok g6, .inr rfl, ?_⟩
    conv => whnf
    replace h := bind_inv h; obtain ⟨⟨v7, v8⟩, g9, h⟩ := h
    refine ⟨_, _, law23_hops_ok g9, .inl rfl, ?_⟩
    conv => whnf
    refine ⟨([a0, v7] : List (List Hop)).length, by first | exact List.length_map _ | rfl, ?_⟩
    conv => whnf
    revert h; refine cut_join (fun _ => ⟨dd 28 ([]), nn 28 ([])⟩) ?_ ?_
    · intro k33 h
      conv => whnf
      revert h; refine loop_own 15 47 1 false (D.l 3 Hop.toD) rfl (fun i44 _ => ⟨dd 15 (AV.own 15 (List.map (D.l 3 Hop.toD) ([a0, v7] : List (List Hop))).length :: AV.d (D.i (([a0, v7] : List (List Hop)).length : Int)) :: AV.d (D.i (i44 : Int)) :: dd 10 ([])), nn 15 (some (OB.row 47 1 (List.map (D.l 3 Hop.toD) ([a0, v7] : List (List Hop))) false) :: nn 12 ([]))⟩) ⟨rfl, And.intro (.refl _) (And.intro (.refl _) (And.intro (.refl _) True.intro)), And.intro (.inl ⟨_, rfl, id⟩) (True.intro), rfl⟩ ?_ ?_
      · rintro _ K46 h
        conv => whnf
        refine .go ?_
        conv => whnf
        exact join_end (v := ()) ⟨rfl, True.intro, True.intro, rfl⟩ h
      · rintro next48 i44 x45 _ K46 hii44 hxi44 hwi44 h hK47
        conv => whnf
        refine .go ?_
        conv => whnf
        refine sel_t (lt_t hii44) ?_
        conv => whnf
        refine .go ?_
        conv => whnf
        refine ⟨rfl, idx_b (f := (D.l 3 Hop.toD)) hii44, ?_⟩
        conv => whnf
        refine ⟨rfl, (D.l 3 Hop.toD) x45, hxi44, ?_⟩
        conv => whnf
        replace h := bind_inv h; obtain ⟨v53, g54, h⟩ := h
        refine ⟨_, _, role_Travels_ok g54, .inl rfl, ?_⟩
        conv => whnf
        replace h := bind_inv h; obtain ⟨v55, g56, h⟩ := h
        refine ⟨_, _, role_Valley_ok g56, .inl rfl, ?_⟩
        conv => whnf
        refine .go ?_
        conv => whnf
        revert h; refine sel_if ?_ ?_ <;> intro h
        · conv => whnf
          cases h
          exact ⟨rfl, rfl⟩
        · conv => whnf
          refine ⟨_, hwi44, ?_⟩
          conv => whnf
          exact hK47 _ () ⟨rfl, And.intro (.refl _) (And.intro (.refl _) (And.intro (.refl _) True.intro)), And.intro (.inl ⟨_, rfl, id⟩) (True.intro), rfl⟩ h
    · rintro _ h
      conv => whnf
      replace h := bind_inv h; obtain ⟨v57, g58, h⟩ := h
      refine ⟨_, _, law23_awake_ok g58, .inl rfl, ?_⟩
      conv => whnf
      cases h
      exact ⟨rfl, rfl⟩
end Go.AX.Q23
