/-
  The functions do what their plain forms say (proofs written by a program of mine), part 3.
-/
import Derived.Test.YtoankoojoeaooaaQ23P2
namespace Go.AX.Q23
open Go Go.AX Go.Proofs
set_option maxRecDepth 100000
set_option maxHeartbeats 4000000
set_option linter.unusedVariables false
theorem ref18_Empty_ok  {r : Attrs} (h : ref18_Empty = some r) : CallsOK Try.prog 29 [] [] (.d (Attrs.toD r)) [] := by
  refine ok Try.f29 (by kernel_rfl) (by kernel_rfl) ⟨rfl, ?_⟩
  unfold ref18_Empty at h
  conv => whnf
  cases h
  exact ⟨rfl, rfl⟩

theorem mill_Deck_Next_ok {a0 : Deck} {a1 : Int} {r : Int × Deck} (h : mill_Deck_Next a0 a1 = some r) : CallsOK Try.prog 30 [.ref 0 0, AV.d (D.i a1)] [.box (Deck.av a0)] (.d (D.i r.1)) [.box (Deck.av r.2)] := by
  refine ok Try.f30 (by kernel_rfl) (by kernel_rfl) ⟨rfl, ?_⟩
  unfold mill_Deck_Next at h
  conv => whnf
  refine dOB (by kernel_rfl) ?_
  conv => whnf
  refine ⟨a0.L.length, List.length_map _, ?_⟩
  conv => whnf
  refine cOB (by kernel_rfl) ?_
  conv => whnf
  refine .go ?_
  conv => whnf
  revert h; refine sel_if ?_ ?_ <;> intro h
  · conv => whnf
    cases h
    exact ⟨rfl, rfl⟩
  · conv => whnf
    refine ⟨_, rfl, ?_⟩
    conv => whnf
    refine dOB (by kernel_rfl) ?_
    conv => whnf
    refine ⟨_, rfl, ?_⟩
    conv => whnf
    replace h := bind_inv h; obtain ⟨v1, g2, h⟩ := h
    refine ⟨geti_b (f := D.i) g2, D.i v1, geti_d (f := D.i) g2, rfl, ?_⟩
    conv => whnf
    replace h := bind_inv h; obtain ⟨v3, g4, h⟩ := h
    refine ⟨_, _, mill_Mod_ok g4, .inl rfl, ?_⟩
    conv => whnf
    refine cOB (by kernel_rfl) ?_
    conv => whnf
    cases h
    exact ⟨rfl, rfl⟩

theorem mill_Port_ok {a0 : Int} {a1 : Bool} {r : Addr} (h : mill_Port a0 a1 = some r) : CallsOK Try.prog 31 [AV.d (D.i a0), AV.d (D.b a1)] [] (.d (Addr.toD r)) [] := by
  refine ok Try.f31 (by kernel_rfl) (by kernel_rfl) ⟨rfl, ?_⟩
  unfold mill_Port at h
  conv => whnf
  refine .go ?_
  conv => whnf
  revert h; refine sel_if ?_ ?_ <;> intro h
  · conv => whnf
    refine ⟨_, u64_wrap _, ?_⟩
    conv => whnf
    cases h
    exact ⟨rfl, rfl⟩
  · conv => whnf
    refine ⟨by decide, _, rfl, ?_⟩
    conv => whnf
    refine ⟨_, rfl, ?_⟩
    conv => whnf
    refine ⟨_, u64_wrap _, ?_⟩
    conv => whnf
    refine ⟨_, u64_wrap _, ?_⟩
    conv => whnf
    cases h
    exact ⟨rfl, rfl⟩

theorem mill_Deck_Communities_ok {a0 : Deck} {r : (List Community) × Deck} (h : mill_Deck_Communities a0 = some r) : CallsOK Try.prog 32 [.ref 0 0] [.box (Deck.av a0)] (.d (D.l 2 Community.toD r.1)) [.box (Deck.av r.2)] := by
  refine ok Try.f32 (by kernel_rfl) (by kernel_rfl) ⟨rfl, ?_⟩
  unfold mill_Deck_Communities at h
  conv => whnf
  replace h := bind_inv h; obtain ⟨⟨v1, v2⟩, g3, h⟩ := h
  refine ⟨_, _, mill_Deck_Next_ok g3, .inl rfl, ?_⟩
  conv => whnf
  refine ⟨([(⟨0, 99⟩ : Community), (⟨0, 101⟩ : Community), (⟨0, 102⟩ : Community), (⟨99, 101⟩ : Community), (⟨99, 103⟩ : Community), (⟨500, 1⟩ : Community), (⟨65535, 666⟩ : Community), (⟨65535, 65282⟩ : Community)] : List Community).length, by first | exact List.length_map _ | rfl | (simp only [List.length_map]; omega), ?_⟩
  conv => whnf
  revert h; refine cut_join (fun (v107, v108) => ⟨dd 4 (AV.own 5 (List.map Community.toD v108).length :: dd 43 ([])), some (OB.box [AV.d (D.l 1 D.i v107.L), AV.d (D.i v107.At)]) :: nn 4 (some (OB.row 72 2 (List.map Community.toD v108) false) :: nn 43 ([]))⟩) ?_ ?_
  · intro k109 h
    conv => whnf
    revert h; refine loop_own 17 72 2 false Community.toD rfl (fun i178 (v176, v177) => ⟨AV.ref 0 0 :: X :: X :: X :: AV.own 5 (List.map Community.toD v177).length :: AV.d (D.i v1) :: dd 13 (AV.own 17 (List.map Community.toD ([(⟨0, 99⟩ : Community), (⟨0, 101⟩ : Community), (⟨0, 102⟩ : Community), (⟨99, 101⟩ : Community), (⟨99, 103⟩ : Community), (⟨500, 1⟩ : Community), (⟨65535, 666⟩ : Community), (⟨65535, 65282⟩ : Community)] : List Community)).length :: AV.d (D.i (([(⟨0, 99⟩ : Community), (⟨0, 101⟩ : Community), (⟨0, 102⟩ : Community), (⟨99, 101⟩ : Community), (⟨99, 103⟩ : Community), (⟨500, 1⟩ : Community), (⟨65535, 666⟩ : Community), (⟨65535, 65282⟩ : Community)] : List Community).length : Int)) :: AV.d (D.i (i178 : Int)) :: dd 26 ([])), some (OB.box [AV.d (D.l 1 D.i v176.L), AV.d (D.i v176.At)]) :: nn 4 (some (OB.row 72 2 (List.map Community.toD v177) false) :: nn 11 (some (OB.row 72 2 (List.map Community.toD ([(⟨0, 99⟩ : Community), (⟨0, 101⟩ : Community), (⟨0, 102⟩ : Community), (⟨99, 101⟩ : Community), (⟨99, 103⟩ : Community), (⟨500, 1⟩ : Community), (⟨65535, 666⟩ : Community), (⟨65535, 65282⟩ : Community)] : List Community)) false) :: nn 31 ([])))⟩) ⟨rfl, And.intro (.refl _) (And.intro (.refl _) (And.intro (.refl _) (And.intro (.refl _) (And.intro (.refl _) (And.intro (.refl _) True.intro))))), And.intro ⟨_, rfl, And.intro ⟨rfl, .refl _⟩ (And.intro ⟨rfl, .refl _⟩ (True.intro))⟩ (And.intro (.inl ⟨_, rfl, id⟩) (And.intro (.inl ⟨_, rfl, id⟩) (True.intro))), rfl⟩ ?_ ?_
    · rintro ⟨v176, v177⟩ K180 h
      conv => whnf
      refine .go ?_
      conv => whnf
      exact join_end (v := (v176, v177)) ⟨rfl, And.intro (.refl _) True.intro, And.intro ⟨_, rfl, And.intro ⟨rfl, .refl _⟩ (And.intro ⟨rfl, .refl _⟩ (True.intro))⟩ (And.intro (.inl ⟨_, rfl, id⟩) (True.intro)), rfl⟩ h
    · rintro next182 i178 x179 ⟨v176, v177⟩ K180 hii178 hxi178 hwi178 h hK181
      conv => whnf
      refine .go ?_
      conv => whnf
      refine sel_t (lt_t hii178) ?_
      conv => whnf
      refine .go ?_
      conv => whnf
      refine ⟨rfl, idx_b (f := Community.toD) hii178, ?_⟩
      conv => whnf
      refine ⟨rfl, Community.toD x179, hxi178, ?_⟩
      conv => whnf
      revert h; refine cut_join (fun (v201, v202) => ⟨AV.ref 0 0 :: X :: X :: X :: AV.own 5 (List.map Community.toD v177).length :: AV.d (D.i v1) :: X :: AV.ref 8 0 :: dd 11 (AV.own 17 (List.map Community.toD ([(⟨0, 99⟩ : Community), (⟨0, 101⟩ : Community), (⟨0, 102⟩ : Community), (⟨99, 101⟩ : Community), (⟨99, 103⟩ : Community), (⟨500, 1⟩ : Community), (⟨65535, 666⟩ : Community), (⟨65535, 65282⟩ : Community)] : List Community)).length :: AV.d (D.i (([(⟨0, 99⟩ : Community), (⟨0, 101⟩ : Community), (⟨0, 102⟩ : Community), (⟨99, 101⟩ : Community), (⟨99, 103⟩ : Community), (⟨500, 1⟩ : Community), (⟨65535, 666⟩ : Community), (⟨65535, 65282⟩ : Community)] : List Community).length : Int)) :: AV.d (D.i (i178 : Int)) :: dd 19 (AV.d (D.b v201) :: dd 6 ([]))), some (OB.box [AV.d (D.l 1 D.i v202.L), AV.d (D.i v202.At)]) :: nn 4 (some (OB.row 72 2 (List.map Community.toD v177) false) :: N :: N :: some (OB.box [AV.d (D.i x179.A), AV.d (D.i x179.B)]) :: nn 8 (some (OB.row 72 2 (List.map Community.toD ([(⟨0, 99⟩ : Community), (⟨0, 101⟩ : Community), (⟨0, 102⟩ : Community), (⟨99, 101⟩ : Community), (⟨99, 103⟩ : Community), (⟨500, 1⟩ : Community), (⟨65535, 666⟩ : Community), (⟨65535, 65282⟩ : Community)] : List Community)) false) :: nn 31 ([])))⟩) ?_ ?_
      · intro k203 h
        conv => whnf
        refine ⟨_, rfl, ?_⟩
        conv => whnf
        refine ⟨_, u64_wrap _, ?_⟩
        conv => whnf
        refine ⟨Int.natCast_nonneg _, _, rfl, ?_⟩
        conv => whnf
        refine ⟨_, rfl, ?_⟩
        conv => whnf
        revert h; refine sel_if ?_ ?_ <;> intro h
        · conv => whnf
          revert h; refine sel_if ?_ ?_ <;> intro h
          · conv => whnf
            exact join_end (v := (true, v176)) ⟨rfl, And.intro (.refl _) (And.intro (.refl _) (And.intro (.refl _) (And.intro (.refl _) (And.intro (.refl _) (And.intro (.refl _) (And.intro (.refl _) (And.intro (.refl _) True.intro))))))), And.intro ⟨_, rfl, And.intro ⟨rfl, .refl _⟩ (And.intro ⟨rfl, .refl _⟩ (True.intro))⟩ (And.intro (.inl ⟨_, rfl, id⟩) (And.intro ⟨_, rfl, And.intro ⟨rfl, .refl _⟩ (And.intro ⟨rfl, .refl _⟩ (True.intro))⟩ (And.intro (.inl ⟨_, rfl, id⟩) (True.intro)))), rfl⟩ h
          · conv => whnf
            replace h := bind_inv h; obtain ⟨⟨v204, v205⟩, g206, h⟩ := h
            refine ⟨_, _, mill_Deck_Next_ok g206, .inl rfl, ?_⟩
            conv => whnf
            exact join_end (v := ((v204 == 0), v205)) ⟨rfl, And.intro (.refl _) (And.intro (.refl _) (And.intro (.refl _) (And.intro (.refl _) (And.intro (.refl _) (And.intro (.refl _) (And.intro (.refl _) (And.intro (.refl _) True.intro))))))), And.intro ⟨_, rfl, And.intro ⟨rfl, .refl _⟩ (And.intro ⟨rfl, .refl _⟩ (True.intro))⟩ (And.intro (.inl ⟨_, rfl, id⟩) (And.intro ⟨_, rfl, And.intro ⟨rfl, .refl _⟩ (And.intro ⟨rfl, .refl _⟩ (True.intro))⟩ (And.intro (.inl ⟨_, rfl, id⟩) (True.intro)))), rfl⟩ h
        · conv => whnf
          exact join_end (v := (false, v176)) ⟨rfl, And.intro (.refl _) (And.intro (.refl _) (And.intro (.refl _) (And.intro (.refl _) (And.intro (.refl _) (And.intro (.refl _) (And.intro (.refl _) (And.intro (.refl _) True.intro))))))), And.intro ⟨_, rfl, And.intro ⟨rfl, .refl _⟩ (And.intro ⟨rfl, .refl _⟩ (True.intro))⟩ (And.intro (.inl ⟨_, rfl, id⟩) (And.intro ⟨_, rfl, And.intro ⟨rfl, .refl _⟩ (And.intro ⟨rfl, .refl _⟩ (True.intro))⟩ (And.intro (.inl ⟨_, rfl, id⟩) (True.intro)))), rfl⟩ h
      · rintro ⟨v201, v202⟩ h
        conv => whnf
        revert h; refine cut_join (fun v209 => ⟨AV.ref 0 0 :: X :: X :: X :: AV.own 5 (List.map Community.toD v209).length :: AV.d (D.i v1) :: dd 13 (AV.own 17 (List.map Community.toD ([(⟨0, 99⟩ : Community), (⟨0, 101⟩ : Community), (⟨0, 102⟩ : Community), (⟨99, 101⟩ : Community), (⟨99, 103⟩ : Community), (⟨500, 1⟩ : Community), (⟨65535, 666⟩ : Community), (⟨65535, 65282⟩ : Community)] : List Community)).length :: AV.d (D.i (([(⟨0, 99⟩ : Community), (⟨0, 101⟩ : Community), (⟨0, 102⟩ : Community), (⟨99, 101⟩ : Community), (⟨99, 103⟩ : Community), (⟨500, 1⟩ : Community), (⟨65535, 666⟩ : Community), (⟨65535, 65282⟩ : Community)] : List Community).length : Int)) :: AV.d (D.i (i178 : Int)) :: dd 26 ([])), some (OB.box [AV.d (D.l 1 D.i v202.L), AV.d (D.i v202.At)]) :: nn 4 (some (OB.row 72 2 (List.map Community.toD v209) false) :: nn 11 (some (OB.row 72 2 (List.map Community.toD ([(⟨0, 99⟩ : Community), (⟨0, 101⟩ : Community), (⟨0, 102⟩ : Community), (⟨99, 101⟩ : Community), (⟨99, 103⟩ : Community), (⟨500, 1⟩ : Community), (⟨65535, 666⟩ : Community), (⟨65535, 65282⟩ : Community)] : List Community)) false) :: nn 31 ([])))⟩) ?_ ?_
        · intro k210 h
          conv => whnf
          revert h; refine sel_if ?_ ?_ <;> intro h
          · conv => whnf
            refine ⟨rfl, ?_⟩
            conv => whnf
            replace h := bind_inv h; obtain ⟨v211, g212, h⟩ := h
            refine ⟨rfl, apnd_b (f := Community.toD) (g := Community.toD) g212, _, apnd_z (f := Community.toD) g212, ?_⟩
            conv => whnf
            exact join_end (v := v211) ⟨rfl, And.intro (.refl _) (And.intro (.refl _) (And.intro (.refl _) (And.intro (.refl _) (And.intro (.refl _) (And.intro (.refl _) True.intro))))), And.intro ⟨_, rfl, And.intro ⟨rfl, .refl _⟩ (And.intro ⟨rfl, .refl _⟩ (True.intro))⟩ (And.intro (.inl ⟨_, rfl, id⟩) (And.intro (.inl ⟨_, rfl, id⟩) (True.intro))), rfl⟩ h
          · conv => whnf
            exact join_end (v := v177) ⟨rfl, And.intro (.refl _) (And.intro (.refl _) (And.intro (.refl _) (And.intro (.refl _) (And.intro (.refl _) (And.intro (.refl _) True.intro))))), And.intro ⟨_, rfl, And.intro ⟨rfl, .refl _⟩ (And.intro ⟨rfl, .refl _⟩ (True.intro))⟩ (And.intro (.inl ⟨_, rfl, id⟩) (And.intro (.inl ⟨_, rfl, id⟩) (True.intro))), rfl⟩ h
        · rintro v209 h
          conv => whnf
          refine ⟨_, hwi178, ?_⟩
          conv => whnf
          exact hK181 _ (v202, v209) ⟨rfl, And.intro (.refl _) (And.intro (.refl _) (And.intro (.refl _) (And.intro (.refl _) (And.intro (.refl _) (And.intro (.refl _) True.intro))))), And.intro ⟨_, rfl, And.intro ⟨rfl, .refl _⟩ (And.intro ⟨rfl, .refl _⟩ (True.intro))⟩ (And.intro (.inl ⟨_, rfl, id⟩) (And.intro (.inl ⟨_, rfl, id⟩) (True.intro))), rfl⟩ h
  · rintro ⟨v107, v108⟩ h
    conv => whnf
    refine ⟨rfl, ?_⟩
    conv => whnf
    cases h
    exact ⟨rfl, rfl⟩

theorem mill_Deck_Large_ok {a0 : Deck} {r : (List Large) × Deck} (h : mill_Deck_Large a0 = some r) : CallsOK Try.prog 33 [.ref 0 0] [.box (Deck.av a0)] (.d (D.l 3 Large.toD r.1)) [.box (Deck.av r.2)] := by
  refine ok Try.f33 (by kernel_rfl) (by kernel_rfl) ⟨rfl, ?_⟩
  unfold mill_Deck_Large at h
  conv => whnf
  replace h := bind_inv h; obtain ⟨⟨v1, v2⟩, g3, h⟩ := h
  refine ⟨_, _, mill_Deck_Next_ok g3, .inl rfl, ?_⟩
  conv => whnf
  refine ⟨([(⟨5, 5, 5⟩ : Large), (⟨99, 0, 0⟩ : Large), (⟨99, 0, 103⟩ : Large), (⟨99, 1, 102⟩ : Large), (⟨99, 101, 0⟩ : Large), (⟨99, 102, 104⟩ : Large), (⟨99, 103, 101⟩ : Large)] : List Large).length, by first | exact List.length_map _ | rfl | (simp only [List.length_map]; omega), ?_⟩
  conv => whnf
  revert h; refine cut_join (fun v51 => ⟨dd 4 (AV.own 5 (List.map Large.toD v51).length :: dd 33 ([])), some (OB.box [AV.d (D.l 1 D.i v2.L), AV.d (D.i v2.At)]) :: nn 4 (some (OB.row 74 3 (List.map Large.toD v51) false) :: nn 33 ([]))⟩) ?_ ?_
  · intro k52 h
    conv => whnf
    revert h; refine loop_own 16 74 3 false Large.toD rfl (fun i83 v82 => ⟨dd 4 (AV.own 5 (List.map Large.toD v82).length :: AV.d (D.i v1) :: dd 12 (AV.own 16 (List.map Large.toD ([(⟨5, 5, 5⟩ : Large), (⟨99, 0, 0⟩ : Large), (⟨99, 0, 103⟩ : Large), (⟨99, 1, 102⟩ : Large), (⟨99, 101, 0⟩ : Large), (⟨99, 102, 104⟩ : Large), (⟨99, 103, 101⟩ : Large)] : List Large)).length :: AV.d (D.i (([(⟨5, 5, 5⟩ : Large), (⟨99, 0, 0⟩ : Large), (⟨99, 0, 103⟩ : Large), (⟨99, 1, 102⟩ : Large), (⟨99, 101, 0⟩ : Large), (⟨99, 102, 104⟩ : Large), (⟨99, 103, 101⟩ : Large)] : List Large).length : Int)) :: AV.d (D.i (i83 : Int)) :: dd 17 ([]))), some (OB.box [AV.d (D.l 1 D.i v2.L), AV.d (D.i v2.At)]) :: nn 4 (some (OB.row 74 3 (List.map Large.toD v82) false) :: nn 10 (some (OB.row 74 3 (List.map Large.toD ([(⟨5, 5, 5⟩ : Large), (⟨99, 0, 0⟩ : Large), (⟨99, 0, 103⟩ : Large), (⟨99, 1, 102⟩ : Large), (⟨99, 101, 0⟩ : Large), (⟨99, 102, 104⟩ : Large), (⟨99, 103, 101⟩ : Large)] : List Large)) false) :: nn 22 ([])))⟩) ⟨rfl, And.intro (.refl _) (And.intro (.refl _) (And.intro (.refl _) (And.intro (.refl _) (And.intro (.refl _) True.intro)))), And.intro ⟨_, rfl, And.intro ⟨rfl, .refl _⟩ (And.intro ⟨rfl, .refl _⟩ (True.intro))⟩ (And.intro (.inl ⟨_, rfl, id⟩) (And.intro (.inl ⟨_, rfl, id⟩) (True.intro))), rfl⟩ ?_ ?_
    · rintro v82 K85 h
      conv => whnf
      refine .go ?_
      conv => whnf
      exact join_end (v := v82) ⟨rfl, And.intro (.refl _) True.intro, And.intro ⟨_, rfl, And.intro ⟨rfl, .refl _⟩ (And.intro ⟨rfl, .refl _⟩ (True.intro))⟩ (And.intro (.inl ⟨_, rfl, id⟩) (True.intro)), rfl⟩ h
    · rintro next87 i83 x84 v82 K85 hii83 hxi83 hwi83 h hK86
      conv => whnf
      refine .go ?_
      conv => whnf
      refine sel_t (lt_t hii83) ?_
      conv => whnf
      refine .go ?_
      conv => whnf
      refine ⟨rfl, idx_b (f := Large.toD) hii83, ?_⟩
      conv => whnf
      refine ⟨rfl, Large.toD x84, hxi83, ?_⟩
      conv => whnf
      refine ⟨_, rfl, ?_⟩
      conv => whnf
      refine ⟨_, u64_wrap _, ?_⟩
      conv => whnf
      refine ⟨Int.natCast_nonneg _, _, rfl, ?_⟩
      conv => whnf
      refine ⟨_, rfl, ?_⟩
      conv => whnf
      revert h; refine cut_join (fun v96 => ⟨dd 4 (AV.own 5 (List.map Large.toD v96).length :: AV.d (D.i v1) :: dd 12 (AV.own 16 (List.map Large.toD ([(⟨5, 5, 5⟩ : Large), (⟨99, 0, 0⟩ : Large), (⟨99, 0, 103⟩ : Large), (⟨99, 1, 102⟩ : Large), (⟨99, 101, 0⟩ : Large), (⟨99, 102, 104⟩ : Large), (⟨99, 103, 101⟩ : Large)] : List Large)).length :: AV.d (D.i (([(⟨5, 5, 5⟩ : Large), (⟨99, 0, 0⟩ : Large), (⟨99, 0, 103⟩ : Large), (⟨99, 1, 102⟩ : Large), (⟨99, 101, 0⟩ : Large), (⟨99, 102, 104⟩ : Large), (⟨99, 103, 101⟩ : Large)] : List Large).length : Int)) :: AV.d (D.i (i83 : Int)) :: dd 17 ([]))), some (OB.box [AV.d (D.l 1 D.i v2.L), AV.d (D.i v2.At)]) :: nn 4 (some (OB.row 74 3 (List.map Large.toD v96) false) :: nn 10 (some (OB.row 74 3 (List.map Large.toD ([(⟨5, 5, 5⟩ : Large), (⟨99, 0, 0⟩ : Large), (⟨99, 0, 103⟩ : Large), (⟨99, 1, 102⟩ : Large), (⟨99, 101, 0⟩ : Large), (⟨99, 102, 104⟩ : Large), (⟨99, 103, 101⟩ : Large)] : List Large)) false) :: nn 22 ([])))⟩) ?_ ?_
      · intro k97 h
        conv => whnf
        revert h; refine sel_if ?_ ?_ <;> intro h
        · conv => whnf
          refine ⟨rfl, ?_⟩
          conv => whnf
          replace h := bind_inv h; obtain ⟨v98, g99, h⟩ := h
          refine ⟨rfl, apnd_b (f := Large.toD) (g := Large.toD) g99, _, apnd_z (f := Large.toD) g99, ?_⟩
          conv => whnf
          exact join_end (v := v98) ⟨rfl, And.intro (.refl _) (And.intro (.refl _) (And.intro (.refl _) (And.intro (.refl _) (And.intro (.refl _) True.intro)))), And.intro ⟨_, rfl, And.intro ⟨rfl, .refl _⟩ (And.intro ⟨rfl, .refl _⟩ (True.intro))⟩ (And.intro (.inl ⟨_, rfl, id⟩) (And.intro (.inl ⟨_, rfl, id⟩) (True.intro))), rfl⟩ h
        · conv => whnf
          exact join_end (v := v82) ⟨rfl, And.intro (.refl _) (And.intro (.refl _) (And.intro (.refl _) (And.intro (.refl _) (And.intro (.refl _) True.intro)))), And.intro ⟨_, rfl, And.intro ⟨rfl, .refl _⟩ (And.intro ⟨rfl, .refl _⟩ (True.intro))⟩ (And.intro (.inl ⟨_, rfl, id⟩) (And.intro (.inl ⟨_, rfl, id⟩) (True.intro))), rfl⟩ h
      · rintro v96 h
        conv => whnf
        refine ⟨_, hwi83, ?_⟩
        conv => whnf
        exact hK86 _ v96 ⟨rfl, And.intro (.refl _) (And.intro (.refl _) (And.intro (.refl _) (And.intro (.refl _) (And.intro (.refl _) True.intro)))), And.intro ⟨_, rfl, And.intro ⟨rfl, .refl _⟩ (And.intro ⟨rfl, .refl _⟩ (True.intro))⟩ (And.intro (.inl ⟨_, rfl, id⟩) (And.intro (.inl ⟨_, rfl, id⟩) (True.intro))), rfl⟩ h
  · rintro v51 h
    conv => whnf
    refine ⟨rfl, ?_⟩
    conv => whnf
    cases h
    exact ⟨rfl, rfl⟩
end Go.AX.Q23
