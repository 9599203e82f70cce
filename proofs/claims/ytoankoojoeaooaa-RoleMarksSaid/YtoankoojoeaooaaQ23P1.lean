/-
  The functions do what their plain forms say (proofs written by a program of mine), part 1.
-/
import Derived.Test.YtoankoojoeaooaaQ23P0
namespace Go.AX.Q23
open Go Go.AX Go.Proofs
set_option maxRecDepth 100000
set_option maxHeartbeats 4000000
set_option linter.unusedVariables false
theorem mill_Mod_ok {a0 : Int} {a1 : Int} {r : Int} (h : mill_Mod a0 a1 = some r) : CallsOK Try.prog 8 [AV.d (D.i a0), AV.d (D.i a1)] [] (.d (D.i r)) [] := by
  refine ok Try.f8 (by kernel_rfl) (by kernel_rfl) ⟨rfl, ?_⟩
  unfold mill_Mod at h
  conv => whnf
  replace h := bind_inv h; obtain ⟨_, g1, h⟩ := h
  refine ⟨chk_inv g1, _, rfl, ?_⟩
  conv => whnf
  revert h; refine cut_join (fun v2 => ⟨dd 5 (AV.d (D.i v2) :: dd 9 ([])), nn 15 ([])⟩) ?_ ?_
  · intro k3 h
    conv => whnf
    revert h; refine sel_if ?_ ?_ <;> intro h
    · conv => whnf
      refine ⟨_, rfl, ?_⟩
      conv => whnf
      exact join_end (v := (i64w ((Int.tmod a0 a1) + a1))) ⟨rfl, And.intro (.refl _) True.intro, True.intro, rfl⟩ h
    · conv => whnf
      exact join_end (v := (Int.tmod a0 a1)) ⟨rfl, And.intro (.refl _) True.intro, True.intro, rfl⟩ h
  · rintro v2 h
    conv => whnf
    cases h
    exact ⟨rfl, rfl⟩

theorem role_inverse_ok  {r : A5_Int} (h : role_inverse = some r) : CallsOK Try.prog 28 [] [] (.d (A5_Int.toD r)) [] := by
  refine ok Try.f28 (by kernel_rfl) (by kernel_rfl) ⟨rfl, ?_⟩
  unfold role_inverse at h
  conv => whnf
  cases h
  exact ⟨rfl, rfl⟩

theorem role_known_ok {a0 : Int} {r : Bool} (h : role_known a0 = some r) : CallsOK Try.prog 27 [AV.d (D.i a0)] [] (.d (D.b r)) [] := by
  refine ok Try.f27 (by kernel_rfl) (by kernel_rfl) ⟨rfl, ?_⟩
  unfold role_known at h
  conv => whnf
  revert h; refine cut_join (fun v3 => ⟨X :: X :: AV.d (D.b v3) :: dd 8 ([]), nn 11 ([])⟩) ?_ ?_
  · intro k4 h
    conv => whnf
    revert h; refine sel_if ?_ ?_ <;> intro h
    · conv => whnf
      replace h := bind_inv h; obtain ⟨v5, g6, h⟩ := h
      refine ⟨_, _, role_inverse_ok g6, .inl rfl, ?_⟩
      conv => whnf
      exact join_end (v := (decide (a0 < 5))) ⟨rfl, And.intro (.refl _) True.intro, True.intro, rfl⟩ h
    · conv => whnf
      exact join_end (v := false) ⟨rfl, And.intro (.refl _) True.intro, True.intro, rfl⟩ h
  · rintro v3 h
    conv => whnf
    cases h
    exact ⟨rfl, rfl⟩

theorem role_Inverse_ok {a0 : Int} {r : Int} (h : role_Inverse a0 = some r) : CallsOK Try.prog 9 [AV.d (D.i a0)] [] (.d (D.i r)) [] := by
  refine ok Try.f9 (by kernel_rfl) (by kernel_rfl) ⟨rfl, ?_⟩
  unfold role_Inverse at h
  conv => whnf
  replace h := bind_inv h; obtain ⟨v1, g2, h⟩ := h
  refine ⟨_, _, role_known_ok g2, .inl rfl, ?_⟩
  conv => whnf
  refine .go ?_
  conv => whnf
  revert h; refine sel_if ?_ ?_ <;> intro h
  · conv => whnf
    cases h
    exact ⟨rfl, rfl⟩
  · conv => whnf
    replace h := bind_inv h; obtain ⟨v3, g4, h⟩ := h
    refine ⟨_, _, role_inverse_ok g4, .inl rfl, ?_⟩
    conv => whnf
    replace h := bind_inv h; obtain ⟨v5, g6, h⟩ := h
    refine ⟨geti_b (f := id) g6, .d (D.i v5), geti_a (f := fun x => AV.d (D.i x)) g6, ?_⟩
    conv => whnf
    cases h
    exact ⟨rfl, rfl⟩

theorem ref23_Inverse_ok {a0 : Int} {r : Int} (h : ref23_Inverse a0 = some r) : CallsOK Try.prog 10 [AV.d (D.i a0)] [] (.d (D.i r)) [] := by
  refine ok Try.f10 (by kernel_rfl) (by kernel_rfl) ⟨rfl, ?_⟩
  unfold ref23_Inverse at h
  conv => whnf
  refine .go ?_
  conv => whnf
  refine .go ?_
  conv => whnf
  revert h; refine sel_if ?_ ?_ <;> intro h
  · conv => whnf
    cases h
    exact ⟨rfl, rfl⟩
  · conv => whnf
    refine .go ?_
    conv => whnf
    revert h; refine sel_if ?_ ?_ <;> intro h
    · conv => whnf
      cases h
      exact ⟨rfl, rfl⟩
    · conv => whnf
      refine .go ?_
      conv => whnf
      revert h; refine sel_if ?_ ?_ <;> intro h
      · conv => whnf
        cases h
        exact ⟨rfl, rfl⟩
      · conv => whnf
        refine .go ?_
        conv => whnf
        revert h; refine sel_if ?_ ?_ <;> intro h
        · conv => whnf
          cases h
          exact ⟨rfl, rfl⟩
        · conv => whnf
          refine .go ?_
          conv => whnf
          revert h; refine sel_if ?_ ?_ <;> intro h
          · conv => whnf
            cases h
            exact ⟨rfl, rfl⟩
          · conv => whnf
            cases h
            exact ⟨rfl, rfl⟩

theorem role_Fits_ok {a0 : Int} {a1 : Int} {r : Bool} (h : role_Fits a0 a1 = some r) : CallsOK Try.prog 11 [AV.d (D.i a0), AV.d (D.i a1)] [] (.d (D.b r)) [] := by
  refine ok Try.f11 (by kernel_rfl) (by kernel_rfl) ⟨rfl, ?_⟩
  unfold role_Fits at h
  conv => whnf
  revert h; refine cut_join (fun v5 => ⟨dd 4 (AV.d (D.b v5) :: dd 8 ([])), nn 13 ([])⟩) ?_ ?_
  · intro k6 h
    conv => whnf
    replace h := bind_inv h; obtain ⟨v7, g8, h⟩ := h
    refine ⟨_, _, role_known_ok g8, .inl rfl, ?_⟩
    conv => whnf
    revert h; refine sel_if ?_ ?_ <;> intro h
    · conv => whnf
      replace h := bind_inv h; obtain ⟨v9, g10, h⟩ := h
      refine ⟨_, _, role_Inverse_ok g10, .inl rfl, ?_⟩
      conv => whnf
      exact join_end (v := (a1 == v9)) ⟨rfl, And.intro (.refl _) True.intro, True.intro, rfl⟩ h
    · conv => whnf
      exact join_end (v := false) ⟨rfl, And.intro (.refl _) True.intro, True.intro, rfl⟩ h
  · rintro v5 h
    conv => whnf
    cases h
    exact ⟨rfl, rfl⟩

theorem ref23_Fits_ok {a0 : Int} {a1 : Int} {r : Bool} (h : ref23_Fits a0 a1 = some r) : CallsOK Try.prog 12 [AV.d (D.i a0), AV.d (D.i a1)] [] (.d (D.b r)) [] := by
  refine ok Try.f12 (by kernel_rfl) (by kernel_rfl) ⟨rfl, ?_⟩
  unfold ref23_Fits at h
  conv => whnf
  revert h; refine cut_join (fun v5 => ⟨dd 4 (AV.d (D.b v5) :: dd 9 ([])), nn 14 ([])⟩) ?_ ?_
  · intro k6 h
    conv => whnf
    replace h := bind_inv h; obtain ⟨v7, g8, h⟩ := h
    refine ⟨_, _, ref23_Inverse_ok g8, .inl rfl, ?_⟩
    conv => whnf
    revert h; refine sel_if ?_ ?_ <;> intro h
    · conv => whnf
      replace h := bind_inv h; obtain ⟨v9, g10, h⟩ := h
      refine ⟨_, _, ref23_Inverse_ok g10, .inl rfl, ?_⟩
      conv => whnf
      exact join_end (v := (a1 == v9)) ⟨rfl, And.intro (.refl _) True.intro, True.intro, rfl⟩ h
    · conv => whnf
      exact join_end (v := false) ⟨rfl, And.intro (.refl _) True.intro, True.intro, rfl⟩ h
  · rintro v5 h
    conv => whnf
    cases h
    exact ⟨rfl, rfl⟩

theorem role_number_ok {a0 : Int} {r : Bool} (h : role_number a0 = some r) : CallsOK Try.prog 34 [AV.d (D.i a0)] [] (.d (D.b r)) [] := by
  refine ok Try.f34 (by kernel_rfl) (by kernel_rfl) ⟨rfl, ?_⟩
  unfold role_number at h
  conv => whnf
  revert h; refine cut_join (fun v1 => ⟨X :: X :: AV.d (D.b v1) :: dd 6 ([]), nn 9 ([])⟩) ?_ ?_
  · intro k2 h
    conv => whnf
    revert h; refine sel_if ?_ ?_ <;> intro h
    · conv => whnf
      exact join_end (v := (decide (a0 ≤ 4294967295))) ⟨rfl, And.intro (.refl _) True.intro, True.intro, rfl⟩ h
    · conv => whnf
      exact join_end (v := false) ⟨rfl, And.intro (.refl _) True.intro, True.intro, rfl⟩ h
  · rintro v1 h
    conv => whnf
    cases h
    exact ⟨rfl, rfl⟩

theorem clone_List_int_ok {a0 : List Int} {r : (List Int)} (h : clone_List_int a0 = some r) : CallsOK Try.prog 40 [AV.d (D.l 1 D.i a0)] [] (.d (D.l 1 D.i r)) [] := by
  refine ok Try.f40 (by kernel_rfl) (by kernel_rfl) ⟨rfl, ?_⟩
  unfold clone_List_int at h
  conv => whnf
  replace h := bind_inv h; obtain ⟨_, g2, h⟩ := h
  refine ⟨apnd_b0 (g := D.i) g2, ?_⟩
  conv => whnf
  refine ⟨rfl, ?_⟩
  conv => whnf
  cases h
  exact ⟨rfl, rfl⟩

theorem clone_List_byte_ok {a0 : List UInt8} {r : (List UInt8)} (h : clone_List_byte a0 = some r) : CallsOK Try.prog 41 [AV.d (D.l 1 D.u8 a0)] [] (.d (D.l 1 D.u8 r)) [] := by
  refine ok Try.f41 (by kernel_rfl) (by kernel_rfl) ⟨rfl, ?_⟩
  unfold clone_List_byte at h
  conv => whnf
  replace h := bind_inv h; obtain ⟨_, g2, h⟩ := h
  refine ⟨apnd_b0 (g := D.u8) g2, ?_⟩
  conv => whnf
  refine ⟨rfl, ?_⟩
  conv => whnf
  cases h
  exact ⟨rfl, rfl⟩

theorem clone_List_api_Community_ok {a0 : List Community} {r : (List Community)} (h : clone_List_api_Community a0 = some r) : CallsOK Try.prog 42 [AV.d (D.l 2 Community.toD a0)] [] (.d (D.l 2 Community.toD r)) [] := by
  refine ok Try.f42 (by kernel_rfl) (by kernel_rfl) ⟨rfl, ?_⟩
  unfold clone_List_api_Community at h
  conv => whnf
  replace h := bind_inv h; obtain ⟨_, g2, h⟩ := h
  refine ⟨apnd_b0 (g := Community.toD) g2, ?_⟩
  conv => whnf
  refine ⟨rfl, ?_⟩
  conv => whnf
  cases h
  exact ⟨rfl, rfl⟩

theorem clone_List_api_Large_ok {a0 : List Large} {r : (List Large)} (h : clone_List_api_Large a0 = some r) : CallsOK Try.prog 43 [AV.d (D.l 3 Large.toD a0)] [] (.d (D.l 3 Large.toD r)) [] := by
  refine ok Try.f43 (by kernel_rfl) (by kernel_rfl) ⟨rfl, ?_⟩
  unfold clone_List_api_Large at h
  conv => whnf
  replace h := bind_inv h; obtain ⟨_, g2, h⟩ := h
  refine ⟨apnd_b0 (g := Large.toD) g2, ?_⟩
  conv => whnf
  refine ⟨rfl, ?_⟩
  conv => whnf
  cases h
  exact ⟨rfl, rfl⟩

theorem clone_Attrs_ok {a0 : Attrs} {r : Attrs} (h : clone_Attrs a0 = some r) : CallsOK Try.prog 35 [AV.d (Attrs.toD a0)] [] (.d (Attrs.toD r)) [] := by
  refine ok Try.f35 (by kernel_rfl) (by kernel_rfl) ⟨rfl, ?_⟩
  unfold clone_Attrs at h
  conv => whnf
  refine dOB (by kernel_rfl) ?_
  conv => whnf
  refine cOB (by kernel_rfl) ?_
  conv => whnf
  refine ⟨a0.Path.length, List.length_map _, ?_⟩
  conv => whnf
  revert h; refine cut_join (fun v36 => ⟨X :: AV.ref 1 0 :: AV.ref 2 0 :: X :: AV.d (D.l 3 Unknown.toD a0.Other) :: dd 57 ([]), N :: some (OB.box [AV.d (D.i a0.Origin), AV.own 30 (List.map Segment.toD v36).length, AV.d (D.b a0.Next.V6), AV.d (D.u64 a0.Next.Hi), AV.d (D.u64 a0.Next.Lo), AV.d (D.i a0.MED), AV.d (D.i a0.Pref), AV.d (D.i a0.OTC), AV.d (D.l 2 Community.toD a0.Communities), AV.d (D.l 3 Large.toD a0.Large), AV.d (D.nil 3)]) :: some (OB.box [AV.d (D.i 0), AV.d (D.nil 2), AV.d (D.b false), AV.d (D.u64 (0 : UInt64)), AV.d (D.u64 (0 : UInt64)), AV.d (D.i 0), AV.d (D.i 0), AV.d (D.i 0), AV.d (D.nil 2), AV.d (D.nil 3), AV.d (D.nil 3)]) :: nn 27 (some (OB.row 59 2 (List.map Segment.toD v36) false) :: nn 31 ([]))⟩) ?_ ?_
  · intro k37 h
    conv => whnf
    revert h; refine loop_for 15 2 Segment.toD rfl (fun i60 v59 => ⟨X :: AV.ref 1 0 :: AV.ref 2 0 :: X :: AV.d (D.l 3 Unknown.toD a0.Other) :: dd 10 (AV.d (D.l 2 Segment.toD a0.Path) :: AV.d (D.i (a0.Path.length : Int)) :: AV.d (D.i (i60 : Int)) :: dd 44 ([])), N :: some (OB.box [AV.d (D.i a0.Origin), AV.own 30 (List.map Segment.toD v59).length, AV.d (D.b a0.Next.V6), AV.d (D.u64 a0.Next.Hi), AV.d (D.u64 a0.Next.Lo), AV.d (D.i a0.MED), AV.d (D.i a0.Pref), AV.d (D.i a0.OTC), AV.d (D.l 2 Community.toD a0.Communities), AV.d (D.l 3 Large.toD a0.Large), AV.d (D.nil 3)]) :: some (OB.box [AV.d (D.i 0), AV.d (D.nil 2), AV.d (D.b false), AV.d (D.u64 (0 : UInt64)), AV.d (D.u64 (0 : UInt64)), AV.d (D.i 0), AV.d (D.i 0), AV.d (D.i 0), AV.d (D.nil 2), AV.d (D.nil 3), AV.d (D.nil 3)]) :: nn 27 (some (OB.row 59 2 (List.map Segment.toD v59) false) :: nn 31 ([]))⟩) ⟨rfl, And.intro (.refl _) (And.intro (.refl _) (And.intro (.refl _) (And.intro (.refl _) (And.intro (.refl _) (And.intro (.refl _) True.intro))))), And.intro ⟨_, rfl, And.intro ⟨rfl, .refl _⟩ (And.intro ⟨rfl, .fresh _ _ _ rfl rfl⟩ (And.intro ⟨rfl, .refl _⟩ (And.intro ⟨rfl, .refl _⟩ (And.intro ⟨rfl, .refl _⟩ (And.intro ⟨rfl, .refl _⟩ (And.intro ⟨rfl, .refl _⟩ (And.intro ⟨rfl, .refl _⟩ (And.intro ⟨rfl, .refl _⟩ (And.intro ⟨rfl, .refl _⟩ (And.intro ⟨rfl, .refl _⟩ (True.intro)))))))))))⟩ (And.intro ⟨_, rfl, And.intro ⟨rfl, .refl _⟩ (And.intro ⟨rfl, .refl _⟩ (And.intro ⟨rfl, .refl _⟩ (And.intro ⟨rfl, .refl _⟩ (And.intro ⟨rfl, .refl _⟩ (And.intro ⟨rfl, .refl _⟩ (And.intro ⟨rfl, .refl _⟩ (And.intro ⟨rfl, .refl _⟩ (And.intro ⟨rfl, .refl _⟩ (And.intro ⟨rfl, .refl _⟩ (And.intro ⟨rfl, .refl _⟩ (True.intro)))))))))))⟩ (And.intro (.inr ⟨rfl, rfl, by decide⟩) (True.intro))), rfl⟩ ?_ ?_
    · rintro v59 K62 h
      conv => whnf
      refine .go ?_
      conv => whnf
      refine sel_f lt_f ?_
      conv => whnf
      exact join_end (v := v59) ⟨rfl, And.intro (.refl _) (And.intro (.refl _) (And.intro (.refl _) True.intro)), And.intro ⟨_, rfl, And.intro ⟨rfl, .refl _⟩ (And.intro ⟨rfl, .refl _⟩ (And.intro ⟨rfl, .refl _⟩ (And.intro ⟨rfl, .refl _⟩ (And.intro ⟨rfl, .refl _⟩ (And.intro ⟨rfl, .refl _⟩ (And.intro ⟨rfl, .refl _⟩ (And.intro ⟨rfl, .refl _⟩ (And.intro ⟨rfl, .refl _⟩ (And.intro ⟨rfl, .refl _⟩ (And.intro ⟨rfl, .refl _⟩ (True.intro)))))))))))⟩ (And.intro ⟨_, rfl, And.intro ⟨rfl, .refl _⟩ (And.intro ⟨rfl, .refl _⟩ (And.intro ⟨rfl, .refl _⟩ (And.intro ⟨rfl, .refl _⟩ (And.intro ⟨rfl, .refl _⟩ (And.intro ⟨rfl, .refl _⟩ (And.intro ⟨rfl, .refl _⟩ (And.intro ⟨rfl, .refl _⟩ (And.intro ⟨rfl, .refl _⟩ (And.intro ⟨rfl, .refl _⟩ (And.intro ⟨rfl, .refl _⟩ (True.intro)))))))))))⟩ (And.intro (.inl ⟨_, rfl, id⟩) (True.intro))), rfl⟩ h
    · rintro next64 i60 x61 v59 K62 hii60 hxi60 hwi60 h hK63
      conv => whnf
      refine .go ?_
      conv => whnf
      refine sel_t (lt_t hii60) ?_
      conv => whnf
      refine .go ?_
      conv => whnf
      refine ⟨idx_b (f := Segment.toD) hii60, Segment.toD x61, hxi60, rfl, ?_⟩
      conv => whnf
      refine dOB (by kernel_rfl) ?_
      conv => whnf
      replace h := bind_inv h; obtain ⟨v69, g70, h⟩ := h
      refine ⟨_, _, clone_List_int_ok g70, .inl rfl, ?_⟩
      conv => whnf
      refine ⟨rfl, ?_⟩
      conv => whnf
      replace h := bind_inv h; obtain ⟨v71, g72, h⟩ := h
      refine ⟨rfl, apnd_b (f := Segment.toD) (g := Segment.toD) g72, _, apnd_z (f := Segment.toD) g72, ?_⟩
      conv => whnf
      refine cOB (by kernel_rfl) ?_
      conv => whnf
      refine ⟨_, hwi60, ?_⟩
      conv => whnf
      exact hK63 _ v71 ⟨rfl, And.intro (.refl _) (And.intro (.refl _) (And.intro (.refl _) (And.intro (.refl _) (And.intro (.refl _) (And.intro (.refl _) True.intro))))), And.intro ⟨_, rfl, And.intro ⟨rfl, .refl _⟩ (And.intro ⟨rfl, .refl _⟩ (And.intro ⟨rfl, .refl _⟩ (And.intro ⟨rfl, .refl _⟩ (And.intro ⟨rfl, .refl _⟩ (And.intro ⟨rfl, .refl _⟩ (And.intro ⟨rfl, .refl _⟩ (And.intro ⟨rfl, .refl _⟩ (And.intro ⟨rfl, .refl _⟩ (And.intro ⟨rfl, .refl _⟩ (And.intro ⟨rfl, .refl _⟩ (True.intro)))))))))))⟩ (And.intro ⟨_, rfl, And.intro ⟨rfl, .refl _⟩ (And.intro ⟨rfl, .refl _⟩ (And.intro ⟨rfl, .refl _⟩ (And.intro ⟨rfl, .refl _⟩ (And.intro ⟨rfl, .refl _⟩ (And.intro ⟨rfl, .refl _⟩ (And.intro ⟨rfl, .refl _⟩ (And.intro ⟨rfl, .refl _⟩ (And.intro ⟨rfl, .refl _⟩ (And.intro ⟨rfl, .refl _⟩ (And.intro ⟨rfl, .refl _⟩ (True.intro)))))))))))⟩ (And.intro (.inl ⟨_, rfl, id⟩) (True.intro))), rfl⟩ h
  · rintro v36 h
    conv => whnf
    refine ⟨a0.Other.length, List.length_map _, ?_⟩
    conv => whnf
    revert h; refine cut_join (fun v108 => ⟨X :: AV.ref 1 0 :: AV.ref 2 0 :: dd 59 ([]), N :: some (OB.box [AV.d (D.i a0.Origin), AV.own 30 (List.map Segment.toD v36).length, AV.d (D.b a0.Next.V6), AV.d (D.u64 a0.Next.Hi), AV.d (D.u64 a0.Next.Lo), AV.d (D.i a0.MED), AV.d (D.i a0.Pref), AV.d (D.i a0.OTC), AV.d (D.l 2 Community.toD a0.Communities), AV.d (D.l 3 Large.toD a0.Large), AV.own 50 (List.map Unknown.toD v108).length]) :: some (OB.box [AV.d (D.i 0), AV.d (D.nil 2), AV.d (D.b false), AV.d (D.u64 (0 : UInt64)), AV.d (D.u64 (0 : UInt64)), AV.d (D.i 0), AV.d (D.i 0), AV.d (D.i 0), AV.d (D.nil 2), AV.d (D.nil 3), AV.d (D.nil 3)]) :: nn 27 (some (OB.row 59 2 (List.map Segment.toD v36) false) :: nn 19 (some (OB.row 62 3 (List.map Unknown.toD v108) false) :: nn 11 ([])))⟩) ?_ ?_
    · intro k109 h
      conv => whnf
      revert h; refine loop_for 33 3 Unknown.toD rfl (fun i132 v131 => ⟨X :: AV.ref 1 0 :: AV.ref 2 0 :: dd 30 (AV.d (D.l 3 Unknown.toD a0.Other) :: AV.d (D.i (a0.Other.length : Int)) :: AV.d (D.i (i132 : Int)) :: dd 26 ([])), N :: some (OB.box [AV.d (D.i a0.Origin), AV.own 30 (List.map Segment.toD v36).length, AV.d (D.b a0.Next.V6), AV.d (D.u64 a0.Next.Hi), AV.d (D.u64 a0.Next.Lo), AV.d (D.i a0.MED), AV.d (D.i a0.Pref), AV.d (D.i a0.OTC), AV.d (D.l 2 Community.toD a0.Communities), AV.d (D.l 3 Large.toD a0.Large), AV.own 50 (List.map Unknown.toD v131).length]) :: some (OB.box [AV.d (D.i 0), AV.d (D.nil 2), AV.d (D.b false), AV.d (D.u64 (0 : UInt64)), AV.d (D.u64 (0 : UInt64)), AV.d (D.i 0), AV.d (D.i 0), AV.d (D.i 0), AV.d (D.nil 2), AV.d (D.nil 3), AV.d (D.nil 3)]) :: nn 27 (some (OB.row 59 2 (List.map Segment.toD v36) false) :: nn 19 (some (OB.row 62 3 (List.map Unknown.toD v131) false) :: nn 11 ([])))⟩) ⟨rfl, And.intro (.refl _) (And.intro (.refl _) (And.intro (.refl _) (And.intro (.refl _) (And.intro (.refl _) True.intro)))), And.intro ⟨_, rfl, And.intro ⟨rfl, .refl _⟩ (And.intro ⟨rfl, .refl _⟩ (And.intro ⟨rfl, .refl _⟩ (And.intro ⟨rfl, .refl _⟩ (And.intro ⟨rfl, .refl _⟩ (And.intro ⟨rfl, .refl _⟩ (And.intro ⟨rfl, .refl _⟩ (And.intro ⟨rfl, .refl _⟩ (And.intro ⟨rfl, .refl _⟩ (And.intro ⟨rfl, .refl _⟩ (And.intro ⟨rfl, .fresh _ _ _ rfl rfl⟩ (True.intro)))))))))))⟩ (And.intro ⟨_, rfl, And.intro ⟨rfl, .refl _⟩ (And.intro ⟨rfl, .refl _⟩ (And.intro ⟨rfl, .refl _⟩ (And.intro ⟨rfl, .refl _⟩ (And.intro ⟨rfl, .refl _⟩ (And.intro ⟨rfl, .refl _⟩ (And.intro ⟨rfl, .refl _⟩ (And.intro ⟨rfl, .refl _⟩ (And.intro ⟨rfl, .refl _⟩ (And.intro ⟨rfl, .refl _⟩ (And.intro ⟨rfl, .refl _⟩ (True.intro)))))))))))⟩ (And.intro (.inl ⟨_, rfl, id⟩) (And.intro (.inr ⟨rfl, rfl, by decide⟩) (True.intro)))), rfl⟩ ?_ ?_
      · rintro v131 K134 h
        conv => whnf
        refine .go ?_
        conv => whnf
        refine sel_f lt_f ?_
        conv => whnf
        exact join_end (v := v131) ⟨rfl, And.intro (.refl _) (And.intro (.refl _) True.intro), And.intro ⟨_, rfl, And.intro ⟨rfl, .refl _⟩ (And.intro ⟨rfl, .refl _⟩ (And.intro ⟨rfl, .refl _⟩ (And.intro ⟨rfl, .refl _⟩ (And.intro ⟨rfl, .refl _⟩ (And.intro ⟨rfl, .refl _⟩ (And.intro ⟨rfl, .refl _⟩ (And.intro ⟨rfl, .refl _⟩ (And.intro ⟨rfl, .refl _⟩ (And.intro ⟨rfl, .refl _⟩ (And.intro ⟨rfl, .refl _⟩ (True.intro)))))))))))⟩ (And.intro ⟨_, rfl, And.intro ⟨rfl, .refl _⟩ (And.intro ⟨rfl, .refl _⟩ (And.intro ⟨rfl, .refl _⟩ (And.intro ⟨rfl, .refl _⟩ (And.intro ⟨rfl, .refl _⟩ (And.intro ⟨rfl, .refl _⟩ (And.intro ⟨rfl, .refl _⟩ (And.intro ⟨rfl, .refl _⟩ (And.intro ⟨rfl, .refl _⟩ (And.intro ⟨rfl, .refl _⟩ (And.intro ⟨rfl, .refl _⟩ (True.intro)))))))))))⟩ (And.intro (.inl ⟨_, rfl, id⟩) (And.intro (.inl ⟨_, rfl, id⟩) (True.intro)))), rfl⟩ h
      · rintro next136 i132 x133 v131 K134 hii132 hxi132 hwi132 h hK135
        conv => whnf
        refine .go ?_
        conv => whnf
        refine sel_t (lt_t hii132) ?_
        conv => whnf
        refine .go ?_
        conv => whnf
        refine ⟨idx_b (f := Unknown.toD) hii132, Unknown.toD x133, hxi132, rfl, ?_⟩
        conv => whnf
        refine dOB (by kernel_rfl) ?_
        conv => whnf
        replace h := bind_inv h; obtain ⟨v141, g142, h⟩ := h
        refine ⟨_, _, clone_List_byte_ok g142, .inl rfl, ?_⟩
        conv => whnf
        refine ⟨rfl, ?_⟩
        conv => whnf
        replace h := bind_inv h; obtain ⟨v143, g144, h⟩ := h
        refine ⟨rfl, apnd_b (f := Unknown.toD) (g := Unknown.toD) g144, _, apnd_z (f := Unknown.toD) g144, ?_⟩
        conv => whnf
        refine cOB (by kernel_rfl) ?_
        conv => whnf
        refine ⟨_, hwi132, ?_⟩
        conv => whnf
        exact hK135 _ v143 ⟨rfl, And.intro (.refl _) (And.intro (.refl _) (And.intro (.refl _) (And.intro (.refl _) (And.intro (.refl _) True.intro)))), And.intro ⟨_, rfl, And.intro ⟨rfl, .refl _⟩ (And.intro ⟨rfl, .refl _⟩ (And.intro ⟨rfl, .refl _⟩ (And.intro ⟨rfl, .refl _⟩ (And.intro ⟨rfl, .refl _⟩ (And.intro ⟨rfl, .refl _⟩ (And.intro ⟨rfl, .refl _⟩ (And.intro ⟨rfl, .refl _⟩ (And.intro ⟨rfl, .refl _⟩ (And.intro ⟨rfl, .refl _⟩ (And.intro ⟨rfl, .refl _⟩ (True.intro)))))))))))⟩ (And.intro ⟨_, rfl, And.intro ⟨rfl, .refl _⟩ (And.intro ⟨rfl, .refl _⟩ (And.intro ⟨rfl, .refl _⟩ (And.intro ⟨rfl, .refl _⟩ (And.intro ⟨rfl, .refl _⟩ (And.intro ⟨rfl, .refl _⟩ (And.intro ⟨rfl, .refl _⟩ (And.intro ⟨rfl, .refl _⟩ (And.intro ⟨rfl, .refl _⟩ (And.intro ⟨rfl, .refl _⟩ (And.intro ⟨rfl, .refl _⟩ (True.intro)))))))))))⟩ (And.intro (.inl ⟨_, rfl, id⟩) (And.intro (.inl ⟨_, rfl, id⟩) (True.intro)))), rfl⟩ h
    · rintro v108 h
      conv => whnf
      refine dOB (by kernel_rfl) ?_
      conv => whnf
      replace h := bind_inv h; obtain ⟨v145, g146, h⟩ := h
      refine ⟨_, _, clone_List_api_Community_ok g146, .inl rfl, ?_⟩
      conv => whnf
      replace h := bind_inv h; obtain ⟨v147, g148, h⟩ := h
      refine ⟨_, _, clone_List_api_Large_ok g148, .inl rfl, ?_⟩
      conv => whnf
      refine cOB (by kernel_rfl) ?_
      conv => whnf
      refine ⟨rfl, ?_⟩
      conv => whnf
      refine ⟨rfl, ?_⟩
      conv => whnf
      cases h
      exact ⟨rfl, rfl⟩

theorem role_Receive_ok {a0 : Int} {a1 : Int} {a2 : Attrs} {r : Attrs × Int} (h : role_Receive a0 a1 a2 = some r) : CallsOK Try.prog 17 [AV.d (D.i a0), AV.d (D.i a1), AV.d (Attrs.toD a2)] [] (.tup [.d (Attrs.toD r.1), .d (D.i r.2)]) [] := by
  refine ok Try.f17 (by kernel_rfl) (by kernel_rfl) ⟨rfl, ?_⟩
  unfold role_Receive at h
  conv => whnf
  revert h; refine cut_join (fun v5 => ⟨AV.d (D.i a0) :: AV.d (D.i a1) :: X :: X :: X :: AV.ref 5 0 :: AV.ref 6 0 :: dd 11 (AV.d (D.b v5) :: dd 39 ([])), nn 5 (some (OB.box [AV.d (D.i a2.Origin), AV.d (D.l 2 Segment.toD a2.Path), AV.d (D.b a2.Next.V6), AV.d (D.u64 a2.Next.Hi), AV.d (D.u64 a2.Next.Lo), AV.d (D.i a2.MED), AV.d (D.i a2.Pref), AV.d (D.i a2.OTC), AV.d (D.l 2 Community.toD a2.Communities), AV.d (D.l 3 Large.toD a2.Large), AV.d (D.l 3 Unknown.toD a2.Other)]) :: some (OB.box [AV.d (D.i 0), AV.d (D.nil 2), AV.d (D.b false), AV.d (D.u64 (0 : UInt64)), AV.d (D.u64 (0 : UInt64)), AV.d (D.i 0), AV.d (D.i 0), AV.d (D.i 0), AV.d (D.nil 2), AV.d (D.nil 3), AV.d (D.nil 3)]) :: nn 51 ([]))⟩) ?_ ?_
  · intro k6 h
    conv => whnf
    replace h := bind_inv h; obtain ⟨v7, g8, h⟩ := h
    refine ⟨_, _, role_known_ok g8, .inl rfl, ?_⟩
    conv => whnf
    revert h; refine sel_if ?_ ?_ <;> intro h
    · conv => whnf
      exact join_end (v := true) ⟨rfl, And.intro (.refl _) (And.intro (.refl _) (And.intro (.refl _) (And.intro (.refl _) (And.intro (.refl _) True.intro)))), And.intro ⟨_, rfl, And.intro ⟨rfl, .refl _⟩ (And.intro ⟨rfl, .refl _⟩ (And.intro ⟨rfl, .refl _⟩ (And.intro ⟨rfl, .refl _⟩ (And.intro ⟨rfl, .refl _⟩ (And.intro ⟨rfl, .refl _⟩ (And.intro ⟨rfl, .refl _⟩ (And.intro ⟨rfl, .refl _⟩ (And.intro ⟨rfl, .refl _⟩ (And.intro ⟨rfl, .refl _⟩ (And.intro ⟨rfl, .refl _⟩ (True.intro)))))))))))⟩ (And.intro ⟨_, rfl, And.intro ⟨rfl, .refl _⟩ (And.intro ⟨rfl, .refl _⟩ (And.intro ⟨rfl, .refl _⟩ (And.intro ⟨rfl, .refl _⟩ (And.intro ⟨rfl, .refl _⟩ (And.intro ⟨rfl, .refl _⟩ (And.intro ⟨rfl, .refl _⟩ (And.intro ⟨rfl, .refl _⟩ (And.intro ⟨rfl, .refl _⟩ (And.intro ⟨rfl, .refl _⟩ (And.intro ⟨rfl, .refl _⟩ (True.intro)))))))))))⟩ (True.intro)), rfl⟩ h
    · conv => whnf
      replace h := bind_inv h; obtain ⟨v9, g10, h⟩ := h
      refine ⟨_, _, role_number_ok g10, .inl rfl, ?_⟩
      conv => whnf
      exact join_end (v := (!v9)) ⟨rfl, And.intro (.refl _) (And.intro (.refl _) (And.intro (.refl _) (And.intro (.refl _) (And.intro (.refl _) True.intro)))), And.intro ⟨_, rfl, And.intro ⟨rfl, .refl _⟩ (And.intro ⟨rfl, .refl _⟩ (And.intro ⟨rfl, .refl _⟩ (And.intro ⟨rfl, .refl _⟩ (And.intro ⟨rfl, .refl _⟩ (And.intro ⟨rfl, .refl _⟩ (And.intro ⟨rfl, .refl _⟩ (And.intro ⟨rfl, .refl _⟩ (And.intro ⟨rfl, .refl _⟩ (And.intro ⟨rfl, .refl _⟩ (And.intro ⟨rfl, .refl _⟩ (True.intro)))))))))))⟩ (And.intro ⟨_, rfl, And.intro ⟨rfl, .refl _⟩ (And.intro ⟨rfl, .refl _⟩ (And.intro ⟨rfl, .refl _⟩ (And.intro ⟨rfl, .refl _⟩ (And.intro ⟨rfl, .refl _⟩ (And.intro ⟨rfl, .refl _⟩ (And.intro ⟨rfl, .refl _⟩ (And.intro ⟨rfl, .refl _⟩ (And.intro ⟨rfl, .refl _⟩ (And.intro ⟨rfl, .refl _⟩ (And.intro ⟨rfl, .refl _⟩ (True.intro)))))))))))⟩ (True.intro)), rfl⟩ h
  · rintro v5 h
    conv => whnf
    refine .go ?_
    conv => whnf
    revert h; refine sel_if ?_ ?_ <;> intro h
    · conv => whnf
      cases h
      exact ⟨rfl, rfl⟩
    · conv => whnf
      revert h; refine cut_join (fun v11 => ⟨AV.d (D.i a0) :: AV.d (D.i a1) :: X :: X :: X :: AV.ref 5 0 :: AV.ref 6 0 :: X :: AV.d (D.b (a2.OTC != (-1))) :: AV.d (D.b v11) :: dd 48 ([]), nn 5 (some (OB.box [AV.d (D.i a2.Origin), AV.d (D.l 2 Segment.toD a2.Path), AV.d (D.b a2.Next.V6), AV.d (D.u64 a2.Next.Hi), AV.d (D.u64 a2.Next.Lo), AV.d (D.i a2.MED), AV.d (D.i a2.Pref), AV.d (D.i a2.OTC), AV.d (D.l 2 Community.toD a2.Communities), AV.d (D.l 3 Large.toD a2.Large), AV.d (D.l 3 Unknown.toD a2.Other)]) :: some (OB.box [AV.d (D.i 0), AV.d (D.nil 2), AV.d (D.b false), AV.d (D.u64 (0 : UInt64)), AV.d (D.u64 (0 : UInt64)), AV.d (D.i 0), AV.d (D.i 0), AV.d (D.i 0), AV.d (D.nil 2), AV.d (D.nil 3), AV.d (D.nil 3)]) :: nn 51 ([]))⟩) ?_ ?_
      · intro k12 h
        conv => whnf
        revert h; refine sel_if ?_ ?_ <;> intro h
        · conv => whnf
          exact join_end (v := true) ⟨rfl, And.intro (.refl _) (And.intro (.refl _) (And.intro (.refl _) (And.intro (.refl _) (And.intro (.refl _) (And.intro (.refl _) True.intro))))), And.intro ⟨_, rfl, And.intro ⟨rfl, .refl _⟩ (And.intro ⟨rfl, .refl _⟩ (And.intro ⟨rfl, .refl _⟩ (And.intro ⟨rfl, .refl _⟩ (And.intro ⟨rfl, .refl _⟩ (And.intro ⟨rfl, .refl _⟩ (And.intro ⟨rfl, .refl _⟩ (And.intro ⟨rfl, .refl _⟩ (And.intro ⟨rfl, .refl _⟩ (And.intro ⟨rfl, .refl _⟩ (And.intro ⟨rfl, .refl _⟩ (True.intro)))))))))))⟩ (And.intro ⟨_, rfl, And.intro ⟨rfl, .refl _⟩ (And.intro ⟨rfl, .refl _⟩ (And.intro ⟨rfl, .refl _⟩ (And.intro ⟨rfl, .refl _⟩ (And.intro ⟨rfl, .refl _⟩ (And.intro ⟨rfl, .refl _⟩ (And.intro ⟨rfl, .refl _⟩ (And.intro ⟨rfl, .refl _⟩ (And.intro ⟨rfl, .refl _⟩ (And.intro ⟨rfl, .refl _⟩ (And.intro ⟨rfl, .refl _⟩ (True.intro)))))))))))⟩ (True.intro)), rfl⟩ h
        · conv => whnf
          exact join_end (v := (a0 == 1)) ⟨rfl, And.intro (.refl _) (And.intro (.refl _) (And.intro (.refl _) (And.intro (.refl _) (And.intro (.refl _) (And.intro (.refl _) True.intro))))), And.intro ⟨_, rfl, And.intro ⟨rfl, .refl _⟩ (And.intro ⟨rfl, .refl _⟩ (And.intro ⟨rfl, .refl _⟩ (And.intro ⟨rfl, .refl _⟩ (And.intro ⟨rfl, .refl _⟩ (And.intro ⟨rfl, .refl _⟩ (And.intro ⟨rfl, .refl _⟩ (And.intro ⟨rfl, .refl _⟩ (And.intro ⟨rfl, .refl _⟩ (And.intro ⟨rfl, .refl _⟩ (And.intro ⟨rfl, .refl _⟩ (True.intro)))))))))))⟩ (And.intro ⟨_, rfl, And.intro ⟨rfl, .refl _⟩ (And.intro ⟨rfl, .refl _⟩ (And.intro ⟨rfl, .refl _⟩ (And.intro ⟨rfl, .refl _⟩ (And.intro ⟨rfl, .refl _⟩ (And.intro ⟨rfl, .refl _⟩ (And.intro ⟨rfl, .refl _⟩ (And.intro ⟨rfl, .refl _⟩ (And.intro ⟨rfl, .refl _⟩ (And.intro ⟨rfl, .refl _⟩ (And.intro ⟨rfl, .refl _⟩ (True.intro)))))))))))⟩ (True.intro)), rfl⟩ h
      · rintro v11 h
        conv => whnf
        revert h; refine cut_join (fun v13 => ⟨X :: AV.d (D.i a1) :: X :: X :: X :: AV.ref 5 0 :: AV.ref 6 0 :: X :: AV.d (D.b (a2.OTC != (-1))) :: AV.d (D.b v11) :: dd 35 (AV.d (D.b v13) :: dd 12 ([])), nn 5 (some (OB.box [AV.d (D.i a2.Origin), AV.d (D.l 2 Segment.toD a2.Path), AV.d (D.b a2.Next.V6), AV.d (D.u64 a2.Next.Hi), AV.d (D.u64 a2.Next.Lo), AV.d (D.i a2.MED), AV.d (D.i a2.Pref), AV.d (D.i a2.OTC), AV.d (D.l 2 Community.toD a2.Communities), AV.d (D.l 3 Large.toD a2.Large), AV.d (D.l 3 Unknown.toD a2.Other)]) :: some (OB.box [AV.d (D.i 0), AV.d (D.nil 2), AV.d (D.b false), AV.d (D.u64 (0 : UInt64)), AV.d (D.u64 (0 : UInt64)), AV.d (D.i 0), AV.d (D.i 0), AV.d (D.i 0), AV.d (D.nil 2), AV.d (D.nil 3), AV.d (D.nil 3)]) :: nn 51 ([]))⟩) ?_ ?_
        · intro k14 h
          conv => whnf
          revert h; refine sel_if ?_ ?_ <;> intro h
          · conv => whnf
            revert h; refine sel_if ?_ ?_ <;> intro h
            · conv => whnf
              exact join_end (v := true) ⟨rfl, And.intro (.refl _) (And.intro (.refl _) (And.intro (.refl _) (And.intro (.refl _) (And.intro (.refl _) (And.intro (.refl _) True.intro))))), And.intro ⟨_, rfl, And.intro ⟨rfl, .refl _⟩ (And.intro ⟨rfl, .refl _⟩ (And.intro ⟨rfl, .refl _⟩ (And.intro ⟨rfl, .refl _⟩ (And.intro ⟨rfl, .refl _⟩ (And.intro ⟨rfl, .refl _⟩ (And.intro ⟨rfl, .refl _⟩ (And.intro ⟨rfl, .refl _⟩ (And.intro ⟨rfl, .refl _⟩ (And.intro ⟨rfl, .refl _⟩ (And.intro ⟨rfl, .refl _⟩ (True.intro)))))))))))⟩ (And.intro ⟨_, rfl, And.intro ⟨rfl, .refl _⟩ (And.intro ⟨rfl, .refl _⟩ (And.intro ⟨rfl, .refl _⟩ (And.intro ⟨rfl, .refl _⟩ (And.intro ⟨rfl, .refl _⟩ (And.intro ⟨rfl, .refl _⟩ (And.intro ⟨rfl, .refl _⟩ (And.intro ⟨rfl, .refl _⟩ (And.intro ⟨rfl, .refl _⟩ (And.intro ⟨rfl, .refl _⟩ (And.intro ⟨rfl, .refl _⟩ (True.intro)))))))))))⟩ (True.intro)), rfl⟩ h
            · conv => whnf
              revert h; refine sel_if ?_ ?_ <;> intro h
              · conv => whnf
                revert h; refine sel_if ?_ ?_ <;> intro h
                · conv => whnf
                  exact join_end (v := (a2.OTC != a1)) ⟨rfl, And.intro (.refl _) (And.intro (.refl _) (And.intro (.refl _) (And.intro (.refl _) (And.intro (.refl _) (And.intro (.refl _) True.intro))))), And.intro ⟨_, rfl, And.intro ⟨rfl, .refl _⟩ (And.intro ⟨rfl, .refl _⟩ (And.intro ⟨rfl, .refl _⟩ (And.intro ⟨rfl, .refl _⟩ (And.intro ⟨rfl, .refl _⟩ (And.intro ⟨rfl, .refl _⟩ (And.intro ⟨rfl, .refl _⟩ (And.intro ⟨rfl, .refl _⟩ (And.intro ⟨rfl, .refl _⟩ (And.intro ⟨rfl, .refl _⟩ (And.intro ⟨rfl, .refl _⟩ (True.intro)))))))))))⟩ (And.intro ⟨_, rfl, And.intro ⟨rfl, .refl _⟩ (And.intro ⟨rfl, .refl _⟩ (And.intro ⟨rfl, .refl _⟩ (And.intro ⟨rfl, .refl _⟩ (And.intro ⟨rfl, .refl _⟩ (And.intro ⟨rfl, .refl _⟩ (And.intro ⟨rfl, .refl _⟩ (And.intro ⟨rfl, .refl _⟩ (And.intro ⟨rfl, .refl _⟩ (And.intro ⟨rfl, .refl _⟩ (And.intro ⟨rfl, .refl _⟩ (True.intro)))))))))))⟩ (True.intro)), rfl⟩ h
                · conv => whnf
                  exact join_end (v := false) ⟨rfl, And.intro (.refl _) (And.intro (.refl _) (And.intro (.refl _) (And.intro (.refl _) (And.intro (.refl _) (And.intro (.refl _) True.intro))))), And.intro ⟨_, rfl, And.intro ⟨rfl, .refl _⟩ (And.intro ⟨rfl, .refl _⟩ (And.intro ⟨rfl, .refl _⟩ (And.intro ⟨rfl, .refl _⟩ (And.intro ⟨rfl, .refl _⟩ (And.intro ⟨rfl, .refl _⟩ (And.intro ⟨rfl, .refl _⟩ (And.intro ⟨rfl, .refl _⟩ (And.intro ⟨rfl, .refl _⟩ (And.intro ⟨rfl, .refl _⟩ (And.intro ⟨rfl, .refl _⟩ (True.intro)))))))))))⟩ (And.intro ⟨_, rfl, And.intro ⟨rfl, .refl _⟩ (And.intro ⟨rfl, .refl _⟩ (And.intro ⟨rfl, .refl _⟩ (And.intro ⟨rfl, .refl _⟩ (And.intro ⟨rfl, .refl _⟩ (And.intro ⟨rfl, .refl _⟩ (And.intro ⟨rfl, .refl _⟩ (And.intro ⟨rfl, .refl _⟩ (And.intro ⟨rfl, .refl _⟩ (And.intro ⟨rfl, .refl _⟩ (And.intro ⟨rfl, .refl _⟩ (True.intro)))))))))))⟩ (True.intro)), rfl⟩ h
              · conv => whnf
                exact join_end (v := false) ⟨rfl, And.intro (.refl _) (And.intro (.refl _) (And.intro (.refl _) (And.intro (.refl _) (And.intro (.refl _) (And.intro (.refl _) True.intro))))), And.intro ⟨_, rfl, And.intro ⟨rfl, .refl _⟩ (And.intro ⟨rfl, .refl _⟩ (And.intro ⟨rfl, .refl _⟩ (And.intro ⟨rfl, .refl _⟩ (And.intro ⟨rfl, .refl _⟩ (And.intro ⟨rfl, .refl _⟩ (And.intro ⟨rfl, .refl _⟩ (And.intro ⟨rfl, .refl _⟩ (And.intro ⟨rfl, .refl _⟩ (And.intro ⟨rfl, .refl _⟩ (And.intro ⟨rfl, .refl _⟩ (True.intro)))))))))))⟩ (And.intro ⟨_, rfl, And.intro ⟨rfl, .refl _⟩ (And.intro ⟨rfl, .refl _⟩ (And.intro ⟨rfl, .refl _⟩ (And.intro ⟨rfl, .refl _⟩ (And.intro ⟨rfl, .refl _⟩ (And.intro ⟨rfl, .refl _⟩ (And.intro ⟨rfl, .refl _⟩ (And.intro ⟨rfl, .refl _⟩ (And.intro ⟨rfl, .refl _⟩ (And.intro ⟨rfl, .refl _⟩ (And.intro ⟨rfl, .refl _⟩ (True.intro)))))))))))⟩ (True.intro)), rfl⟩ h
          · conv => whnf
            revert h; refine sel_if ?_ ?_ <;> intro h
            · conv => whnf
              revert h; refine sel_if ?_ ?_ <;> intro h
              · conv => whnf
                exact join_end (v := (a2.OTC != a1)) ⟨rfl, And.intro (.refl _) (And.intro (.refl _) (And.intro (.refl _) (And.intro (.refl _) (And.intro (.refl _) (And.intro (.refl _) True.intro))))), And.intro ⟨_, rfl, And.intro ⟨rfl, .refl _⟩ (And.intro ⟨rfl, .refl _⟩ (And.intro ⟨rfl, .refl _⟩ (And.intro ⟨rfl, .refl _⟩ (And.intro ⟨rfl, .refl _⟩ (And.intro ⟨rfl, .refl _⟩ (And.intro ⟨rfl, .refl _⟩ (And.intro ⟨rfl, .refl _⟩ (And.intro ⟨rfl, .refl _⟩ (And.intro ⟨rfl, .refl _⟩ (And.intro ⟨rfl, .refl _⟩ (True.intro)))))))))))⟩ (And.intro ⟨_, rfl, And.intro ⟨rfl, .refl _⟩ (And.intro ⟨rfl, .refl _⟩ (And.intro ⟨rfl, .refl _⟩ (And.intro ⟨rfl, .refl _⟩ (And.intro ⟨rfl, .refl _⟩ (And.intro ⟨rfl, .refl _⟩ (And.intro ⟨rfl, .refl _⟩ (And.intro ⟨rfl, .refl _⟩ (And.intro ⟨rfl, .refl _⟩ (And.intro ⟨rfl, .refl _⟩ (And.intro ⟨rfl, .refl _⟩ (True.intro)))))))))))⟩ (True.intro)), rfl⟩ h
              · conv => whnf
                exact join_end (v := false) ⟨rfl, And.intro (.refl _) (And.intro (.refl _) (And.intro (.refl _) (And.intro (.refl _) (And.intro (.refl _) (And.intro (.refl _) True.intro))))), And.intro ⟨_, rfl, And.intro ⟨rfl, .refl _⟩ (And.intro ⟨rfl, .refl _⟩ (And.intro ⟨rfl, .refl _⟩ (And.intro ⟨rfl, .refl _⟩ (And.intro ⟨rfl, .refl _⟩ (And.intro ⟨rfl, .refl _⟩ (And.intro ⟨rfl, .refl _⟩ (And.intro ⟨rfl, .refl _⟩ (And.intro ⟨rfl, .refl _⟩ (And.intro ⟨rfl, .refl _⟩ (And.intro ⟨rfl, .refl _⟩ (True.intro)))))))))))⟩ (And.intro ⟨_, rfl, And.intro ⟨rfl, .refl _⟩ (And.intro ⟨rfl, .refl _⟩ (And.intro ⟨rfl, .refl _⟩ (And.intro ⟨rfl, .refl _⟩ (And.intro ⟨rfl, .refl _⟩ (And.intro ⟨rfl, .refl _⟩ (And.intro ⟨rfl, .refl _⟩ (And.intro ⟨rfl, .refl _⟩ (And.intro ⟨rfl, .refl _⟩ (And.intro ⟨rfl, .refl _⟩ (And.intro ⟨rfl, .refl _⟩ (True.intro)))))))))))⟩ (True.intro)), rfl⟩ h
            · conv => whnf
              exact join_end (v := false) ⟨rfl, And.intro (.refl _) (And.intro (.refl _) (And.intro (.refl _) (And.intro (.refl _) (And.intro (.refl _) (And.intro (.refl _) True.intro))))), And.intro ⟨_, rfl, And.intro ⟨rfl, .refl _⟩ (And.intro ⟨rfl, .refl _⟩ (And.intro ⟨rfl, .refl _⟩ (And.intro ⟨rfl, .refl _⟩ (And.intro ⟨rfl, .refl _⟩ (And.intro ⟨rfl, .refl _⟩ (And.intro ⟨rfl, .refl _⟩ (And.intro ⟨rfl, .refl _⟩ (And.intro ⟨rfl, .refl _⟩ (And.intro ⟨rfl, .refl _⟩ (And.intro ⟨rfl, .refl _⟩ (True.intro)))))))))))⟩ (And.intro ⟨_, rfl, And.intro ⟨rfl, .refl _⟩ (And.intro ⟨rfl, .refl _⟩ (And.intro ⟨rfl, .refl _⟩ (And.intro ⟨rfl, .refl _⟩ (And.intro ⟨rfl, .refl _⟩ (And.intro ⟨rfl, .refl _⟩ (And.intro ⟨rfl, .refl _⟩ (And.intro ⟨rfl, .refl _⟩ (And.intro ⟨rfl, .refl _⟩ (And.intro ⟨rfl, .refl _⟩ (And.intro ⟨rfl, .refl _⟩ (True.intro)))))))))))⟩ (True.intro)), rfl⟩ h
        · rintro v13 h
          conv => whnf
          refine .go ?_
          conv => whnf
          revert h; refine sel_if ?_ ?_ <;> intro h
          · conv => whnf
            cases h
            exact ⟨rfl, rfl⟩
          · conv => whnf
            replace h := bind_inv h; obtain ⟨v15, g16, h⟩ := h
            refine ⟨_, _, clone_Attrs_ok g16, .inl rfl, ?_⟩
            conv => whnf
            revert h; refine cut_join (fun v17 => ⟨X :: AV.d (D.i a1) :: dd 4 (AV.ref 6 0 :: X :: X :: X :: AV.ref 10 0 :: dd 43 (AV.d (D.b v17) :: X :: X :: X :: [])), nn 6 (some (OB.box [AV.d (D.i 0), AV.d (D.nil 2), AV.d (D.b false), AV.d (D.u64 (0 : UInt64)), AV.d (D.u64 (0 : UInt64)), AV.d (D.i 0), AV.d (D.i 0), AV.d (D.i 0), AV.d (D.nil 2), AV.d (D.nil 3), AV.d (D.nil 3)]) :: N :: N :: N :: some (OB.box [AV.d (D.i v15.Origin), AV.d (D.l 2 Segment.toD v15.Path), AV.d (D.b v15.Next.V6), AV.d (D.u64 v15.Next.Hi), AV.d (D.u64 v15.Next.Lo), AV.d (D.i v15.MED), AV.d (D.i v15.Pref), AV.d (D.i v15.OTC), AV.d (D.l 2 Community.toD v15.Communities), AV.d (D.l 3 Large.toD v15.Large), AV.d (D.l 3 Unknown.toD v15.Other)]) :: nn 47 ([]))⟩) ?_ ?_
            · intro k18 h
              conv => whnf
              revert h; refine sel_if ?_ ?_ <;> intro h
              · conv => whnf
                exact join_end (v := (!v11)) ⟨rfl, And.intro (.refl _) (And.intro (.refl _) (And.intro (.refl _) (And.intro (.refl _) True.intro))), And.intro ⟨_, rfl, And.intro ⟨rfl, .refl _⟩ (And.intro ⟨rfl, .refl _⟩ (And.intro ⟨rfl, .refl _⟩ (And.intro ⟨rfl, .refl _⟩ (And.intro ⟨rfl, .refl _⟩ (And.intro ⟨rfl, .refl _⟩ (And.intro ⟨rfl, .refl _⟩ (And.intro ⟨rfl, .refl _⟩ (And.intro ⟨rfl, .refl _⟩ (And.intro ⟨rfl, .refl _⟩ (And.intro ⟨rfl, .refl _⟩ (True.intro)))))))))))⟩ (And.intro ⟨_, rfl, And.intro ⟨rfl, .refl _⟩ (And.intro ⟨rfl, .refl _⟩ (And.intro ⟨rfl, .refl _⟩ (And.intro ⟨rfl, .refl _⟩ (And.intro ⟨rfl, .refl _⟩ (And.intro ⟨rfl, .refl _⟩ (And.intro ⟨rfl, .refl _⟩ (And.intro ⟨rfl, .refl _⟩ (And.intro ⟨rfl, .refl _⟩ (And.intro ⟨rfl, .refl _⟩ (And.intro ⟨rfl, .refl _⟩ (True.intro)))))))))))⟩ (True.intro)), rfl⟩ h
              · conv => whnf
                exact join_end (v := false) ⟨rfl, And.intro (.refl _) (And.intro (.refl _) (And.intro (.refl _) (And.intro (.refl _) True.intro))), And.intro ⟨_, rfl, And.intro ⟨rfl, .refl _⟩ (And.intro ⟨rfl, .refl _⟩ (And.intro ⟨rfl, .refl _⟩ (And.intro ⟨rfl, .refl _⟩ (And.intro ⟨rfl, .refl _⟩ (And.intro ⟨rfl, .refl _⟩ (And.intro ⟨rfl, .refl _⟩ (And.intro ⟨rfl, .refl _⟩ (And.intro ⟨rfl, .refl _⟩ (And.intro ⟨rfl, .refl _⟩ (And.intro ⟨rfl, .refl _⟩ (True.intro)))))))))))⟩ (And.intro ⟨_, rfl, And.intro ⟨rfl, .refl _⟩ (And.intro ⟨rfl, .refl _⟩ (And.intro ⟨rfl, .refl _⟩ (And.intro ⟨rfl, .refl _⟩ (And.intro ⟨rfl, .refl _⟩ (And.intro ⟨rfl, .refl _⟩ (And.intro ⟨rfl, .refl _⟩ (And.intro ⟨rfl, .refl _⟩ (And.intro ⟨rfl, .refl _⟩ (And.intro ⟨rfl, .refl _⟩ (And.intro ⟨rfl, .refl _⟩ (True.intro)))))))))))⟩ (True.intro)), rfl⟩ h
            · rintro v17 h
              conv => whnf
              revert h; refine cut_join (fun v19 => ⟨dd 6 (AV.ref 6 0 :: X :: X :: X :: AV.ref 10 0 :: dd 47 ([])), nn 6 (some (OB.box [AV.d (D.i 0), AV.d (D.nil 2), AV.d (D.b false), AV.d (D.u64 (0 : UInt64)), AV.d (D.u64 (0 : UInt64)), AV.d (D.i 0), AV.d (D.i 0), AV.d (D.i 0), AV.d (D.nil 2), AV.d (D.nil 3), AV.d (D.nil 3)]) :: N :: N :: N :: some (OB.box [AV.d (D.i v15.Origin), AV.d (D.l 2 Segment.toD v15.Path), AV.d (D.b v15.Next.V6), AV.d (D.u64 v15.Next.Hi), AV.d (D.u64 v15.Next.Lo), AV.d (D.i v15.MED), AV.d (D.i v15.Pref), AV.d (D.i v19), AV.d (D.l 2 Community.toD v15.Communities), AV.d (D.l 3 Large.toD v15.Large), AV.d (D.l 3 Unknown.toD v15.Other)]) :: nn 47 ([]))⟩) ?_ ?_
              · intro k20 h
                conv => whnf
                revert h; refine sel_if ?_ ?_ <;> intro h
                · conv => whnf
                  exact join_end (v := a1) ⟨rfl, And.intro (.refl _) (And.intro (.refl _) True.intro), And.intro ⟨_, rfl, And.intro ⟨rfl, .refl _⟩ (And.intro ⟨rfl, .refl _⟩ (And.intro ⟨rfl, .refl _⟩ (And.intro ⟨rfl, .refl _⟩ (And.intro ⟨rfl, .refl _⟩ (And.intro ⟨rfl, .refl _⟩ (And.intro ⟨rfl, .refl _⟩ (And.intro ⟨rfl, .refl _⟩ (And.intro ⟨rfl, .refl _⟩ (And.intro ⟨rfl, .refl _⟩ (And.intro ⟨rfl, .refl _⟩ (True.intro)))))))))))⟩ (And.intro ⟨_, rfl, And.intro ⟨rfl, .refl _⟩ (And.intro ⟨rfl, .refl _⟩ (And.intro ⟨rfl, .refl _⟩ (And.intro ⟨rfl, .refl _⟩ (And.intro ⟨rfl, .refl _⟩ (And.intro ⟨rfl, .refl _⟩ (And.intro ⟨rfl, .refl _⟩ (And.intro ⟨rfl, .refl _⟩ (And.intro ⟨rfl, .refl _⟩ (And.intro ⟨rfl, .refl _⟩ (And.intro ⟨rfl, .refl _⟩ (True.intro)))))))))))⟩ (True.intro)), rfl⟩ h
                · conv => whnf
                  exact join_end (v := v15.OTC) ⟨rfl, And.intro (.refl _) (And.intro (.refl _) True.intro), And.intro ⟨_, rfl, And.intro ⟨rfl, .refl _⟩ (And.intro ⟨rfl, .refl _⟩ (And.intro ⟨rfl, .refl _⟩ (And.intro ⟨rfl, .refl _⟩ (And.intro ⟨rfl, .refl _⟩ (And.intro ⟨rfl, .refl _⟩ (And.intro ⟨rfl, .refl _⟩ (And.intro ⟨rfl, .refl _⟩ (And.intro ⟨rfl, .refl _⟩ (And.intro ⟨rfl, .refl _⟩ (And.intro ⟨rfl, .refl _⟩ (True.intro)))))))))))⟩ (And.intro ⟨_, rfl, And.intro ⟨rfl, .refl _⟩ (And.intro ⟨rfl, .refl _⟩ (And.intro ⟨rfl, .refl _⟩ (And.intro ⟨rfl, .refl _⟩ (And.intro ⟨rfl, .refl _⟩ (And.intro ⟨rfl, .refl _⟩ (And.intro ⟨rfl, .refl _⟩ (And.intro ⟨rfl, .refl _⟩ (And.intro ⟨rfl, .refl _⟩ (And.intro ⟨rfl, .refl _⟩ (And.intro ⟨rfl, .refl _⟩ (True.intro)))))))))))⟩ (True.intro)), rfl⟩ h
              · rintro v19 h
                conv => whnf
                cases h
                exact ⟨rfl, rfl⟩
end Go.AX.Q23
