/-
  The functions do what their plain forms say (proofs written by a program of mine), part 5.
-/
import Derived.Test.YtoankoojoeaooaaQ23P4
namespace Go.AX.Q23
open Go Go.AX Go.Proofs
set_option maxRecDepth 100000
set_option maxHeartbeats 4000000
set_option linter.unusedVariables false
theorem ref23_bad_ok {a0 : Int} {a1 : Int} {r : Bool} (h : ref23_bad a0 a1 = some r) : CallsOK Try.prog 36 [AV.d (D.i a0), AV.d (D.i a1)] [] (.d (D.b r)) [] := by
  refine ok Try.f36 (by kernel_rfl) (by kernel_rfl) ⟨rfl, ?_⟩
  unfold ref23_bad at h
  conv => whnf
  revert h; refine cut_join (fun v3 => ⟨dd 4 (AV.d (D.b v3) :: dd 11 ([])), nn 16 ([])⟩) ?_ ?_
  · intro k4 h
    conv => whnf
    replace h := bind_inv h; obtain ⟨v5, g6, h⟩ := h
    refine ⟨_, _, ref23_Inverse_ok g6, .inl rfl, ?_⟩
    conv => whnf
    revert h; refine sel_if ?_ ?_ <;> intro h
    · conv => whnf
      exact join_end (v := true) ⟨rfl, And.intro (.refl _) True.intro, True.intro, rfl⟩ h
    · conv => whnf
      revert h; refine sel_if ?_ ?_ <;> intro h
      · conv => whnf
        exact join_end (v := true) ⟨rfl, And.intro (.refl _) True.intro, True.intro, rfl⟩ h
      · conv => whnf
        exact join_end (v := (decide (a1 > 4294967295))) ⟨rfl, And.intro (.refl _) True.intro, True.intro, rfl⟩ h
  · rintro v3 h
    conv => whnf
    cases h
    exact ⟨rfl, rfl⟩

theorem ref23_Receive_ok {a0 : Int} {a1 : Int} {a2 : Attrs} {r : Attrs × Int} (h : ref23_Receive a0 a1 a2 = some r) : CallsOK Try.prog 18 [AV.d (D.i a0), AV.d (D.i a1), AV.d (Attrs.toD a2)] [] (.tup [.d (Attrs.toD r.1), .d (D.i r.2)]) [] := by
  refine ok Try.f18 (by kernel_rfl) (by kernel_rfl) ⟨rfl, ?_⟩
  unfold ref23_Receive at h
  conv => whnf
  replace h := bind_inv h; obtain ⟨v1, g2, h⟩ := h
  refine ⟨_, _, ref23_bad_ok g2, .inl rfl, ?_⟩
  conv => whnf
  refine .go ?_
  conv => whnf
  revert h; refine sel_if ?_ ?_ <;> intro h
  · conv => whnf
    cases h
    exact ⟨rfl, rfl⟩
  · conv => whnf
    revert h; refine cut_join (fun v3 => ⟨AV.d (D.i a0) :: AV.d (D.i a1) :: X :: X :: X :: AV.ref 5 0 :: AV.ref 6 0 :: X :: AV.d (D.b v3) :: dd 41 ([]), nn 5 (some (OB.box [AV.d (D.i a2.Origin), AV.d (D.l 2 Segment.toD a2.Path), AV.d (D.b a2.Next.V6), AV.d (D.u64 a2.Next.Hi), AV.d (D.u64 a2.Next.Lo), AV.d (D.i a2.MED), AV.d (D.i a2.Pref), AV.d (D.i a2.OTC), AV.d (D.l 2 Community.toD a2.Communities), AV.d (D.l 3 Large.toD a2.Large), AV.d (D.l 3 Unknown.toD a2.Other)]) :: some (OB.box [AV.d (D.i 0), AV.d (D.nil 2), AV.d (D.b false), AV.d (D.u64 (0 : UInt64)), AV.d (D.u64 (0 : UInt64)), AV.d (D.i 0), AV.d (D.i 0), AV.d (D.i 0), AV.d (D.nil 2), AV.d (D.nil 3), AV.d (D.nil 3)]) :: nn 43 ([]))⟩) ?_ ?_
    · intro k4 h
      conv => whnf
      revert h; refine sel_if ?_ ?_ <;> intro h
      · conv => whnf
        exact join_end (v := true) ⟨rfl, And.intro (.refl _) (And.intro (.refl _) (And.intro (.refl _) (And.intro (.refl _) (And.intro (.refl _) True.intro)))), And.intro ⟨_, rfl, And.intro ⟨rfl, .refl _⟩ (And.intro ⟨rfl, .refl _⟩ (And.intro ⟨rfl, .refl _⟩ (And.intro ⟨rfl, .refl _⟩ (And.intro ⟨rfl, .refl _⟩ (And.intro ⟨rfl, .refl _⟩ (And.intro ⟨rfl, .refl _⟩ (And.intro ⟨rfl, .refl _⟩ (And.intro ⟨rfl, .refl _⟩ (And.intro ⟨rfl, .refl _⟩ (And.intro ⟨rfl, .refl _⟩ (True.intro)))))))))))⟩ (And.intro ⟨_, rfl, And.intro ⟨rfl, .refl _⟩ (And.intro ⟨rfl, .refl _⟩ (And.intro ⟨rfl, .refl _⟩ (And.intro ⟨rfl, .refl _⟩ (And.intro ⟨rfl, .refl _⟩ (And.intro ⟨rfl, .refl _⟩ (And.intro ⟨rfl, .refl _⟩ (And.intro ⟨rfl, .refl _⟩ (And.intro ⟨rfl, .refl _⟩ (And.intro ⟨rfl, .refl _⟩ (And.intro ⟨rfl, .refl _⟩ (True.intro)))))))))))⟩ (True.intro)), rfl⟩ h
      · conv => whnf
        exact join_end (v := (a0 == 2)) ⟨rfl, And.intro (.refl _) (And.intro (.refl _) (And.intro (.refl _) (And.intro (.refl _) (And.intro (.refl _) True.intro)))), And.intro ⟨_, rfl, And.intro ⟨rfl, .refl _⟩ (And.intro ⟨rfl, .refl _⟩ (And.intro ⟨rfl, .refl _⟩ (And.intro ⟨rfl, .refl _⟩ (And.intro ⟨rfl, .refl _⟩ (And.intro ⟨rfl, .refl _⟩ (And.intro ⟨rfl, .refl _⟩ (And.intro ⟨rfl, .refl _⟩ (And.intro ⟨rfl, .refl _⟩ (And.intro ⟨rfl, .refl _⟩ (And.intro ⟨rfl, .refl _⟩ (True.intro)))))))))))⟩ (And.intro ⟨_, rfl, And.intro ⟨rfl, .refl _⟩ (And.intro ⟨rfl, .refl _⟩ (And.intro ⟨rfl, .refl _⟩ (And.intro ⟨rfl, .refl _⟩ (And.intro ⟨rfl, .refl _⟩ (And.intro ⟨rfl, .refl _⟩ (And.intro ⟨rfl, .refl _⟩ (And.intro ⟨rfl, .refl _⟩ (And.intro ⟨rfl, .refl _⟩ (And.intro ⟨rfl, .refl _⟩ (And.intro ⟨rfl, .refl _⟩ (True.intro)))))))))))⟩ (True.intro)), rfl⟩ h
    · rintro v3 h
      conv => whnf
      revert h; refine cut_join (fun v5 => ⟨AV.d (D.i a0) :: AV.d (D.i a1) :: X :: X :: X :: AV.ref 5 0 :: AV.ref 6 0 :: X :: AV.d (D.b v3) :: dd 26 (AV.d (D.b v5) :: dd 14 ([])), nn 5 (some (OB.box [AV.d (D.i a2.Origin), AV.d (D.l 2 Segment.toD a2.Path), AV.d (D.b a2.Next.V6), AV.d (D.u64 a2.Next.Hi), AV.d (D.u64 a2.Next.Lo), AV.d (D.i a2.MED), AV.d (D.i a2.Pref), AV.d (D.i a2.OTC), AV.d (D.l 2 Community.toD a2.Communities), AV.d (D.l 3 Large.toD a2.Large), AV.d (D.l 3 Unknown.toD a2.Other)]) :: some (OB.box [AV.d (D.i 0), AV.d (D.nil 2), AV.d (D.b false), AV.d (D.u64 (0 : UInt64)), AV.d (D.u64 (0 : UInt64)), AV.d (D.i 0), AV.d (D.i 0), AV.d (D.i 0), AV.d (D.nil 2), AV.d (D.nil 3), AV.d (D.nil 3)]) :: nn 43 ([]))⟩) ?_ ?_
      · intro k6 h
        conv => whnf
        revert h; refine sel_if ?_ ?_ <;> intro h
        · conv => whnf
          revert h; refine sel_if ?_ ?_ <;> intro h
          · conv => whnf
            revert h; refine sel_if ?_ ?_ <;> intro h
            · conv => whnf
              exact join_end (v := true) ⟨rfl, And.intro (.refl _) (And.intro (.refl _) (And.intro (.refl _) (And.intro (.refl _) (And.intro (.refl _) (And.intro (.refl _) True.intro))))), And.intro ⟨_, rfl, And.intro ⟨rfl, .refl _⟩ (And.intro ⟨rfl, .refl _⟩ (And.intro ⟨rfl, .refl _⟩ (And.intro ⟨rfl, .refl _⟩ (And.intro ⟨rfl, .refl _⟩ (And.intro ⟨rfl, .refl _⟩ (And.intro ⟨rfl, .refl _⟩ (And.intro ⟨rfl, .refl _⟩ (And.intro ⟨rfl, .refl _⟩ (And.intro ⟨rfl, .refl _⟩ (And.intro ⟨rfl, .refl _⟩ (True.intro)))))))))))⟩ (And.intro ⟨_, rfl, And.intro ⟨rfl, .refl _⟩ (And.intro ⟨rfl, .refl _⟩ (And.intro ⟨rfl, .refl _⟩ (And.intro ⟨rfl, .refl _⟩ (And.intro ⟨rfl, .refl _⟩ (And.intro ⟨rfl, .refl _⟩ (And.intro ⟨rfl, .refl _⟩ (And.intro ⟨rfl, .refl _⟩ (And.intro ⟨rfl, .refl _⟩ (And.intro ⟨rfl, .refl _⟩ (And.intro ⟨rfl, .refl _⟩ (True.intro)))))))))))⟩ (True.intro)), rfl⟩ h
            · conv => whnf
              exact join_end (v := (a2.OTC != a1)) ⟨rfl, And.intro (.refl _) (And.intro (.refl _) (And.intro (.refl _) (And.intro (.refl _) (And.intro (.refl _) (And.intro (.refl _) True.intro))))), And.intro ⟨_, rfl, And.intro ⟨rfl, .refl _⟩ (And.intro ⟨rfl, .refl _⟩ (And.intro ⟨rfl, .refl _⟩ (And.intro ⟨rfl, .refl _⟩ (And.intro ⟨rfl, .refl _⟩ (And.intro ⟨rfl, .refl _⟩ (And.intro ⟨rfl, .refl _⟩ (And.intro ⟨rfl, .refl _⟩ (And.intro ⟨rfl, .refl _⟩ (And.intro ⟨rfl, .refl _⟩ (And.intro ⟨rfl, .refl _⟩ (True.intro)))))))))))⟩ (And.intro ⟨_, rfl, And.intro ⟨rfl, .refl _⟩ (And.intro ⟨rfl, .refl _⟩ (And.intro ⟨rfl, .refl _⟩ (And.intro ⟨rfl, .refl _⟩ (And.intro ⟨rfl, .refl _⟩ (And.intro ⟨rfl, .refl _⟩ (And.intro ⟨rfl, .refl _⟩ (And.intro ⟨rfl, .refl _⟩ (And.intro ⟨rfl, .refl _⟩ (And.intro ⟨rfl, .refl _⟩ (And.intro ⟨rfl, .refl _⟩ (True.intro)))))))))))⟩ (True.intro)), rfl⟩ h
          · conv => whnf
            exact join_end (v := false) ⟨rfl, And.intro (.refl _) (And.intro (.refl _) (And.intro (.refl _) (And.intro (.refl _) (And.intro (.refl _) (And.intro (.refl _) True.intro))))), And.intro ⟨_, rfl, And.intro ⟨rfl, .refl _⟩ (And.intro ⟨rfl, .refl _⟩ (And.intro ⟨rfl, .refl _⟩ (And.intro ⟨rfl, .refl _⟩ (And.intro ⟨rfl, .refl _⟩ (And.intro ⟨rfl, .refl _⟩ (And.intro ⟨rfl, .refl _⟩ (And.intro ⟨rfl, .refl _⟩ (And.intro ⟨rfl, .refl _⟩ (And.intro ⟨rfl, .refl _⟩ (And.intro ⟨rfl, .refl _⟩ (True.intro)))))))))))⟩ (And.intro ⟨_, rfl, And.intro ⟨rfl, .refl _⟩ (And.intro ⟨rfl, .refl _⟩ (And.intro ⟨rfl, .refl _⟩ (And.intro ⟨rfl, .refl _⟩ (And.intro ⟨rfl, .refl _⟩ (And.intro ⟨rfl, .refl _⟩ (And.intro ⟨rfl, .refl _⟩ (And.intro ⟨rfl, .refl _⟩ (And.intro ⟨rfl, .refl _⟩ (And.intro ⟨rfl, .refl _⟩ (And.intro ⟨rfl, .refl _⟩ (True.intro)))))))))))⟩ (True.intro)), rfl⟩ h
        · conv => whnf
          exact join_end (v := false) ⟨rfl, And.intro (.refl _) (And.intro (.refl _) (And.intro (.refl _) (And.intro (.refl _) (And.intro (.refl _) (And.intro (.refl _) True.intro))))), And.intro ⟨_, rfl, And.intro ⟨rfl, .refl _⟩ (And.intro ⟨rfl, .refl _⟩ (And.intro ⟨rfl, .refl _⟩ (And.intro ⟨rfl, .refl _⟩ (And.intro ⟨rfl, .refl _⟩ (And.intro ⟨rfl, .refl _⟩ (And.intro ⟨rfl, .refl _⟩ (And.intro ⟨rfl, .refl _⟩ (And.intro ⟨rfl, .refl _⟩ (And.intro ⟨rfl, .refl _⟩ (And.intro ⟨rfl, .refl _⟩ (True.intro)))))))))))⟩ (And.intro ⟨_, rfl, And.intro ⟨rfl, .refl _⟩ (And.intro ⟨rfl, .refl _⟩ (And.intro ⟨rfl, .refl _⟩ (And.intro ⟨rfl, .refl _⟩ (And.intro ⟨rfl, .refl _⟩ (And.intro ⟨rfl, .refl _⟩ (And.intro ⟨rfl, .refl _⟩ (And.intro ⟨rfl, .refl _⟩ (And.intro ⟨rfl, .refl _⟩ (And.intro ⟨rfl, .refl _⟩ (And.intro ⟨rfl, .refl _⟩ (True.intro)))))))))))⟩ (True.intro)), rfl⟩ h
      · rintro v5 h
        conv => whnf
        refine .go ?_
        conv => whnf
        revert h; refine sel_if ?_ ?_ <;> intro h
        · conv => whnf
          cases h
          exact ⟨rfl, rfl⟩
        · conv => whnf
          revert h; refine cut_join (fun v7 => ⟨X :: AV.d (D.i a1) :: X :: X :: X :: AV.ref 5 0 :: AV.ref 6 0 :: dd 39 (AV.d (D.b v7) :: X :: X :: X :: []), nn 5 (some (OB.box [AV.d (D.i a2.Origin), AV.d (D.l 2 Segment.toD a2.Path), AV.d (D.b a2.Next.V6), AV.d (D.u64 a2.Next.Hi), AV.d (D.u64 a2.Next.Lo), AV.d (D.i a2.MED), AV.d (D.i a2.Pref), AV.d (D.i a2.OTC), AV.d (D.l 2 Community.toD a2.Communities), AV.d (D.l 3 Large.toD a2.Large), AV.d (D.l 3 Unknown.toD a2.Other)]) :: some (OB.box [AV.d (D.i 0), AV.d (D.nil 2), AV.d (D.b false), AV.d (D.u64 (0 : UInt64)), AV.d (D.u64 (0 : UInt64)), AV.d (D.i 0), AV.d (D.i 0), AV.d (D.i 0), AV.d (D.nil 2), AV.d (D.nil 3), AV.d (D.nil 3)]) :: nn 43 ([]))⟩) ?_ ?_
          · intro k8 h
            conv => whnf
            revert h; refine sel_if ?_ ?_ <;> intro h
            · conv => whnf
              revert h; refine sel_if ?_ ?_ <;> intro h
              · conv => whnf
                exact join_end (v := true) ⟨rfl, And.intro (.refl _) (And.intro (.refl _) (And.intro (.refl _) (And.intro (.refl _) True.intro))), And.intro ⟨_, rfl, And.intro ⟨rfl, .refl _⟩ (And.intro ⟨rfl, .refl _⟩ (And.intro ⟨rfl, .refl _⟩ (And.intro ⟨rfl, .refl _⟩ (And.intro ⟨rfl, .refl _⟩ (And.intro ⟨rfl, .refl _⟩ (And.intro ⟨rfl, .refl _⟩ (And.intro ⟨rfl, .refl _⟩ (And.intro ⟨rfl, .refl _⟩ (And.intro ⟨rfl, .refl _⟩ (And.intro ⟨rfl, .refl _⟩ (True.intro)))))))))))⟩ (And.intro ⟨_, rfl, And.intro ⟨rfl, .refl _⟩ (And.intro ⟨rfl, .refl _⟩ (And.intro ⟨rfl, .refl _⟩ (And.intro ⟨rfl, .refl _⟩ (And.intro ⟨rfl, .refl _⟩ (And.intro ⟨rfl, .refl _⟩ (And.intro ⟨rfl, .refl _⟩ (And.intro ⟨rfl, .refl _⟩ (And.intro ⟨rfl, .refl _⟩ (And.intro ⟨rfl, .refl _⟩ (And.intro ⟨rfl, .refl _⟩ (True.intro)))))))))))⟩ (True.intro)), rfl⟩ h
              · conv => whnf
                exact join_end (v := (a0 == 4)) ⟨rfl, And.intro (.refl _) (And.intro (.refl _) (And.intro (.refl _) (And.intro (.refl _) True.intro))), And.intro ⟨_, rfl, And.intro ⟨rfl, .refl _⟩ (And.intro ⟨rfl, .refl _⟩ (And.intro ⟨rfl, .refl _⟩ (And.intro ⟨rfl, .refl _⟩ (And.intro ⟨rfl, .refl _⟩ (And.intro ⟨rfl, .refl _⟩ (And.intro ⟨rfl, .refl _⟩ (And.intro ⟨rfl, .refl _⟩ (And.intro ⟨rfl, .refl _⟩ (And.intro ⟨rfl, .refl _⟩ (And.intro ⟨rfl, .refl _⟩ (True.intro)))))))))))⟩ (And.intro ⟨_, rfl, And.intro ⟨rfl, .refl _⟩ (And.intro ⟨rfl, .refl _⟩ (And.intro ⟨rfl, .refl _⟩ (And.intro ⟨rfl, .refl _⟩ (And.intro ⟨rfl, .refl _⟩ (And.intro ⟨rfl, .refl _⟩ (And.intro ⟨rfl, .refl _⟩ (And.intro ⟨rfl, .refl _⟩ (And.intro ⟨rfl, .refl _⟩ (And.intro ⟨rfl, .refl _⟩ (And.intro ⟨rfl, .refl _⟩ (True.intro)))))))))))⟩ (True.intro)), rfl⟩ h
            · conv => whnf
              exact join_end (v := false) ⟨rfl, And.intro (.refl _) (And.intro (.refl _) (And.intro (.refl _) (And.intro (.refl _) True.intro))), And.intro ⟨_, rfl, And.intro ⟨rfl, .refl _⟩ (And.intro ⟨rfl, .refl _⟩ (And.intro ⟨rfl, .refl _⟩ (And.intro ⟨rfl, .refl _⟩ (And.intro ⟨rfl, .refl _⟩ (And.intro ⟨rfl, .refl _⟩ (And.intro ⟨rfl, .refl _⟩ (And.intro ⟨rfl, .refl _⟩ (And.intro ⟨rfl, .refl _⟩ (And.intro ⟨rfl, .refl _⟩ (And.intro ⟨rfl, .refl _⟩ (True.intro)))))))))))⟩ (And.intro ⟨_, rfl, And.intro ⟨rfl, .refl _⟩ (And.intro ⟨rfl, .refl _⟩ (And.intro ⟨rfl, .refl _⟩ (And.intro ⟨rfl, .refl _⟩ (And.intro ⟨rfl, .refl _⟩ (And.intro ⟨rfl, .refl _⟩ (And.intro ⟨rfl, .refl _⟩ (And.intro ⟨rfl, .refl _⟩ (And.intro ⟨rfl, .refl _⟩ (And.intro ⟨rfl, .refl _⟩ (And.intro ⟨rfl, .refl _⟩ (True.intro)))))))))))⟩ (True.intro)), rfl⟩ h
          · rintro v7 h
            conv => whnf
            revert h; refine cut_join (fun v9 => ⟨dd 5 (AV.ref 5 0 :: AV.ref 6 0 :: dd 43 ([])), nn 5 (some (OB.box [AV.d (D.i a2.Origin), AV.d (D.l 2 Segment.toD a2.Path), AV.d (D.b a2.Next.V6), AV.d (D.u64 a2.Next.Hi), AV.d (D.u64 a2.Next.Lo), AV.d (D.i a2.MED), AV.d (D.i a2.Pref), AV.d (D.i v9), AV.d (D.l 2 Community.toD a2.Communities), AV.d (D.l 3 Large.toD a2.Large), AV.d (D.l 3 Unknown.toD a2.Other)]) :: some (OB.box [AV.d (D.i 0), AV.d (D.nil 2), AV.d (D.b false), AV.d (D.u64 (0 : UInt64)), AV.d (D.u64 (0 : UInt64)), AV.d (D.i 0), AV.d (D.i 0), AV.d (D.i 0), AV.d (D.nil 2), AV.d (D.nil 3), AV.d (D.nil 3)]) :: nn 43 ([]))⟩) ?_ ?_
            · intro k10 h
              conv => whnf
              revert h; refine sel_if ?_ ?_ <;> intro h
              · conv => whnf
                exact join_end (v := a1) ⟨rfl, And.intro (.refl _) (And.intro (.refl _) True.intro), And.intro ⟨_, rfl, And.intro ⟨rfl, .refl _⟩ (And.intro ⟨rfl, .refl _⟩ (And.intro ⟨rfl, .refl _⟩ (And.intro ⟨rfl, .refl _⟩ (And.intro ⟨rfl, .refl _⟩ (And.intro ⟨rfl, .refl _⟩ (And.intro ⟨rfl, .refl _⟩ (And.intro ⟨rfl, .refl _⟩ (And.intro ⟨rfl, .refl _⟩ (And.intro ⟨rfl, .refl _⟩ (And.intro ⟨rfl, .refl _⟩ (True.intro)))))))))))⟩ (And.intro ⟨_, rfl, And.intro ⟨rfl, .refl _⟩ (And.intro ⟨rfl, .refl _⟩ (And.intro ⟨rfl, .refl _⟩ (And.intro ⟨rfl, .refl _⟩ (And.intro ⟨rfl, .refl _⟩ (And.intro ⟨rfl, .refl _⟩ (And.intro ⟨rfl, .refl _⟩ (And.intro ⟨rfl, .refl _⟩ (And.intro ⟨rfl, .refl _⟩ (And.intro ⟨rfl, .refl _⟩ (And.intro ⟨rfl, .refl _⟩ (True.intro)))))))))))⟩ (True.intro)), rfl⟩ h
              · conv => whnf
                exact join_end (v := a2.OTC) ⟨rfl, And.intro (.refl _) (And.intro (.refl _) True.intro), And.intro ⟨_, rfl, And.intro ⟨rfl, .refl _⟩ (And.intro ⟨rfl, .refl _⟩ (And.intro ⟨rfl, .refl _⟩ (And.intro ⟨rfl, .refl _⟩ (And.intro ⟨rfl, .refl _⟩ (And.intro ⟨rfl, .refl _⟩ (And.intro ⟨rfl, .refl _⟩ (And.intro ⟨rfl, .refl _⟩ (And.intro ⟨rfl, .refl _⟩ (And.intro ⟨rfl, .refl _⟩ (And.intro ⟨rfl, .refl _⟩ (True.intro)))))))))))⟩ (And.intro ⟨_, rfl, And.intro ⟨rfl, .refl _⟩ (And.intro ⟨rfl, .refl _⟩ (And.intro ⟨rfl, .refl _⟩ (And.intro ⟨rfl, .refl _⟩ (And.intro ⟨rfl, .refl _⟩ (And.intro ⟨rfl, .refl _⟩ (And.intro ⟨rfl, .refl _⟩ (And.intro ⟨rfl, .refl _⟩ (And.intro ⟨rfl, .refl _⟩ (And.intro ⟨rfl, .refl _⟩ (And.intro ⟨rfl, .refl _⟩ (True.intro)))))))))))⟩ (True.intro)), rfl⟩ h
            · rintro v9 h
              conv => whnf
              cases h
              exact ⟨rfl, rfl⟩

theorem ref23_Send_ok {a0 : Int} {a1 : Int} {a2 : Attrs} {r : Attrs × Int} (h : ref23_Send a0 a1 a2 = some r) : CallsOK Try.prog 20 [AV.d (D.i a0), AV.d (D.i a1), AV.d (Attrs.toD a2)] [] (.tup [.d (Attrs.toD r.1), .d (D.i r.2)]) [] := by
  refine ok Try.f20 (by kernel_rfl) (by kernel_rfl) ⟨rfl, ?_⟩
  unfold ref23_Send at h
  conv => whnf
  replace h := bind_inv h; obtain ⟨v1, g2, h⟩ := h
  refine ⟨_, _, ref23_bad_ok g2, .inl rfl, ?_⟩
  conv => whnf
  refine .go ?_
  conv => whnf
  revert h; refine sel_if ?_ ?_ <;> intro h
  · conv => whnf
    cases h
    exact ⟨rfl, rfl⟩
  · conv => whnf
    revert h; refine cut_join (fun v3 => ⟨AV.d (D.i a0) :: AV.d (D.i a1) :: X :: X :: X :: AV.ref 5 0 :: AV.ref 6 0 :: X :: AV.d (D.b v3) :: dd 31 ([]), nn 5 (some (OB.box [AV.d (D.i a2.Origin), AV.d (D.l 2 Segment.toD a2.Path), AV.d (D.b a2.Next.V6), AV.d (D.u64 a2.Next.Hi), AV.d (D.u64 a2.Next.Lo), AV.d (D.i a2.MED), AV.d (D.i a2.Pref), AV.d (D.i a2.OTC), AV.d (D.l 2 Community.toD a2.Communities), AV.d (D.l 3 Large.toD a2.Large), AV.d (D.l 3 Unknown.toD a2.Other)]) :: some (OB.box [AV.d (D.i 0), AV.d (D.nil 2), AV.d (D.b false), AV.d (D.u64 (0 : UInt64)), AV.d (D.u64 (0 : UInt64)), AV.d (D.i 0), AV.d (D.i 0), AV.d (D.i 0), AV.d (D.nil 2), AV.d (D.nil 3), AV.d (D.nil 3)]) :: nn 33 ([]))⟩) ?_ ?_
    · intro k4 h
      conv => whnf
      revert h; refine sel_if ?_ ?_ <;> intro h
      · conv => whnf
        exact join_end (v := true) ⟨rfl, And.intro (.refl _) (And.intro (.refl _) (And.intro (.refl _) (And.intro (.refl _) (And.intro (.refl _) True.intro)))), And.intro ⟨_, rfl, And.intro ⟨rfl, .refl _⟩ (And.intro ⟨rfl, .refl _⟩ (And.intro ⟨rfl, .refl _⟩ (And.intro ⟨rfl, .refl _⟩ (And.intro ⟨rfl, .refl _⟩ (And.intro ⟨rfl, .refl _⟩ (And.intro ⟨rfl, .refl _⟩ (And.intro ⟨rfl, .refl _⟩ (And.intro ⟨rfl, .refl _⟩ (And.intro ⟨rfl, .refl _⟩ (And.intro ⟨rfl, .refl _⟩ (True.intro)))))))))))⟩ (And.intro ⟨_, rfl, And.intro ⟨rfl, .refl _⟩ (And.intro ⟨rfl, .refl _⟩ (And.intro ⟨rfl, .refl _⟩ (And.intro ⟨rfl, .refl _⟩ (And.intro ⟨rfl, .refl _⟩ (And.intro ⟨rfl, .refl _⟩ (And.intro ⟨rfl, .refl _⟩ (And.intro ⟨rfl, .refl _⟩ (And.intro ⟨rfl, .refl _⟩ (And.intro ⟨rfl, .refl _⟩ (And.intro ⟨rfl, .refl _⟩ (True.intro)))))))))))⟩ (True.intro)), rfl⟩ h
      · conv => whnf
        exact join_end (v := (a0 == 1)) ⟨rfl, And.intro (.refl _) (And.intro (.refl _) (And.intro (.refl _) (And.intro (.refl _) (And.intro (.refl _) True.intro)))), And.intro ⟨_, rfl, And.intro ⟨rfl, .refl _⟩ (And.intro ⟨rfl, .refl _⟩ (And.intro ⟨rfl, .refl _⟩ (And.intro ⟨rfl, .refl _⟩ (And.intro ⟨rfl, .refl _⟩ (And.intro ⟨rfl, .refl _⟩ (And.intro ⟨rfl, .refl _⟩ (And.intro ⟨rfl, .refl _⟩ (And.intro ⟨rfl, .refl _⟩ (And.intro ⟨rfl, .refl _⟩ (And.intro ⟨rfl, .refl _⟩ (True.intro)))))))))))⟩ (And.intro ⟨_, rfl, And.intro ⟨rfl, .refl _⟩ (And.intro ⟨rfl, .refl _⟩ (And.intro ⟨rfl, .refl _⟩ (And.intro ⟨rfl, .refl _⟩ (And.intro ⟨rfl, .refl _⟩ (And.intro ⟨rfl, .refl _⟩ (And.intro ⟨rfl, .refl _⟩ (And.intro ⟨rfl, .refl _⟩ (And.intro ⟨rfl, .refl _⟩ (And.intro ⟨rfl, .refl _⟩ (And.intro ⟨rfl, .refl _⟩ (True.intro)))))))))))⟩ (True.intro)), rfl⟩ h
    · rintro v3 h
      conv => whnf
      revert h; refine cut_join (fun v5 => ⟨AV.d (D.i a0) :: AV.d (D.i a1) :: X :: X :: X :: AV.ref 5 0 :: AV.ref 6 0 :: X :: AV.d (D.b v3) :: dd 16 (AV.d (D.b v5) :: dd 14 ([])), nn 5 (some (OB.box [AV.d (D.i a2.Origin), AV.d (D.l 2 Segment.toD a2.Path), AV.d (D.b a2.Next.V6), AV.d (D.u64 a2.Next.Hi), AV.d (D.u64 a2.Next.Lo), AV.d (D.i a2.MED), AV.d (D.i a2.Pref), AV.d (D.i a2.OTC), AV.d (D.l 2 Community.toD a2.Communities), AV.d (D.l 3 Large.toD a2.Large), AV.d (D.l 3 Unknown.toD a2.Other)]) :: some (OB.box [AV.d (D.i 0), AV.d (D.nil 2), AV.d (D.b false), AV.d (D.u64 (0 : UInt64)), AV.d (D.u64 (0 : UInt64)), AV.d (D.i 0), AV.d (D.i 0), AV.d (D.i 0), AV.d (D.nil 2), AV.d (D.nil 3), AV.d (D.nil 3)]) :: nn 33 ([]))⟩) ?_ ?_
      · intro k6 h
        conv => whnf
        revert h; refine sel_if ?_ ?_ <;> intro h
        · conv => whnf
          exact join_end (v := (!v3)) ⟨rfl, And.intro (.refl _) (And.intro (.refl _) (And.intro (.refl _) (And.intro (.refl _) (And.intro (.refl _) (And.intro (.refl _) True.intro))))), And.intro ⟨_, rfl, And.intro ⟨rfl, .refl _⟩ (And.intro ⟨rfl, .refl _⟩ (And.intro ⟨rfl, .refl _⟩ (And.intro ⟨rfl, .refl _⟩ (And.intro ⟨rfl, .refl _⟩ (And.intro ⟨rfl, .refl _⟩ (And.intro ⟨rfl, .refl _⟩ (And.intro ⟨rfl, .refl _⟩ (And.intro ⟨rfl, .refl _⟩ (And.intro ⟨rfl, .refl _⟩ (And.intro ⟨rfl, .refl _⟩ (True.intro)))))))))))⟩ (And.intro ⟨_, rfl, And.intro ⟨rfl, .refl _⟩ (And.intro ⟨rfl, .refl _⟩ (And.intro ⟨rfl, .refl _⟩ (And.intro ⟨rfl, .refl _⟩ (And.intro ⟨rfl, .refl _⟩ (And.intro ⟨rfl, .refl _⟩ (And.intro ⟨rfl, .refl _⟩ (And.intro ⟨rfl, .refl _⟩ (And.intro ⟨rfl, .refl _⟩ (And.intro ⟨rfl, .refl _⟩ (And.intro ⟨rfl, .refl _⟩ (True.intro)))))))))))⟩ (True.intro)), rfl⟩ h
        · conv => whnf
          exact join_end (v := false) ⟨rfl, And.intro (.refl _) (And.intro (.refl _) (And.intro (.refl _) (And.intro (.refl _) (And.intro (.refl _) (And.intro (.refl _) True.intro))))), And.intro ⟨_, rfl, And.intro ⟨rfl, .refl _⟩ (And.intro ⟨rfl, .refl _⟩ (And.intro ⟨rfl, .refl _⟩ (And.intro ⟨rfl, .refl _⟩ (And.intro ⟨rfl, .refl _⟩ (And.intro ⟨rfl, .refl _⟩ (And.intro ⟨rfl, .refl _⟩ (And.intro ⟨rfl, .refl _⟩ (And.intro ⟨rfl, .refl _⟩ (And.intro ⟨rfl, .refl _⟩ (And.intro ⟨rfl, .refl _⟩ (True.intro)))))))))))⟩ (And.intro ⟨_, rfl, And.intro ⟨rfl, .refl _⟩ (And.intro ⟨rfl, .refl _⟩ (And.intro ⟨rfl, .refl _⟩ (And.intro ⟨rfl, .refl _⟩ (And.intro ⟨rfl, .refl _⟩ (And.intro ⟨rfl, .refl _⟩ (And.intro ⟨rfl, .refl _⟩ (And.intro ⟨rfl, .refl _⟩ (And.intro ⟨rfl, .refl _⟩ (And.intro ⟨rfl, .refl _⟩ (And.intro ⟨rfl, .refl _⟩ (True.intro)))))))))))⟩ (True.intro)), rfl⟩ h
      · rintro v5 h
        conv => whnf
        refine .go ?_
        conv => whnf
        revert h; refine sel_if ?_ ?_ <;> intro h
        · conv => whnf
          cases h
          exact ⟨rfl, rfl⟩
        · conv => whnf
          revert h; refine cut_join (fun v7 => ⟨X :: AV.d (D.i a1) :: X :: X :: X :: AV.ref 5 0 :: AV.ref 6 0 :: dd 29 (AV.d (D.b v7) :: X :: X :: X :: []), nn 5 (some (OB.box [AV.d (D.i a2.Origin), AV.d (D.l 2 Segment.toD a2.Path), AV.d (D.b a2.Next.V6), AV.d (D.u64 a2.Next.Hi), AV.d (D.u64 a2.Next.Lo), AV.d (D.i a2.MED), AV.d (D.i a2.Pref), AV.d (D.i a2.OTC), AV.d (D.l 2 Community.toD a2.Communities), AV.d (D.l 3 Large.toD a2.Large), AV.d (D.l 3 Unknown.toD a2.Other)]) :: some (OB.box [AV.d (D.i 0), AV.d (D.nil 2), AV.d (D.b false), AV.d (D.u64 (0 : UInt64)), AV.d (D.u64 (0 : UInt64)), AV.d (D.i 0), AV.d (D.i 0), AV.d (D.i 0), AV.d (D.nil 2), AV.d (D.nil 3), AV.d (D.nil 3)]) :: nn 33 ([]))⟩) ?_ ?_
          · intro k8 h
            conv => whnf
            revert h; refine sel_if ?_ ?_ <;> intro h
            · conv => whnf
              revert h; refine sel_if ?_ ?_ <;> intro h
              · conv => whnf
                exact join_end (v := true) ⟨rfl, And.intro (.refl _) (And.intro (.refl _) (And.intro (.refl _) (And.intro (.refl _) True.intro))), And.intro ⟨_, rfl, And.intro ⟨rfl, .refl _⟩ (And.intro ⟨rfl, .refl _⟩ (And.intro ⟨rfl, .refl _⟩ (And.intro ⟨rfl, .refl _⟩ (And.intro ⟨rfl, .refl _⟩ (And.intro ⟨rfl, .refl _⟩ (And.intro ⟨rfl, .refl _⟩ (And.intro ⟨rfl, .refl _⟩ (And.intro ⟨rfl, .refl _⟩ (And.intro ⟨rfl, .refl _⟩ (And.intro ⟨rfl, .refl _⟩ (True.intro)))))))))))⟩ (And.intro ⟨_, rfl, And.intro ⟨rfl, .refl _⟩ (And.intro ⟨rfl, .refl _⟩ (And.intro ⟨rfl, .refl _⟩ (And.intro ⟨rfl, .refl _⟩ (And.intro ⟨rfl, .refl _⟩ (And.intro ⟨rfl, .refl _⟩ (And.intro ⟨rfl, .refl _⟩ (And.intro ⟨rfl, .refl _⟩ (And.intro ⟨rfl, .refl _⟩ (And.intro ⟨rfl, .refl _⟩ (And.intro ⟨rfl, .refl _⟩ (True.intro)))))))))))⟩ (True.intro)), rfl⟩ h
              · conv => whnf
                exact join_end (v := (a0 == 4)) ⟨rfl, And.intro (.refl _) (And.intro (.refl _) (And.intro (.refl _) (And.intro (.refl _) True.intro))), And.intro ⟨_, rfl, And.intro ⟨rfl, .refl _⟩ (And.intro ⟨rfl, .refl _⟩ (And.intro ⟨rfl, .refl _⟩ (And.intro ⟨rfl, .refl _⟩ (And.intro ⟨rfl, .refl _⟩ (And.intro ⟨rfl, .refl _⟩ (And.intro ⟨rfl, .refl _⟩ (And.intro ⟨rfl, .refl _⟩ (And.intro ⟨rfl, .refl _⟩ (And.intro ⟨rfl, .refl _⟩ (And.intro ⟨rfl, .refl _⟩ (True.intro)))))))))))⟩ (And.intro ⟨_, rfl, And.intro ⟨rfl, .refl _⟩ (And.intro ⟨rfl, .refl _⟩ (And.intro ⟨rfl, .refl _⟩ (And.intro ⟨rfl, .refl _⟩ (And.intro ⟨rfl, .refl _⟩ (And.intro ⟨rfl, .refl _⟩ (And.intro ⟨rfl, .refl _⟩ (And.intro ⟨rfl, .refl _⟩ (And.intro ⟨rfl, .refl _⟩ (And.intro ⟨rfl, .refl _⟩ (And.intro ⟨rfl, .refl _⟩ (True.intro)))))))))))⟩ (True.intro)), rfl⟩ h
            · conv => whnf
              exact join_end (v := false) ⟨rfl, And.intro (.refl _) (And.intro (.refl _) (And.intro (.refl _) (And.intro (.refl _) True.intro))), And.intro ⟨_, rfl, And.intro ⟨rfl, .refl _⟩ (And.intro ⟨rfl, .refl _⟩ (And.intro ⟨rfl, .refl _⟩ (And.intro ⟨rfl, .refl _⟩ (And.intro ⟨rfl, .refl _⟩ (And.intro ⟨rfl, .refl _⟩ (And.intro ⟨rfl, .refl _⟩ (And.intro ⟨rfl, .refl _⟩ (And.intro ⟨rfl, .refl _⟩ (And.intro ⟨rfl, .refl _⟩ (And.intro ⟨rfl, .refl _⟩ (True.intro)))))))))))⟩ (And.intro ⟨_, rfl, And.intro ⟨rfl, .refl _⟩ (And.intro ⟨rfl, .refl _⟩ (And.intro ⟨rfl, .refl _⟩ (And.intro ⟨rfl, .refl _⟩ (And.intro ⟨rfl, .refl _⟩ (And.intro ⟨rfl, .refl _⟩ (And.intro ⟨rfl, .refl _⟩ (And.intro ⟨rfl, .refl _⟩ (And.intro ⟨rfl, .refl _⟩ (And.intro ⟨rfl, .refl _⟩ (And.intro ⟨rfl, .refl _⟩ (True.intro)))))))))))⟩ (True.intro)), rfl⟩ h
          · rintro v7 h
            conv => whnf
            revert h; refine cut_join (fun v9 => ⟨dd 5 (AV.ref 5 0 :: AV.ref 6 0 :: dd 33 ([])), nn 5 (some (OB.box [AV.d (D.i a2.Origin), AV.d (D.l 2 Segment.toD a2.Path), AV.d (D.b a2.Next.V6), AV.d (D.u64 a2.Next.Hi), AV.d (D.u64 a2.Next.Lo), AV.d (D.i a2.MED), AV.d (D.i a2.Pref), AV.d (D.i v9), AV.d (D.l 2 Community.toD a2.Communities), AV.d (D.l 3 Large.toD a2.Large), AV.d (D.l 3 Unknown.toD a2.Other)]) :: some (OB.box [AV.d (D.i 0), AV.d (D.nil 2), AV.d (D.b false), AV.d (D.u64 (0 : UInt64)), AV.d (D.u64 (0 : UInt64)), AV.d (D.i 0), AV.d (D.i 0), AV.d (D.i 0), AV.d (D.nil 2), AV.d (D.nil 3), AV.d (D.nil 3)]) :: nn 33 ([]))⟩) ?_ ?_
            · intro k10 h
              conv => whnf
              revert h; refine sel_if ?_ ?_ <;> intro h
              · conv => whnf
                exact join_end (v := a1) ⟨rfl, And.intro (.refl _) (And.intro (.refl _) True.intro), And.intro ⟨_, rfl, And.intro ⟨rfl, .refl _⟩ (And.intro ⟨rfl, .refl _⟩ (And.intro ⟨rfl, .refl _⟩ (And.intro ⟨rfl, .refl _⟩ (And.intro ⟨rfl, .refl _⟩ (And.intro ⟨rfl, .refl _⟩ (And.intro ⟨rfl, .refl _⟩ (And.intro ⟨rfl, .refl _⟩ (And.intro ⟨rfl, .refl _⟩ (And.intro ⟨rfl, .refl _⟩ (And.intro ⟨rfl, .refl _⟩ (True.intro)))))))))))⟩ (And.intro ⟨_, rfl, And.intro ⟨rfl, .refl _⟩ (And.intro ⟨rfl, .refl _⟩ (And.intro ⟨rfl, .refl _⟩ (And.intro ⟨rfl, .refl _⟩ (And.intro ⟨rfl, .refl _⟩ (And.intro ⟨rfl, .refl _⟩ (And.intro ⟨rfl, .refl _⟩ (And.intro ⟨rfl, .refl _⟩ (And.intro ⟨rfl, .refl _⟩ (And.intro ⟨rfl, .refl _⟩ (And.intro ⟨rfl, .refl _⟩ (True.intro)))))))))))⟩ (True.intro)), rfl⟩ h
              · conv => whnf
                exact join_end (v := a2.OTC) ⟨rfl, And.intro (.refl _) (And.intro (.refl _) True.intro), And.intro ⟨_, rfl, And.intro ⟨rfl, .refl _⟩ (And.intro ⟨rfl, .refl _⟩ (And.intro ⟨rfl, .refl _⟩ (And.intro ⟨rfl, .refl _⟩ (And.intro ⟨rfl, .refl _⟩ (And.intro ⟨rfl, .refl _⟩ (And.intro ⟨rfl, .refl _⟩ (And.intro ⟨rfl, .refl _⟩ (And.intro ⟨rfl, .refl _⟩ (And.intro ⟨rfl, .refl _⟩ (And.intro ⟨rfl, .refl _⟩ (True.intro)))))))))))⟩ (And.intro ⟨_, rfl, And.intro ⟨rfl, .refl _⟩ (And.intro ⟨rfl, .refl _⟩ (And.intro ⟨rfl, .refl _⟩ (And.intro ⟨rfl, .refl _⟩ (And.intro ⟨rfl, .refl _⟩ (And.intro ⟨rfl, .refl _⟩ (And.intro ⟨rfl, .refl _⟩ (And.intro ⟨rfl, .refl _⟩ (And.intro ⟨rfl, .refl _⟩ (And.intro ⟨rfl, .refl _⟩ (And.intro ⟨rfl, .refl _⟩ (True.intro)))))))))))⟩ (True.intro)), rfl⟩ h
            · rintro v9 h
              conv => whnf
              cases h
              exact ⟨rfl, rfl⟩

theorem ref23_SameInts_ok {a0 : List Int} {a1 : List Int} {r : Bool} (h : ref23_SameInts a0 a1 = some r) : CallsOK Try.prog 37 [AV.d (D.l 1 D.i a0), AV.d (D.l 1 D.i a1)] [] (.d (D.b r)) [] := by
  refine ok Try.f37 (by kernel_rfl) (by kernel_rfl) ⟨rfl, ?_⟩
  unfold ref23_SameInts at h
  conv => whnf
  refine ⟨a0.length, List.length_map _, ?_⟩
  conv => whnf
  refine ⟨a1.length, List.length_map _, ?_⟩
  conv => whnf
  refine .go ?_
  conv => whnf
  revert h; refine sel_if ?_ ?_ <;> intro h
  · conv => whnf
    cases h
    exact ⟨rfl, rfl⟩
  · conv => whnf
    refine ⟨a0.length, List.length_map _, ?_⟩
    conv => whnf
    revert h; refine cut_join (fun _ => ⟨dd 26 ([]), nn 26 ([])⟩) ?_ ?_
    · intro k16 h
      conv => whnf
      revert h; refine loop_for 11 1 D.i rfl (fun i23 _ => ⟨AV.d (D.l 1 D.i a0) :: AV.d (D.l 1 D.i a1) :: dd 9 (AV.d (D.l 1 D.i a0) :: AV.d (D.i (a0.length : Int)) :: AV.d (D.i (i23 : Int)) :: dd 12 ([])), nn 26 ([])⟩) ⟨rfl, And.intro (.refl _) (And.intro (.refl _) (And.intro (.refl _) (And.intro (.refl _) (And.intro (.refl _) True.intro)))), True.intro, rfl⟩ ?_ ?_
      · rintro _ K25 h
        conv => whnf
        refine .go ?_
        conv => whnf
        refine sel_f lt_f ?_
        conv => whnf
        exact join_end (v := ()) ⟨rfl, True.intro, True.intro, rfl⟩ h
      · rintro next27 i23 x24 _ K25 hii23 hxi23 hwi23 h hK26
        conv => whnf
        refine .go ?_
        conv => whnf
        refine sel_t (lt_t hii23) ?_
        conv => whnf
        refine .go ?_
        conv => whnf
        refine dOB (by kernel_rfl) ?_
        conv => whnf
        refine ⟨idx_b (f := D.i) hii23, D.i x24, hxi23, rfl, ?_⟩
        conv => whnf
        replace h := bind_inv h; obtain ⟨v30, g31, h⟩ := h
        refine ⟨geti_b (f := D.i) g31, D.i v30, geti_d (f := D.i) g31, rfl, ?_⟩
        conv => whnf
        refine cOB (by kernel_rfl) ?_
        conv => whnf
        refine .go ?_
        conv => whnf
        revert h; refine sel_if ?_ ?_ <;> intro h
        · conv => whnf
          cases h
          exact ⟨rfl, rfl⟩
        · conv => whnf
          refine ⟨_, hwi23, ?_⟩
          conv => whnf
          exact hK26 _ () ⟨rfl, And.intro (.refl _) (And.intro (.refl _) (And.intro (.refl _) (And.intro (.refl _) (And.intro (.refl _) True.intro)))), True.intro, rfl⟩ h
    · rintro _ h
      conv => whnf
      cases h
      exact ⟨rfl, rfl⟩
end Go.AX.Q23
