/-
  The functions do what their plain forms say (proofs written by a program of mine), part 2.
-/
import Derived.Test.YtoankoojoeaooaaQ23P1
namespace Go.AX.Q23
open Go Go.AX Go.Proofs
set_option maxRecDepth 100000
set_option maxHeartbeats 4000000
set_option linter.unusedVariables false
theorem role_Send_ok {a0 : Int} {a1 : Int} {a2 : Attrs} {r : Attrs × Int} (h : role_Send a0 a1 a2 = some r) : CallsOK Try.prog 19 [AV.d (D.i a0), AV.d (D.i a1), AV.d (Attrs.toD a2)] [] (.tup [.d (Attrs.toD r.1), .d (D.i r.2)]) [] := by
  refine ok Try.f19 (by kernel_rfl) (by kernel_rfl) ⟨rfl, ?_⟩
  unfold role_Send at h
  conv => whnf
  revert h; refine cut_join (fun v5 => ⟨AV.d (D.i a0) :: AV.d (D.i a1) :: X :: X :: X :: AV.ref 5 0 :: AV.ref 6 0 :: dd 11 (AV.d (D.b v5) :: dd 30 ([])), nn 5 (some (OB.box [AV.d (D.i a2.Origin), AV.d (D.l 2 Segment.toD a2.Path), AV.d (D.b a2.Next.V6), AV.d (D.u64 a2.Next.Hi), AV.d (D.u64 a2.Next.Lo), AV.d (D.i a2.MED), AV.d (D.i a2.Pref), AV.d (D.i a2.OTC), AV.d (D.l 2 Community.toD a2.Communities), AV.d (D.l 3 Large.toD a2.Large), AV.d (D.l 3 Unknown.toD a2.Other)]) :: some (OB.box [AV.d (D.i 0), AV.d (D.nil 2), AV.d (D.b false), AV.d (D.u64 (0 : UInt64)), AV.d (D.u64 (0 : UInt64)), AV.d (D.i 0), AV.d (D.i 0), AV.d (D.i 0), AV.d (D.nil 2), AV.d (D.nil 3), AV.d (D.nil 3)]) :: nn 42 ([]))⟩) ?_ ?_
  · intro k6 h
    conv => whnf
    replace h := bind_inv h; obtain ⟨v7, g8, h⟩ := h
    refine ⟨_, _, role_known_ok g8, .inl rfl, ?_⟩
    conv => whnf
    revert h; refine sel_if ?_ ?_ <;> intro h
    · conv => whnf
      exact join_end (v := true) ⟨rfl, And.intro (.refl _) (And.intro (.refl _) (And.intro (.refl _) (And.intro (.refl _) (And.intro (.refl _) True.intro)))), And.intro ⟨_, rfl, And.intro ⟨rfl, .refl _⟩ (And.intro ⟨rfl, .refl _⟩ (And.intro ⟨rfl, .refl _⟩ (And.intro ⟨rfl, .refl _⟩ (And.intro ⟨rfl, .refl _⟩ (And.intro ⟨rfl, .refl _⟩ (And.intro ⟨rfl, .refl _⟩ (And.intro ⟨rfl, .refl _⟩ (And.intro ⟨rfl, .refl _⟩ (And.intro ⟨rfl, .refl _⟩ (And.intro ⟨rfl, .refl _⟩ (True.intro)))))))))))⟩ (And.intro ⟨_, rfl, And.intro ⟨rfl, .refl _⟩ (And.intro ⟨rfl, .refl _⟩ (And.intro ⟨rfl, .refl _⟩ (And.intro ⟨rfl, .refl _⟩ (And.intro ⟨rfl, .refl _⟩ (And.intro ⟨rfl, .refl _⟩ (And.intro ⟨rfl, .refl _⟩ (And.intro ⟨rfl, .refl _⟩ (And.intro ⟨rfl, .refl _⟩ (And.intro ⟨rfl, .refl _⟩ (And.intro ⟨rfl, .refl _⟩ (True.intro)))))))))))⟩ (True.intro)), rfl⟩ h
    · conv => whnf
      replace h := bind_inv h; obtain ⟨v9, g10, h⟩ := h
      refine ⟨_, _, role_number_ok g10, .inl rfl, ?_⟩
      conv => whnf
      exact join_end (v := (!v9)) ⟨rfl, And.intro (.refl _) (And.intro (.refl _) (And.intro (.refl _) (And.intro (.refl _) (And.intro (.refl _) True.intro)))), And.intro ⟨_, rfl, And.intro ⟨rfl, .refl _⟩ (And.intro ⟨rfl, .refl _⟩ (And.intro ⟨rfl, .refl _⟩ (And.intro ⟨rfl, .refl _⟩ (And.intro ⟨rfl, .refl _⟩ (And.intro ⟨rfl, .refl _⟩ (And.intro ⟨rfl, .refl _⟩ (And.intro ⟨rfl, .refl _⟩ (And.intro ⟨rfl, .refl _⟩ (And.intro ⟨rfl, .refl _⟩ (And.intro ⟨rfl, .refl _⟩ (True.intro)))))))))))⟩ (And.intro ⟨_, rfl, And.intro ⟨rfl, .refl _⟩ (And.intro ⟨rfl, .refl _⟩ (And.intro ⟨rfl, .refl _⟩ (And.intro ⟨rfl, .refl _⟩ (And.intro ⟨rfl, .refl _⟩ (And.intro ⟨rfl, .refl _⟩ (And.intro ⟨rfl, .refl _⟩ (And.intro ⟨rfl, .refl _⟩ (And.intro ⟨rfl, .refl _⟩ (And.intro ⟨rfl, .refl _⟩ (And.intro ⟨rfl, .refl _⟩ (True.intro)))))))))))⟩ (True.intro)), rfl⟩ h
  · rintro v5 h
    conv => whnf
    refine .go ?_
    conv => whnf
    revert h; refine sel_if ?_ ?_ <;> intro h
    · conv => whnf
      cases h
      exact ⟨rfl, rfl⟩
    · conv => whnf
      revert h; refine cut_join (fun v11 => ⟨AV.d (D.i a0) :: AV.d (D.i a1) :: X :: X :: X :: AV.ref 5 0 :: AV.ref 6 0 :: X :: AV.d (D.b (a2.OTC != (-1))) :: AV.d (D.b v11) :: dd 39 ([]), nn 5 (some (OB.box [AV.d (D.i a2.Origin), AV.d (D.l 2 Segment.toD a2.Path), AV.d (D.b a2.Next.V6), AV.d (D.u64 a2.Next.Hi), AV.d (D.u64 a2.Next.Lo), AV.d (D.i a2.MED), AV.d (D.i a2.Pref), AV.d (D.i a2.OTC), AV.d (D.l 2 Community.toD a2.Communities), AV.d (D.l 3 Large.toD a2.Large), AV.d (D.l 3 Unknown.toD a2.Other)]) :: some (OB.box [AV.d (D.i 0), AV.d (D.nil 2), AV.d (D.b false), AV.d (D.u64 (0 : UInt64)), AV.d (D.u64 (0 : UInt64)), AV.d (D.i 0), AV.d (D.i 0), AV.d (D.i 0), AV.d (D.nil 2), AV.d (D.nil 3), AV.d (D.nil 3)]) :: nn 42 ([]))⟩) ?_ ?_
      · intro k12 h
        conv => whnf
        revert h; refine sel_if ?_ ?_ <;> intro h
        · conv => whnf
          exact join_end (v := true) ⟨rfl, And.intro (.refl _) (And.intro (.refl _) (And.intro (.refl _) (And.intro (.refl _) (And.intro (.refl _) (And.intro (.refl _) True.intro))))), And.intro ⟨_, rfl, And.intro ⟨rfl, .refl _⟩ (And.intro ⟨rfl, .refl _⟩ (And.intro ⟨rfl, .refl _⟩ (And.intro ⟨rfl, .refl _⟩ (And.intro ⟨rfl, .refl _⟩ (And.intro ⟨rfl, .refl _⟩ (And.intro ⟨rfl, .refl _⟩ (And.intro ⟨rfl, .refl _⟩ (And.intro ⟨rfl, .refl _⟩ (And.intro ⟨rfl, .refl _⟩ (And.intro ⟨rfl, .refl _⟩ (True.intro)))))))))))⟩ (And.intro ⟨_, rfl, And.intro ⟨rfl, .refl _⟩ (And.intro ⟨rfl, .refl _⟩ (And.intro ⟨rfl, .refl _⟩ (And.intro ⟨rfl, .refl _⟩ (And.intro ⟨rfl, .refl _⟩ (And.intro ⟨rfl, .refl _⟩ (And.intro ⟨rfl, .refl _⟩ (And.intro ⟨rfl, .refl _⟩ (And.intro ⟨rfl, .refl _⟩ (And.intro ⟨rfl, .refl _⟩ (And.intro ⟨rfl, .refl _⟩ (True.intro)))))))))))⟩ (True.intro)), rfl⟩ h
        · conv => whnf
          exact join_end (v := (a0 == 1)) ⟨rfl, And.intro (.refl _) (And.intro (.refl _) (And.intro (.refl _) (And.intro (.refl _) (And.intro (.refl _) (And.intro (.refl _) True.intro))))), And.intro ⟨_, rfl, And.intro ⟨rfl, .refl _⟩ (And.intro ⟨rfl, .refl _⟩ (And.intro ⟨rfl, .refl _⟩ (And.intro ⟨rfl, .refl _⟩ (And.intro ⟨rfl, .refl _⟩ (And.intro ⟨rfl, .refl _⟩ (And.intro ⟨rfl, .refl _⟩ (And.intro ⟨rfl, .refl _⟩ (And.intro ⟨rfl, .refl _⟩ (And.intro ⟨rfl, .refl _⟩ (And.intro ⟨rfl, .refl _⟩ (True.intro)))))))))))⟩ (And.intro ⟨_, rfl, And.intro ⟨rfl, .refl _⟩ (And.intro ⟨rfl, .refl _⟩ (And.intro ⟨rfl, .refl _⟩ (And.intro ⟨rfl, .refl _⟩ (And.intro ⟨rfl, .refl _⟩ (And.intro ⟨rfl, .refl _⟩ (And.intro ⟨rfl, .refl _⟩ (And.intro ⟨rfl, .refl _⟩ (And.intro ⟨rfl, .refl _⟩ (And.intro ⟨rfl, .refl _⟩ (And.intro ⟨rfl, .refl _⟩ (True.intro)))))))))))⟩ (True.intro)), rfl⟩ h
      · rintro v11 h
        conv => whnf
        revert h; refine cut_join (fun v13 => ⟨AV.d (D.i a0) :: AV.d (D.i a1) :: X :: X :: X :: AV.ref 5 0 :: AV.ref 6 0 :: X :: AV.d (D.b (a2.OTC != (-1))) :: AV.d (D.b v11) :: dd 23 (AV.d (D.b v13) :: dd 15 ([])), nn 5 (some (OB.box [AV.d (D.i a2.Origin), AV.d (D.l 2 Segment.toD a2.Path), AV.d (D.b a2.Next.V6), AV.d (D.u64 a2.Next.Hi), AV.d (D.u64 a2.Next.Lo), AV.d (D.i a2.MED), AV.d (D.i a2.Pref), AV.d (D.i a2.OTC), AV.d (D.l 2 Community.toD a2.Communities), AV.d (D.l 3 Large.toD a2.Large), AV.d (D.l 3 Unknown.toD a2.Other)]) :: some (OB.box [AV.d (D.i 0), AV.d (D.nil 2), AV.d (D.b false), AV.d (D.u64 (0 : UInt64)), AV.d (D.u64 (0 : UInt64)), AV.d (D.i 0), AV.d (D.i 0), AV.d (D.i 0), AV.d (D.nil 2), AV.d (D.nil 3), AV.d (D.nil 3)]) :: nn 42 ([]))⟩) ?_ ?_
        · intro k14 h
          conv => whnf
          revert h; refine sel_if ?_ ?_ <;> intro h
          · conv => whnf
            exact join_end (v := (!v11)) ⟨rfl, And.intro (.refl _) (And.intro (.refl _) (And.intro (.refl _) (And.intro (.refl _) (And.intro (.refl _) (And.intro (.refl _) (And.intro (.refl _) True.intro)))))), And.intro ⟨_, rfl, And.intro ⟨rfl, .refl _⟩ (And.intro ⟨rfl, .refl _⟩ (And.intro ⟨rfl, .refl _⟩ (And.intro ⟨rfl, .refl _⟩ (And.intro ⟨rfl, .refl _⟩ (And.intro ⟨rfl, .refl _⟩ (And.intro ⟨rfl, .refl _⟩ (And.intro ⟨rfl, .refl _⟩ (And.intro ⟨rfl, .refl _⟩ (And.intro ⟨rfl, .refl _⟩ (And.intro ⟨rfl, .refl _⟩ (True.intro)))))))))))⟩ (And.intro ⟨_, rfl, And.intro ⟨rfl, .refl _⟩ (And.intro ⟨rfl, .refl _⟩ (And.intro ⟨rfl, .refl _⟩ (And.intro ⟨rfl, .refl _⟩ (And.intro ⟨rfl, .refl _⟩ (And.intro ⟨rfl, .refl _⟩ (And.intro ⟨rfl, .refl _⟩ (And.intro ⟨rfl, .refl _⟩ (And.intro ⟨rfl, .refl _⟩ (And.intro ⟨rfl, .refl _⟩ (And.intro ⟨rfl, .refl _⟩ (True.intro)))))))))))⟩ (True.intro)), rfl⟩ h
          · conv => whnf
            exact join_end (v := false) ⟨rfl, And.intro (.refl _) (And.intro (.refl _) (And.intro (.refl _) (And.intro (.refl _) (And.intro (.refl _) (And.intro (.refl _) (And.intro (.refl _) True.intro)))))), And.intro ⟨_, rfl, And.intro ⟨rfl, .refl _⟩ (And.intro ⟨rfl, .refl _⟩ (And.intro ⟨rfl, .refl _⟩ (And.intro ⟨rfl, .refl _⟩ (And.intro ⟨rfl, .refl _⟩ (And.intro ⟨rfl, .refl _⟩ (And.intro ⟨rfl, .refl _⟩ (And.intro ⟨rfl, .refl _⟩ (And.intro ⟨rfl, .refl _⟩ (And.intro ⟨rfl, .refl _⟩ (And.intro ⟨rfl, .refl _⟩ (True.intro)))))))))))⟩ (And.intro ⟨_, rfl, And.intro ⟨rfl, .refl _⟩ (And.intro ⟨rfl, .refl _⟩ (And.intro ⟨rfl, .refl _⟩ (And.intro ⟨rfl, .refl _⟩ (And.intro ⟨rfl, .refl _⟩ (And.intro ⟨rfl, .refl _⟩ (And.intro ⟨rfl, .refl _⟩ (And.intro ⟨rfl, .refl _⟩ (And.intro ⟨rfl, .refl _⟩ (And.intro ⟨rfl, .refl _⟩ (And.intro ⟨rfl, .refl _⟩ (True.intro)))))))))))⟩ (True.intro)), rfl⟩ h
        · rintro v13 h
          conv => whnf
          refine .go ?_
          conv => whnf
          revert h; refine sel_if ?_ ?_ <;> intro h
          · conv => whnf
            cases h
            exact ⟨rfl, rfl⟩
          · conv => whnf
            replace h := bind_inv h; obtain ⟨v15, g16, h⟩ := h
            refine ⟨_, _, clone_Attrs_ok g16, .inl rfl, ?_⟩
            conv => whnf
            revert h; refine cut_join (fun v17 => ⟨X :: AV.d (D.i a1) :: dd 4 (AV.ref 6 0 :: X :: X :: X :: AV.ref 10 0 :: dd 34 (AV.d (D.b v17) :: X :: X :: X :: [])), nn 6 (some (OB.box [AV.d (D.i 0), AV.d (D.nil 2), AV.d (D.b false), AV.d (D.u64 (0 : UInt64)), AV.d (D.u64 (0 : UInt64)), AV.d (D.i 0), AV.d (D.i 0), AV.d (D.i 0), AV.d (D.nil 2), AV.d (D.nil 3), AV.d (D.nil 3)]) :: N :: N :: N :: some (OB.box [AV.d (D.i v15.Origin), AV.d (D.l 2 Segment.toD v15.Path), AV.d (D.b v15.Next.V6), AV.d (D.u64 v15.Next.Hi), AV.d (D.u64 v15.Next.Lo), AV.d (D.i v15.MED), AV.d (D.i v15.Pref), AV.d (D.i v15.OTC), AV.d (D.l 2 Community.toD v15.Communities), AV.d (D.l 3 Large.toD v15.Large), AV.d (D.l 3 Unknown.toD v15.Other)]) :: nn 38 ([]))⟩) ?_ ?_
            · intro k18 h
              conv => whnf
              revert h; refine sel_if ?_ ?_ <;> intro h
              · conv => whnf
                revert h; refine sel_if ?_ ?_ <;> intro h
                · conv => whnf
                  exact join_end (v := true) ⟨rfl, And.intro (.refl _) (And.intro (.refl _) (And.intro (.refl _) (And.intro (.refl _) True.intro))), And.intro ⟨_, rfl, And.intro ⟨rfl, .refl _⟩ (And.intro ⟨rfl, .refl _⟩ (And.intro ⟨rfl, .refl _⟩ (And.intro ⟨rfl, .refl _⟩ (And.intro ⟨rfl, .refl _⟩ (And.intro ⟨rfl, .refl _⟩ (And.intro ⟨rfl, .refl _⟩ (And.intro ⟨rfl, .refl _⟩ (And.intro ⟨rfl, .refl _⟩ (And.intro ⟨rfl, .refl _⟩ (And.intro ⟨rfl, .refl _⟩ (True.intro)))))))))))⟩ (And.intro ⟨_, rfl, And.intro ⟨rfl, .refl _⟩ (And.intro ⟨rfl, .refl _⟩ (And.intro ⟨rfl, .refl _⟩ (And.intro ⟨rfl, .refl _⟩ (And.intro ⟨rfl, .refl _⟩ (And.intro ⟨rfl, .refl _⟩ (And.intro ⟨rfl, .refl _⟩ (And.intro ⟨rfl, .refl _⟩ (And.intro ⟨rfl, .refl _⟩ (And.intro ⟨rfl, .refl _⟩ (And.intro ⟨rfl, .refl _⟩ (True.intro)))))))))))⟩ (True.intro)), rfl⟩ h
                · conv => whnf
                  exact join_end (v := (a0 == 4)) ⟨rfl, And.intro (.refl _) (And.intro (.refl _) (And.intro (.refl _) (And.intro (.refl _) True.intro))), And.intro ⟨_, rfl, And.intro ⟨rfl, .refl _⟩ (And.intro ⟨rfl, .refl _⟩ (And.intro ⟨rfl, .refl _⟩ (And.intro ⟨rfl, .refl _⟩ (And.intro ⟨rfl, .refl _⟩ (And.intro ⟨rfl, .refl _⟩ (And.intro ⟨rfl, .refl _⟩ (And.intro ⟨rfl, .refl _⟩ (And.intro ⟨rfl, .refl _⟩ (And.intro ⟨rfl, .refl _⟩ (And.intro ⟨rfl, .refl _⟩ (True.intro)))))))))))⟩ (And.intro ⟨_, rfl, And.intro ⟨rfl, .refl _⟩ (And.intro ⟨rfl, .refl _⟩ (And.intro ⟨rfl, .refl _⟩ (And.intro ⟨rfl, .refl _⟩ (And.intro ⟨rfl, .refl _⟩ (And.intro ⟨rfl, .refl _⟩ (And.intro ⟨rfl, .refl _⟩ (And.intro ⟨rfl, .refl _⟩ (And.intro ⟨rfl, .refl _⟩ (And.intro ⟨rfl, .refl _⟩ (And.intro ⟨rfl, .refl _⟩ (True.intro)))))))))))⟩ (True.intro)), rfl⟩ h
              · conv => whnf
                exact join_end (v := false) ⟨rfl, And.intro (.refl _) (And.intro (.refl _) (And.intro (.refl _) (And.intro (.refl _) True.intro))), And.intro ⟨_, rfl, And.intro ⟨rfl, .refl _⟩ (And.intro ⟨rfl, .refl _⟩ (And.intro ⟨rfl, .refl _⟩ (And.intro ⟨rfl, .refl _⟩ (And.intro ⟨rfl, .refl _⟩ (And.intro ⟨rfl, .refl _⟩ (And.intro ⟨rfl, .refl _⟩ (And.intro ⟨rfl, .refl _⟩ (And.intro ⟨rfl, .refl _⟩ (And.intro ⟨rfl, .refl _⟩ (And.intro ⟨rfl, .refl _⟩ (True.intro)))))))))))⟩ (And.intro ⟨_, rfl, And.intro ⟨rfl, .refl _⟩ (And.intro ⟨rfl, .refl _⟩ (And.intro ⟨rfl, .refl _⟩ (And.intro ⟨rfl, .refl _⟩ (And.intro ⟨rfl, .refl _⟩ (And.intro ⟨rfl, .refl _⟩ (And.intro ⟨rfl, .refl _⟩ (And.intro ⟨rfl, .refl _⟩ (And.intro ⟨rfl, .refl _⟩ (And.intro ⟨rfl, .refl _⟩ (And.intro ⟨rfl, .refl _⟩ (True.intro)))))))))))⟩ (True.intro)), rfl⟩ h
            · rintro v17 h
              conv => whnf
              revert h; refine cut_join (fun v19 => ⟨dd 6 (AV.ref 6 0 :: X :: X :: X :: AV.ref 10 0 :: dd 38 ([])), nn 6 (some (OB.box [AV.d (D.i 0), AV.d (D.nil 2), AV.d (D.b false), AV.d (D.u64 (0 : UInt64)), AV.d (D.u64 (0 : UInt64)), AV.d (D.i 0), AV.d (D.i 0), AV.d (D.i 0), AV.d (D.nil 2), AV.d (D.nil 3), AV.d (D.nil 3)]) :: N :: N :: N :: some (OB.box [AV.d (D.i v15.Origin), AV.d (D.l 2 Segment.toD v15.Path), AV.d (D.b v15.Next.V6), AV.d (D.u64 v15.Next.Hi), AV.d (D.u64 v15.Next.Lo), AV.d (D.i v15.MED), AV.d (D.i v15.Pref), AV.d (D.i v19), AV.d (D.l 2 Community.toD v15.Communities), AV.d (D.l 3 Large.toD v15.Large), AV.d (D.l 3 Unknown.toD v15.Other)]) :: nn 38 ([]))⟩) ?_ ?_
              · intro k20 h
                conv => whnf
                revert h; refine sel_if ?_ ?_ <;> intro h
                · conv => whnf
                  exact join_end (v := a1) ⟨rfl, And.intro (.refl _) (And.intro (.refl _) True.intro), And.intro ⟨_, rfl, And.intro ⟨rfl, .refl _⟩ (And.intro ⟨rfl, .refl _⟩ (And.intro ⟨rfl, .refl _⟩ (And.intro ⟨rfl, .refl _⟩ (And.intro ⟨rfl, .refl _⟩ (And.intro ⟨rfl, .refl _⟩ (And.intro ⟨rfl, .refl _⟩ (And.intro ⟨rfl, .refl _⟩ (And.intro ⟨rfl, .refl _⟩ (And.intro ⟨rfl, .refl _⟩ (And.intro ⟨rfl, .refl _⟩ (True.intro)))))))))))⟩ (And.intro ⟨_, rfl, And.intro ⟨rfl, .refl _⟩ (And.intro ⟨rfl, .refl _⟩ (And.intro ⟨rfl, .refl _⟩ (And.intro ⟨rfl, .refl _⟩ (And.intro ⟨rfl, .refl _⟩ (And.intro ⟨rfl, .refl _⟩ (And.intro ⟨rfl, .refl _⟩ (And.intro ⟨rfl, .refl _⟩ (And.intro ⟨rfl, .refl _⟩ (And.intro ⟨rfl, .refl _⟩ (And.intro ⟨rfl, .refl _⟩ (True.intro)))))))))))⟩ (True.intro)), rfl⟩ h
                · conv => whnf
                  exact join_end (v := v15.OTC) ⟨rfl, And.intro (.refl _) (And.intro (.refl _) True.intro), And.intro ⟨_, rfl, And.intro ⟨rfl, .refl _⟩ (And.intro ⟨rfl, .refl _⟩ (And.intro ⟨rfl, .refl _⟩ (And.intro ⟨rfl, .refl _⟩ (And.intro ⟨rfl, .refl _⟩ (And.intro ⟨rfl, .refl _⟩ (And.intro ⟨rfl, .refl _⟩ (And.intro ⟨rfl, .refl _⟩ (And.intro ⟨rfl, .refl _⟩ (And.intro ⟨rfl, .refl _⟩ (And.intro ⟨rfl, .refl _⟩ (True.intro)))))))))))⟩ (And.intro ⟨_, rfl, And.intro ⟨rfl, .refl _⟩ (And.intro ⟨rfl, .refl _⟩ (And.intro ⟨rfl, .refl _⟩ (And.intro ⟨rfl, .refl _⟩ (And.intro ⟨rfl, .refl _⟩ (And.intro ⟨rfl, .refl _⟩ (And.intro ⟨rfl, .refl _⟩ (And.intro ⟨rfl, .refl _⟩ (And.intro ⟨rfl, .refl _⟩ (And.intro ⟨rfl, .refl _⟩ (And.intro ⟨rfl, .refl _⟩ (True.intro)))))))))))⟩ (True.intro)), rfl⟩ h
              · rintro v19 h
                conv => whnf
                cases h
                exact ⟨rfl, rfl⟩

theorem role_joined_ok {a0 : List Hop} {a1 : Int} {r : Bool} (h : role_joined a0 a1 = some r) : CallsOK Try.prog 38 [AV.d (D.l 3 Hop.toD a0), AV.d (D.i a1)] [] (.d (D.b r)) [] := by
  refine ok Try.f38 (by kernel_rfl) (by kernel_rfl) ⟨rfl, ?_⟩
  unfold role_joined at h
  conv => whnf
  replace h := bind_inv h; obtain ⟨v1, g2, h⟩ := h
  refine ⟨geti_b (f := Hop.toD) g2, Hop.toD v1, geti_d (f := Hop.toD) g2, rfl, ?_⟩
  conv => whnf
  revert h; refine cut_join (fun v11 => ⟨dd 4 (AV.d (D.b v11) :: dd 33 ([])), nn 38 ([])⟩) ?_ ?_
  · intro k12 h
    conv => whnf
    refine dOB (by kernel_rfl) ?_
    conv => whnf
    replace h := bind_inv h; obtain ⟨v13, g14, h⟩ := h
    refine ⟨_, _, role_known_ok g14, .inl rfl, ?_⟩
    conv => whnf
    revert h; refine sel_if ?_ ?_ <;> intro h
    · conv => whnf
      replace h := bind_inv h; obtain ⟨v15, g16, h⟩ := h
      refine ⟨_, _, role_number_ok g16, .inl rfl, ?_⟩
      conv => whnf
      revert h; refine sel_if ?_ ?_ <;> intro h
      · conv => whnf
        replace h := bind_inv h; obtain ⟨v17, g18, h⟩ := h
        refine ⟨_, _, role_number_ok g18, .inl rfl, ?_⟩
        conv => whnf
        revert h; refine sel_if ?_ ?_ <;> intro h
        · conv => whnf
          revert h; refine sel_if ?_ ?_ <;> intro h
          · conv => whnf
            refine cOB (by kernel_rfl) ?_
            conv => whnf
            exact join_end (v := true) ⟨rfl, And.intro (.refl _) True.intro, True.intro, rfl⟩ h
          · conv => whnf
            refine ⟨_, rfl, ?_⟩
            conv => whnf
            replace h := bind_inv h; obtain ⟨v19, g20, h⟩ := h
            refine ⟨geti_b (f := Hop.toD) g20, Hop.toD v19, geti_d (f := Hop.toD) g20, rfl, ?_⟩
            conv => whnf
            refine cOB (by kernel_rfl) ?_
            conv => whnf
            exact join_end (v := (v19.To == v1.From)) ⟨rfl, And.intro (.refl _) True.intro, True.intro, rfl⟩ h
        · conv => whnf
          refine cOB (by kernel_rfl) ?_
          conv => whnf
          exact join_end (v := false) ⟨rfl, And.intro (.refl _) True.intro, True.intro, rfl⟩ h
      · conv => whnf
        refine cOB (by kernel_rfl) ?_
        conv => whnf
        exact join_end (v := false) ⟨rfl, And.intro (.refl _) True.intro, True.intro, rfl⟩ h
    · conv => whnf
      refine cOB (by kernel_rfl) ?_
      conv => whnf
      exact join_end (v := false) ⟨rfl, And.intro (.refl _) True.intro, True.intro, rfl⟩ h
  · rintro v11 h
    conv => whnf
    cases h
    exact ⟨rfl, rfl⟩

theorem role_Travels_ok {a0 : List Hop} {r : Bool} (h : role_Travels a0 = some r) : CallsOK Try.prog 23 [AV.d (D.l 3 Hop.toD a0)] [] (.d (D.b r)) [] := by
  refine ok Try.f23 (by kernel_rfl) (by kernel_rfl) ⟨rfl, ?_⟩
  unfold role_Travels at h
  conv => whnf
  refine ⟨a0.length, List.length_map _, ?_⟩
  conv => whnf
  revert h; refine cut_join (fun _ => ⟨dd 44 ([]), nn 44 ([])⟩) ?_ ?_
  · intro k72 h
    conv => whnf
    revert h; refine loop_for 9 3 Hop.toD rfl (fun i119 v118 => ⟨AV.d (D.l 3 Hop.toD a0) :: X :: X :: AV.ref 3 0 :: dd 5 (AV.d (D.l 3 Hop.toD a0) :: AV.d (D.i (a0.length : Int)) :: AV.d (D.i (i119 : Int)) :: dd 32 ([])), N :: N :: N :: some (OB.box [AV.d (D.i v118.Origin), AV.d (D.l 2 Segment.toD v118.Path), AV.d (D.b v118.Next.V6), AV.d (D.u64 v118.Next.Hi), AV.d (D.u64 v118.Next.Lo), AV.d (D.i v118.MED), AV.d (D.i v118.Pref), AV.d (D.i v118.OTC), AV.d (D.l 2 Community.toD v118.Communities), AV.d (D.l 3 Large.toD v118.Large), AV.d (D.l 3 Unknown.toD v118.Other)]) :: nn 40 ([])⟩) ⟨rfl, And.intro (.refl _) (And.intro (.refl _) (And.intro (.refl _) (And.intro (.refl _) (And.intro (.refl _) True.intro)))), And.intro ⟨_, rfl, And.intro ⟨rfl, .refl _⟩ (And.intro ⟨rfl, .norm _⟩ (And.intro ⟨rfl, .refl _⟩ (And.intro ⟨rfl, .refl _⟩ (And.intro ⟨rfl, .refl _⟩ (And.intro ⟨rfl, .refl _⟩ (And.intro ⟨rfl, .refl _⟩ (And.intro ⟨rfl, .refl _⟩ (And.intro ⟨rfl, .norm _⟩ (And.intro ⟨rfl, .norm _⟩ (And.intro ⟨rfl, .norm _⟩ (True.intro)))))))))))⟩ (True.intro), rfl⟩ ?_ ?_
    · rintro v118 K121 h
      conv => whnf
      refine .go ?_
      conv => whnf
      refine sel_f lt_f ?_
      conv => whnf
      exact join_end (v := ()) ⟨rfl, True.intro, True.intro, rfl⟩ h
    · rintro next123 i119 x120 v118 K121 hii119 hxi119 hwi119 h hK122
      conv => whnf
      refine .go ?_
      conv => whnf
      refine sel_t (lt_t hii119) ?_
      conv => whnf
      refine .go ?_
      conv => whnf
      refine ⟨idx_b (f := Hop.toD) hii119, Hop.toD x120, hxi119, rfl, ?_⟩
      conv => whnf
      replace h := bind_inv h; obtain ⟨v134, g135, h⟩ := h
      refine ⟨_, _, role_joined_ok g135, .inl rfl, ?_⟩
      conv => whnf
      refine .go ?_
      conv => whnf
      revert h; refine sel_if ?_ ?_ <;> intro h
      · conv => whnf
        cases h
        exact ⟨rfl, rfl⟩
      · conv => whnf
        replace h := bind_inv h; obtain ⟨⟨v136, v137⟩, g138, h⟩ := h
        refine ⟨_, _, role_Send_ok g138, .inl rfl, ?_⟩
        conv => whnf
        refine .go ?_
        conv => whnf
        revert h; refine sel_if ?_ ?_ <;> intro h
        · conv => whnf
          cases h
          exact ⟨rfl, rfl⟩
        · conv => whnf
          refine dOB (by kernel_rfl) ?_
          conv => whnf
          replace h := bind_inv h; obtain ⟨v139, g140, h⟩ := h
          refine ⟨_, _, role_Inverse_ok g140, .inl rfl, ?_⟩
          conv => whnf
          replace h := bind_inv h; obtain ⟨⟨v141, v142⟩, g143, h⟩ := h
          refine ⟨_, _, role_Receive_ok g143, .inl rfl, ?_⟩
          conv => whnf
          refine cOB (by kernel_rfl) ?_
          conv => whnf
          refine .go ?_
          conv => whnf
          revert h; refine sel_if ?_ ?_ <;> intro h
          · conv => whnf
            cases h
            exact ⟨rfl, rfl⟩
          · conv => whnf
            refine ⟨_, hwi119, ?_⟩
            conv => whnf
            exact hK122 _ v141 ⟨rfl, And.intro (.refl _) (And.intro (.refl _) (And.intro (.refl _) (And.intro (.refl _) (And.intro (.refl _) True.intro)))), And.intro ⟨_, rfl, And.intro ⟨rfl, .refl _⟩ (And.intro ⟨rfl, .refl _⟩ (And.intro ⟨rfl, .refl _⟩ (And.intro ⟨rfl, .refl _⟩ (And.intro ⟨rfl, .refl _⟩ (And.intro ⟨rfl, .refl _⟩ (And.intro ⟨rfl, .refl _⟩ (And.intro ⟨rfl, .refl _⟩ (And.intro ⟨rfl, .refl _⟩ (And.intro ⟨rfl, .refl _⟩ (And.intro ⟨rfl, .refl _⟩ (True.intro)))))))))))⟩ (True.intro), rfl⟩ h
  · rintro _ h
    conv => whnf
    cases h
    exact ⟨rfl, rfl⟩

theorem role_Valley_ok {a0 : List Hop} {r : Bool} (h : role_Valley a0 = some r) : CallsOK Try.prog 25 [AV.d (D.l 3 Hop.toD a0)] [] (.d (D.b r)) [] := by
  refine ok Try.f25 (by kernel_rfl) (by kernel_rfl) ⟨rfl, ?_⟩
  unfold role_Valley at h
  conv => whnf
  refine ⟨a0.length, List.length_map _, ?_⟩
  conv => whnf
  revert h; refine cut_join (fun _ => ⟨dd 27 ([]), nn 27 ([])⟩) ?_ ?_
  · intro k144 h
    conv => whnf
    revert h; refine loop_for 6 3 Hop.toD rfl (fun i239 v238 => ⟨AV.d (D.l 3 Hop.toD a0) :: X :: X :: AV.d (D.b v238) :: X :: X :: AV.d (D.l 3 Hop.toD a0) :: AV.d (D.i (a0.length : Int)) :: AV.d (D.i (i239 : Int)) :: dd 18 ([]), nn 27 ([])⟩) ⟨rfl, And.intro (.refl _) (And.intro (.refl _) (And.intro (.refl _) (And.intro (.refl _) (And.intro (.refl _) True.intro)))), True.intro, rfl⟩ ?_ ?_
    · rintro v238 K241 h
      conv => whnf
      refine .go ?_
      conv => whnf
      refine sel_f lt_f ?_
      conv => whnf
      exact join_end (v := ()) ⟨rfl, True.intro, True.intro, rfl⟩ h
    · rintro next243 i239 x240 v238 K241 hii239 hxi239 hwi239 h hK242
      conv => whnf
      refine .go ?_
      conv => whnf
      refine sel_t (lt_t hii239) ?_
      conv => whnf
      refine .go ?_
      conv => whnf
      refine ⟨idx_b (f := Hop.toD) hii239, Hop.toD x240, hxi239, rfl, ?_⟩
      conv => whnf
      replace h := bind_inv h; obtain ⟨v266, g267, h⟩ := h
      refine ⟨_, _, role_joined_ok g267, .inl rfl, ?_⟩
      conv => whnf
      refine .go ?_
      conv => whnf
      revert h; refine sel_if ?_ ?_ <;> intro h
      · conv => whnf
        cases h
        exact ⟨rfl, rfl⟩
      · conv => whnf
        refine .go ?_
        conv => whnf
        revert h; refine cut_join (fun v282 => ⟨AV.d (D.l 3 Hop.toD a0) :: X :: X :: AV.d (D.b v282) :: X :: X :: AV.d (D.l 3 Hop.toD a0) :: AV.d (D.i (a0.length : Int)) :: AV.d (D.i (i239 : Int)) :: dd 18 ([]), nn 27 ([])⟩) ?_ ?_
        · intro k283 h
          conv => whnf
          revert h; refine sel_if ?_ ?_ <;> intro h
          · conv => whnf
            refine .go ?_
            conv => whnf
            revert h; refine sel_if ?_ ?_ <;> intro h
            · conv => whnf
              cases h
              exact ⟨rfl, rfl⟩
            · conv => whnf
              exact join_end (v := true) ⟨rfl, And.intro (.refl _) (And.intro (.refl _) (And.intro (.refl _) (And.intro (.refl _) (And.intro (.refl _) True.intro)))), True.intro, rfl⟩ h
          · conv => whnf
            revert h; refine cut_join (fun v284 => ⟨AV.d (D.l 3 Hop.toD a0) :: X :: X :: AV.d (D.b v238) :: X :: X :: AV.d (D.l 3 Hop.toD a0) :: AV.d (D.i (a0.length : Int)) :: AV.d (D.i (i239 : Int)) :: dd 14 (AV.d (D.b v284) :: X :: X :: X :: []), nn 27 ([])⟩) ?_ ?_
            · intro k285 h
              conv => whnf
              revert h; refine sel_if ?_ ?_ <;> intro h
              · conv => whnf
                exact join_end (v := (x240.Role == 0)) ⟨rfl, And.intro (.refl _) (And.intro (.refl _) (And.intro (.refl _) (And.intro (.refl _) (And.intro (.refl _) (And.intro (.refl _) True.intro))))), True.intro, rfl⟩ h
              · conv => whnf
                exact join_end (v := (x240.Role == 1)) ⟨rfl, And.intro (.refl _) (And.intro (.refl _) (And.intro (.refl _) (And.intro (.refl _) (And.intro (.refl _) (And.intro (.refl _) True.intro))))), True.intro, rfl⟩ h
            · rintro v284 h
              conv => whnf
              revert h; refine cut_join (fun v286 => ⟨AV.d (D.l 3 Hop.toD a0) :: X :: X :: AV.d (D.b v286) :: X :: X :: AV.d (D.l 3 Hop.toD a0) :: AV.d (D.i (a0.length : Int)) :: AV.d (D.i (i239 : Int)) :: dd 18 ([]), nn 27 ([])⟩) ?_ ?_
              · intro k287 h
                conv => whnf
                revert h; refine sel_if ?_ ?_ <;> intro h
                · conv => whnf
                  exact join_end (v := true) ⟨rfl, And.intro (.refl _) (And.intro (.refl _) (And.intro (.refl _) (And.intro (.refl _) (And.intro (.refl _) True.intro)))), True.intro, rfl⟩ h
                · conv => whnf
                  refine .go ?_
                  conv => whnf
                  revert h; refine sel_if ?_ ?_ <;> intro h
                  · conv => whnf
                    cases h
                    exact ⟨rfl, rfl⟩
                  · conv => whnf
                    exact join_end (v := v238) ⟨rfl, And.intro (.refl _) (And.intro (.refl _) (And.intro (.refl _) (And.intro (.refl _) (And.intro (.refl _) True.intro)))), True.intro, rfl⟩ h
              · rintro v286 h
                conv => whnf
                exact join_end (v := v286) ⟨rfl, And.intro (.refl _) (And.intro (.refl _) (And.intro (.refl _) (And.intro (.refl _) (And.intro (.refl _) True.intro)))), True.intro, rfl⟩ h
        · rintro v282 h
          conv => whnf
          refine ⟨_, hwi239, ?_⟩
          conv => whnf
          exact hK242 _ v282 ⟨rfl, And.intro (.refl _) (And.intro (.refl _) (And.intro (.refl _) (And.intro (.refl _) (And.intro (.refl _) True.intro)))), True.intro, rfl⟩ h
  · rintro _ h
    conv => whnf
    cases h
    exact ⟨rfl, rfl⟩

theorem law23_awake_ok  {r : Bool} (h : law23_awake = some r) : CallsOK Try.prog 13 [] [] (.d (D.b r)) [] := by
  refine ok Try.f13 (by kernel_rfl) (by kernel_rfl) ⟨rfl, ?_⟩
  unfold law23_awake at h
  conv => whnf
  revert h; refine cut_join (fun v11 => ⟨AV.d (D.b v11) :: dd 29 ([]), nn 30 ([])⟩) ?_ ?_
  · intro k12 h
    conv => whnf
    refine ⟨rfl, ?_⟩
    conv => whnf
    replace h := bind_inv h; obtain ⟨v13, g14, h⟩ := h
    refine ⟨_, _, role_Travels_ok g14, .inl rfl, ?_⟩
    conv => whnf
    revert h; refine sel_if ?_ ?_ <;> intro h
    · conv => whnf
      refine ⟨rfl, ?_⟩
      conv => whnf
      replace h := bind_inv h; obtain ⟨v15, g16, h⟩ := h
      refine ⟨_, _, role_Travels_ok g16, .inl rfl, ?_⟩
      conv => whnf
      revert h; refine sel_if ?_ ?_ <;> intro h
      · conv => whnf
        refine ⟨rfl, ?_⟩
        conv => whnf
        replace h := bind_inv h; obtain ⟨v17, g18, h⟩ := h
        refine ⟨_, _, role_Valley_ok g18, .inl rfl, ?_⟩
        conv => whnf
        revert h; refine sel_if ?_ ?_ <;> intro h
        · conv => whnf
          refine ⟨rfl, ?_⟩
          conv => whnf
          replace h := bind_inv h; obtain ⟨v19, g20, h⟩ := h
          refine ⟨_, _, role_Valley_ok g20, .inl rfl, ?_⟩
          conv => whnf
          revert h; refine sel_if ?_ ?_ <;> intro h
          · conv => whnf
            replace h := bind_inv h; obtain ⟨v21, g22, h⟩ := h
            refine ⟨_, _, role_Fits_ok g22, .inl rfl, ?_⟩
            conv => whnf
            exact join_end (v := v21) ⟨rfl, And.intro (.refl _) True.intro, True.intro, rfl⟩ h
          · conv => whnf
            exact join_end (v := false) ⟨rfl, And.intro (.refl _) True.intro, True.intro, rfl⟩ h
        · conv => whnf
          exact join_end (v := false) ⟨rfl, And.intro (.refl _) True.intro, True.intro, rfl⟩ h
      · conv => whnf
        exact join_end (v := false) ⟨rfl, And.intro (.refl _) True.intro, True.intro, rfl⟩ h
    · conv => whnf
      exact join_end (v := false) ⟨rfl, And.intro (.refl _) True.intro, True.intro, rfl⟩ h
  · rintro v11 h
    conv => whnf
    cases h
    exact ⟨rfl, rfl⟩

theorem law23_RolePairs_ok {a0 : Int} {a1 : Int} {r : Bool} (h : law23_RolePairs a0 a1 = some r) : CallsOK Try.prog 3 [AV.d (D.i a0), AV.d (D.i a1)] [] (.d (D.b r)) [] := by
  refine ok Try.f3 (by kernel_rfl) (by kernel_rfl) ⟨rfl, ?_⟩
  unfold law23_RolePairs at h
  conv => whnf
  replace h := bind_inv h; obtain ⟨v1, g2, h⟩ := h
  refine ⟨_, _, mill_Mod_ok g2, .inl rfl, ?_⟩
  conv => whnf
  refine ⟨_, rfl, ?_⟩
  conv => whnf
  replace h := bind_inv h; obtain ⟨v3, g4, h⟩ := h
  refine ⟨_, _, mill_Mod_ok g4, .inl rfl, ?_⟩
  conv => whnf
  refine ⟨_, rfl, ?_⟩
  conv => whnf
  refine ⟨rfl, ?_⟩
  conv => whnf
  refine ⟨rfl, ?_⟩
  conv => whnf
  refine ⟨([([a0, a1] : List Int), ([(i64w (v1 - 1)), (i64w (v3 - 1))] : List Int)] : List (List Int)).length, by first | exact List.length_map _ | rfl | (simp only [List.length_map]; omega), ?_⟩
  conv => whnf
  revert h; refine cut_join (fun _ => ⟨dd 51 ([]), nn 51 ([])⟩) ?_ ?_
  · intro k180 h
    conv => whnf
    revert h; refine loop_own 17 22 1 false (D.l 1 D.i) rfl (fun i267 _ => ⟨dd 17 (AV.own 17 (List.map (D.l 1 D.i) ([([a0, a1] : List Int), ([(i64w (v1 - 1)), (i64w (v3 - 1))] : List Int)] : List (List Int))).length :: AV.d (D.i (([([a0, a1] : List Int), ([(i64w (v1 - 1)), (i64w (v3 - 1))] : List Int)] : List (List Int)).length : Int)) :: AV.d (D.i (i267 : Int)) :: dd 31 ([])), nn 17 (some (OB.row 22 1 (List.map (D.l 1 D.i) ([([a0, a1] : List Int), ([(i64w (v1 - 1)), (i64w (v3 - 1))] : List Int)] : List (List Int))) false) :: nn 33 ([]))⟩) ⟨rfl, And.intro (.refl _) (And.intro (.refl _) (And.intro (.refl _) True.intro)), And.intro (.inl ⟨_, rfl, id⟩) (True.intro), rfl⟩ ?_ ?_
    · rintro _ K269 h
      conv => whnf
      refine .go ?_
      conv => whnf
      exact join_end (v := ()) ⟨rfl, True.intro, True.intro, rfl⟩ h
    · rintro next271 i267 x268 _ K269 hii267 hxi267 hwi267 h hK270
      conv => whnf
      refine .go ?_
      conv => whnf
      refine sel_t (lt_t hii267) ?_
      conv => whnf
      refine .go ?_
      conv => whnf
      refine ⟨rfl, idx_b (f := (D.l 1 D.i)) hii267, ?_⟩
      conv => whnf
      refine ⟨rfl, (D.l 1 D.i) x268, hxi267, ?_⟩
      conv => whnf
      revert h; refine cut_join (fun v334 => ⟨dd 17 (AV.own 17 (List.map (D.l 1 D.i) ([([a0, a1] : List Int), ([(i64w (v1 - 1)), (i64w (v3 - 1))] : List Int)] : List (List Int))).length :: AV.d (D.i (([([a0, a1] : List Int), ([(i64w (v1 - 1)), (i64w (v3 - 1))] : List Int)] : List (List Int)).length : Int)) :: AV.d (D.i (i267 : Int)) :: dd 28 (AV.d (D.b v334) :: X :: X :: [])), nn 17 (some (OB.row 22 1 (List.map (D.l 1 D.i) ([([a0, a1] : List Int), ([(i64w (v1 - 1)), (i64w (v3 - 1))] : List Int)] : List (List Int))) false) :: nn 33 ([]))⟩) ?_ ?_
      · intro k335 h
        conv => whnf
        refine dOB (by kernel_rfl) ?_
        conv => whnf
        replace h := bind_inv h; obtain ⟨v336, g337, h⟩ := h
        refine ⟨geti_b (f := D.i) g337, D.i v336, geti_d (f := D.i) g337, rfl, ?_⟩
        conv => whnf
        replace h := bind_inv h; obtain ⟨v338, g339, h⟩ := h
        refine ⟨_, _, role_Inverse_ok g339, .inl rfl, ?_⟩
        conv => whnf
        replace h := bind_inv h; obtain ⟨v340, g341, h⟩ := h
        refine ⟨geti_b (f := D.i) g341, D.i v340, geti_d (f := D.i) g341, rfl, ?_⟩
        conv => whnf
        replace h := bind_inv h; obtain ⟨v342, g343, h⟩ := h
        refine ⟨_, _, ref23_Inverse_ok g343, .inl rfl, ?_⟩
        conv => whnf
        revert h; refine sel_if ?_ ?_ <;> intro h
        · conv => whnf
          refine cOB (by kernel_rfl) ?_
          conv => whnf
          exact join_end (v := true) ⟨rfl, And.intro (.refl _) (And.intro (.refl _) (And.intro (.refl _) (And.intro (.refl _) True.intro))), And.intro (.inl ⟨_, rfl, id⟩) (True.intro), rfl⟩ h
        · conv => whnf
          replace h := bind_inv h; obtain ⟨v344, g345, h⟩ := h
          refine ⟨geti_b (f := D.i) g345, D.i v344, geti_d (f := D.i) g345, rfl, ?_⟩
          conv => whnf
          replace h := bind_inv h; obtain ⟨v346, g347, h⟩ := h
          refine ⟨geti_b (f := D.i) g347, D.i v346, geti_d (f := D.i) g347, rfl, ?_⟩
          conv => whnf
          replace h := bind_inv h; obtain ⟨v348, g349, h⟩ := h
          refine ⟨_, _, role_Fits_ok g349, .inl rfl, ?_⟩
          conv => whnf
          replace h := bind_inv h; obtain ⟨v350, g351, h⟩ := h
          refine ⟨geti_b (f := D.i) g351, D.i v350, geti_d (f := D.i) g351, rfl, ?_⟩
          conv => whnf
          replace h := bind_inv h; obtain ⟨v352, g353, h⟩ := h
          refine ⟨geti_b (f := D.i) g353, D.i v352, geti_d (f := D.i) g353, rfl, ?_⟩
          conv => whnf
          replace h := bind_inv h; obtain ⟨v354, g355, h⟩ := h
          refine ⟨_, _, ref23_Fits_ok g355, .inl rfl, ?_⟩
          conv => whnf
          refine cOB (by kernel_rfl) ?_
          conv => whnf
          exact join_end (v := (!(v348 == v354))) ⟨rfl, And.intro (.refl _) (And.intro (.refl _) (And.intro (.refl _) (And.intro (.refl _) True.intro))), And.intro (.inl ⟨_, rfl, id⟩) (True.intro), rfl⟩ h
      · rintro v334 h
        conv => whnf
        refine .go ?_
        conv => whnf
        revert h; refine sel_if ?_ ?_ <;> intro h
        · conv => whnf
          cases h
          exact ⟨rfl, rfl⟩
        · conv => whnf
          refine ⟨_, hwi267, ?_⟩
          conv => whnf
          exact hK270 _ () ⟨rfl, And.intro (.refl _) (And.intro (.refl _) (And.intro (.refl _) True.intro)), And.intro (.inl ⟨_, rfl, id⟩) (True.intro), rfl⟩ h
  · rintro _ h
    conv => whnf
    replace h := bind_inv h; obtain ⟨v356, g357, h⟩ := h
    refine ⟨_, _, law23_awake_ok g357, .inl rfl, ?_⟩
    conv => whnf
    cases h
    exact ⟨rfl, rfl⟩

theorem mill_Small_ok {a0 : Attrs} {r : Bool} (h : mill_Small a0 = some r) : CallsOK Try.prog 14 [AV.d (Attrs.toD a0)] [] (.d (D.b r)) [] := by
  refine ok Try.f14 (by kernel_rfl) (by kernel_rfl) ⟨rfl, ?_⟩
  unfold mill_Small at h
  conv => whnf
  refine ⟨a0.Communities.length, List.length_map _, ?_⟩
  conv => whnf
  refine ⟨a0.Large.length, List.length_map _, ?_⟩
  conv => whnf
  refine ⟨_, rfl, ?_⟩
  conv => whnf
  refine ⟨a0.Other.length, List.length_map _, ?_⟩
  conv => whnf
  refine ⟨_, rfl, ?_⟩
  conv => whnf
  refine ⟨a0.Path.length, List.length_map _, ?_⟩
  conv => whnf
  revert h; refine cut_join (fun v12 => ⟨X :: AV.ref 1 0 :: X :: AV.d (D.i v12) :: dd 44 ([]), N :: some (OB.box [AV.d (D.i a0.Origin), AV.d (D.l 2 Segment.toD a0.Path), AV.d (D.b a0.Next.V6), AV.d (D.u64 a0.Next.Hi), AV.d (D.u64 a0.Next.Lo), AV.d (D.i a0.MED), AV.d (D.i a0.Pref), AV.d (D.i a0.OTC), AV.d (D.l 2 Community.toD a0.Communities), AV.d (D.l 3 Large.toD a0.Large), AV.d (D.l 3 Unknown.toD a0.Other)]) :: nn 46 ([])⟩) ?_ ?_
  · intro k13 h
    conv => whnf
    revert h; refine loop_for 20 2 Segment.toD rfl (fun i20 v19 => ⟨X :: AV.ref 1 0 :: X :: AV.d (D.i v19) :: dd 16 (AV.d (D.l 2 Segment.toD a0.Path) :: AV.d (D.i (a0.Path.length : Int)) :: AV.d (D.i (i20 : Int)) :: dd 25 ([])), N :: some (OB.box [AV.d (D.i a0.Origin), AV.d (D.l 2 Segment.toD a0.Path), AV.d (D.b a0.Next.V6), AV.d (D.u64 a0.Next.Hi), AV.d (D.u64 a0.Next.Lo), AV.d (D.i a0.MED), AV.d (D.i a0.Pref), AV.d (D.i a0.OTC), AV.d (D.l 2 Community.toD a0.Communities), AV.d (D.l 3 Large.toD a0.Large), AV.d (D.l 3 Unknown.toD a0.Other)]) :: nn 46 ([])⟩) ⟨rfl, And.intro (.refl _) (And.intro (.refl _) (And.intro (.refl _) (And.intro (.refl _) (And.intro (.refl _) True.intro)))), And.intro ⟨_, rfl, And.intro ⟨rfl, .refl _⟩ (And.intro ⟨rfl, .refl _⟩ (And.intro ⟨rfl, .refl _⟩ (And.intro ⟨rfl, .refl _⟩ (And.intro ⟨rfl, .refl _⟩ (And.intro ⟨rfl, .refl _⟩ (And.intro ⟨rfl, .refl _⟩ (And.intro ⟨rfl, .refl _⟩ (And.intro ⟨rfl, .refl _⟩ (And.intro ⟨rfl, .refl _⟩ (And.intro ⟨rfl, .refl _⟩ (True.intro)))))))))))⟩ (True.intro), rfl⟩ ?_ ?_
    · rintro v19 K22 h
      conv => whnf
      refine .go ?_
      conv => whnf
      refine sel_f lt_f ?_
      conv => whnf
      exact join_end (v := v19) ⟨rfl, And.intro (.refl _) (And.intro (.refl _) True.intro), And.intro ⟨_, rfl, And.intro ⟨rfl, .refl _⟩ (And.intro ⟨rfl, .refl _⟩ (And.intro ⟨rfl, .refl _⟩ (And.intro ⟨rfl, .refl _⟩ (And.intro ⟨rfl, .refl _⟩ (And.intro ⟨rfl, .refl _⟩ (And.intro ⟨rfl, .refl _⟩ (And.intro ⟨rfl, .refl _⟩ (And.intro ⟨rfl, .refl _⟩ (And.intro ⟨rfl, .refl _⟩ (And.intro ⟨rfl, .refl _⟩ (True.intro)))))))))))⟩ (True.intro), rfl⟩ h
    · rintro next24 i20 x21 v19 K22 hii20 hxi20 hwi20 h hK23
      conv => whnf
      refine .go ?_
      conv => whnf
      refine sel_t (lt_t hii20) ?_
      conv => whnf
      refine .go ?_
      conv => whnf
      refine ⟨idx_b (f := Segment.toD) hii20, Segment.toD x21, hxi20, rfl, ?_⟩
      conv => whnf
      refine ⟨x21.ASNs.length, List.length_map _, ?_⟩
      conv => whnf
      refine ⟨_, rfl, ?_⟩
      conv => whnf
      refine ⟨_, rfl, ?_⟩
      conv => whnf
      refine ⟨_, hwi20, ?_⟩
      conv => whnf
      exact hK23 _ (i64w (v19 + (i64w (1 + (x21.ASNs.length : Int))))) ⟨rfl, And.intro (.refl _) (And.intro (.refl _) (And.intro (.refl _) (And.intro (.refl _) (And.intro (.refl _) True.intro)))), And.intro ⟨_, rfl, And.intro ⟨rfl, .refl _⟩ (And.intro ⟨rfl, .refl _⟩ (And.intro ⟨rfl, .refl _⟩ (And.intro ⟨rfl, .refl _⟩ (And.intro ⟨rfl, .refl _⟩ (And.intro ⟨rfl, .refl _⟩ (And.intro ⟨rfl, .refl _⟩ (And.intro ⟨rfl, .refl _⟩ (And.intro ⟨rfl, .refl _⟩ (And.intro ⟨rfl, .refl _⟩ (And.intro ⟨rfl, .refl _⟩ (True.intro)))))))))))⟩ (True.intro), rfl⟩ h
  · rintro v12 h
    conv => whnf
    refine ⟨a0.Other.length, List.length_map _, ?_⟩
    conv => whnf
    revert h; refine cut_join (fun v36 => ⟨X :: X :: X :: AV.d (D.i v36) :: dd 44 ([]), nn 48 ([])⟩) ?_ ?_
    · intro k37 h
      conv => whnf
      revert h; refine loop_for 34 3 Unknown.toD rfl (fun i44 v43 => ⟨X :: X :: X :: AV.d (D.i v43) :: dd 30 (AV.d (D.l 3 Unknown.toD a0.Other) :: AV.d (D.i (a0.Other.length : Int)) :: AV.d (D.i (i44 : Int)) :: dd 11 ([])), nn 48 ([])⟩) ⟨rfl, And.intro (.refl _) (And.intro (.refl _) (And.intro (.refl _) (And.intro (.refl _) True.intro))), True.intro, rfl⟩ ?_ ?_
      · rintro v43 K46 h
        conv => whnf
        refine .go ?_
        conv => whnf
        refine sel_f lt_f ?_
        conv => whnf
        exact join_end (v := v43) ⟨rfl, And.intro (.refl _) True.intro, True.intro, rfl⟩ h
      · rintro next48 i44 x45 v43 K46 hii44 hxi44 hwi44 h hK47
        conv => whnf
        refine .go ?_
        conv => whnf
        refine sel_t (lt_t hii44) ?_
        conv => whnf
        refine .go ?_
        conv => whnf
        refine ⟨idx_b (f := Unknown.toD) hii44, Unknown.toD x45, hxi44, rfl, ?_⟩
        conv => whnf
        refine ⟨x45.Data.length, List.length_map _, ?_⟩
        conv => whnf
        refine ⟨_, rfl, ?_⟩
        conv => whnf
        refine ⟨_, hwi44, ?_⟩
        conv => whnf
        exact hK47 _ (i64w (v43 + (x45.Data.length : Int))) ⟨rfl, And.intro (.refl _) (And.intro (.refl _) (And.intro (.refl _) (And.intro (.refl _) True.intro))), True.intro, rfl⟩ h
    · rintro v36 h
      conv => whnf
      cases h
      exact ⟨rfl, rfl⟩

theorem mill_New_ok {a0 : List Int} {r : Deck} (h : mill_New a0 = some r) : CallsOK Try.prog 15 [AV.d (D.l 1 D.i a0)] [] (.ref 0 0) [.box (Deck.av r)] := by
  refine ok Try.f15 (by kernel_rfl) (by kernel_rfl) ⟨rfl, ?_⟩
  unfold mill_New at h
  conv => whnf
  cases h
  exact ⟨rfl, rfl⟩
end Go.AX.Q23
