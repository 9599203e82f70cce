/-
  The functions do what their plain forms say (proofs written by a program of mine), part 9.
-/
import Derived.Test.YtikcogmkchljaaaQ32P8
namespace Go.AX.Q32
open Go Go.AX Go.Proofs
set_option maxRecDepth 100000
set_option maxHeartbeats 4000000
set_option linter.unusedVariables false
theorem ref32_Tick_ok {a0 : Session} {a1 : Int} {r : Session × (List Message)} (h : ref32_Tick a0 a1 = some r) : CallsOK Try.prog 32 [AV.d (Session.toD a0), AV.d (D.i a1)] [] (.tup [.d (Session.toD r.1), .d (D.l 2 Message.toD r.2)]) [] := by
  refine ok Try.f32 (by kernel_rfl) (by kernel_rfl) ⟨rfl, ?_⟩
  unfold ref32_Tick at h
  conv => whnf
  replace h := bind_inv h; obtain ⟨v1, g2, h⟩ := h
  refine ⟨_, _, ref32_Hold_ok g2, .inl rfl, ?_⟩
  conv => whnf
  revert h; refine cut_join (fun v3 => ⟨X :: AV.d (D.i a1) :: AV.ref 2 0 :: X :: AV.ref 4 0 :: X :: AV.d (D.i v3) :: dd 48 ([]), N :: N :: some (OB.box [AV.d (D.i a0.State), AV.d (D.i a0.Mine.ASN), AV.d (D.i a0.Mine.ID), AV.d (D.i a0.Mine.Hold), AV.d (D.i a0.Mine.Role), AV.d (D.i a0.Mine.Grace), AV.d (D.b a0.Mine.Again), AV.d (D.i a0.ASN), AV.d (D.i a0.Theirs.ASN), AV.d (D.i a0.Theirs.ID), AV.d (D.i a0.Theirs.Hold), AV.d (D.i a0.Theirs.Role), AV.d (D.i a0.Theirs.Grace), AV.d (D.b a0.Theirs.Again), AV.d (D.i a0.Sent), AV.d (D.i a0.Heard)]) :: N :: some (OB.box [AV.d (D.i 0), AV.d (D.i 0), AV.d (D.i 0), AV.d (D.i 0), AV.d (D.i 0), AV.d (D.i 0), AV.d (D.b false), AV.d (D.i 0), AV.d (D.i 0), AV.d (D.i 0), AV.d (D.i 0), AV.d (D.i 0), AV.d (D.i 0), AV.d (D.b false), AV.d (D.i 0), AV.d (D.i 0)]) :: nn 50 ([])⟩) ?_ ?_
  · intro k4 h
    conv => whnf
    revert h; refine sel_if ?_ ?_ <;> intro h
    · conv => whnf
      exact join_end (v := 240) ⟨rfl, And.intro (.refl _) (And.intro (.refl _) (And.intro (.refl _) (And.intro (.refl _) True.intro))), And.intro ⟨_, rfl, And.intro ⟨rfl, .refl _⟩ (And.intro ⟨rfl, .refl _⟩ (And.intro ⟨rfl, .refl _⟩ (And.intro ⟨rfl, .refl _⟩ (And.intro ⟨rfl, .refl _⟩ (And.intro ⟨rfl, .refl _⟩ (And.intro ⟨rfl, .refl _⟩ (And.intro ⟨rfl, .refl _⟩ (And.intro ⟨rfl, .refl _⟩ (And.intro ⟨rfl, .refl _⟩ (And.intro ⟨rfl, .refl _⟩ (And.intro ⟨rfl, .refl _⟩ (And.intro ⟨rfl, .refl _⟩ (And.intro ⟨rfl, .refl _⟩ (And.intro ⟨rfl, .refl _⟩ (And.intro ⟨rfl, .refl _⟩ (True.intro))))))))))))))))⟩ (And.intro ⟨_, rfl, And.intro ⟨rfl, .refl _⟩ (And.intro ⟨rfl, .refl _⟩ (And.intro ⟨rfl, .refl _⟩ (And.intro ⟨rfl, .refl _⟩ (And.intro ⟨rfl, .refl _⟩ (And.intro ⟨rfl, .refl _⟩ (And.intro ⟨rfl, .refl _⟩ (And.intro ⟨rfl, .refl _⟩ (And.intro ⟨rfl, .refl _⟩ (And.intro ⟨rfl, .refl _⟩ (And.intro ⟨rfl, .refl _⟩ (And.intro ⟨rfl, .refl _⟩ (And.intro ⟨rfl, .refl _⟩ (And.intro ⟨rfl, .refl _⟩ (And.intro ⟨rfl, .refl _⟩ (And.intro ⟨rfl, .refl _⟩ (True.intro))))))))))))))))⟩ (True.intro)), rfl⟩ h
    · conv => whnf
      exact join_end (v := v1) ⟨rfl, And.intro (.refl _) (And.intro (.refl _) (And.intro (.refl _) (And.intro (.refl _) True.intro))), And.intro ⟨_, rfl, And.intro ⟨rfl, .refl _⟩ (And.intro ⟨rfl, .refl _⟩ (And.intro ⟨rfl, .refl _⟩ (And.intro ⟨rfl, .refl _⟩ (And.intro ⟨rfl, .refl _⟩ (And.intro ⟨rfl, .refl _⟩ (And.intro ⟨rfl, .refl _⟩ (And.intro ⟨rfl, .refl _⟩ (And.intro ⟨rfl, .refl _⟩ (And.intro ⟨rfl, .refl _⟩ (And.intro ⟨rfl, .refl _⟩ (And.intro ⟨rfl, .refl _⟩ (And.intro ⟨rfl, .refl _⟩ (And.intro ⟨rfl, .refl _⟩ (And.intro ⟨rfl, .refl _⟩ (And.intro ⟨rfl, .refl _⟩ (True.intro))))))))))))))))⟩ (And.intro ⟨_, rfl, And.intro ⟨rfl, .refl _⟩ (And.intro ⟨rfl, .refl _⟩ (And.intro ⟨rfl, .refl _⟩ (And.intro ⟨rfl, .refl _⟩ (And.intro ⟨rfl, .refl _⟩ (And.intro ⟨rfl, .refl _⟩ (And.intro ⟨rfl, .refl _⟩ (And.intro ⟨rfl, .refl _⟩ (And.intro ⟨rfl, .refl _⟩ (And.intro ⟨rfl, .refl _⟩ (And.intro ⟨rfl, .refl _⟩ (And.intro ⟨rfl, .refl _⟩ (And.intro ⟨rfl, .refl _⟩ (And.intro ⟨rfl, .refl _⟩ (And.intro ⟨rfl, .refl _⟩ (And.intro ⟨rfl, .refl _⟩ (True.intro))))))))))))))))⟩ (True.intro)), rfl⟩ h
  · rintro v3 h
    conv => whnf
    revert h; refine cut_join (fun v5 => ⟨X :: AV.d (D.i a1) :: AV.ref 2 0 :: X :: AV.ref 4 0 :: X :: AV.d (D.i v3) :: dd 17 (AV.d (D.b v5) :: dd 30 ([])), N :: N :: some (OB.box [AV.d (D.i a0.State), AV.d (D.i a0.Mine.ASN), AV.d (D.i a0.Mine.ID), AV.d (D.i a0.Mine.Hold), AV.d (D.i a0.Mine.Role), AV.d (D.i a0.Mine.Grace), AV.d (D.b a0.Mine.Again), AV.d (D.i a0.ASN), AV.d (D.i a0.Theirs.ASN), AV.d (D.i a0.Theirs.ID), AV.d (D.i a0.Theirs.Hold), AV.d (D.i a0.Theirs.Role), AV.d (D.i a0.Theirs.Grace), AV.d (D.b a0.Theirs.Again), AV.d (D.i a0.Sent), AV.d (D.i a0.Heard)]) :: N :: some (OB.box [AV.d (D.i 0), AV.d (D.i 0), AV.d (D.i 0), AV.d (D.i 0), AV.d (D.i 0), AV.d (D.i 0), AV.d (D.b false), AV.d (D.i 0), AV.d (D.i 0), AV.d (D.i 0), AV.d (D.i 0), AV.d (D.i 0), AV.d (D.i 0), AV.d (D.b false), AV.d (D.i 0), AV.d (D.i 0)]) :: nn 50 ([])⟩) ?_ ?_
    · intro k6 h
      conv => whnf
      revert h; refine sel_if ?_ ?_ <;> intro h
      · conv => whnf
        exact join_end (v := true) ⟨rfl, And.intro (.refl _) (And.intro (.refl _) (And.intro (.refl _) (And.intro (.refl _) (And.intro (.refl _) True.intro)))), And.intro ⟨_, rfl, And.intro ⟨rfl, .refl _⟩ (And.intro ⟨rfl, .refl _⟩ (And.intro ⟨rfl, .refl _⟩ (And.intro ⟨rfl, .refl _⟩ (And.intro ⟨rfl, .refl _⟩ (And.intro ⟨rfl, .refl _⟩ (And.intro ⟨rfl, .refl _⟩ (And.intro ⟨rfl, .refl _⟩ (And.intro ⟨rfl, .refl _⟩ (And.intro ⟨rfl, .refl _⟩ (And.intro ⟨rfl, .refl _⟩ (And.intro ⟨rfl, .refl _⟩ (And.intro ⟨rfl, .refl _⟩ (And.intro ⟨rfl, .refl _⟩ (And.intro ⟨rfl, .refl _⟩ (And.intro ⟨rfl, .refl _⟩ (True.intro))))))))))))))))⟩ (And.intro ⟨_, rfl, And.intro ⟨rfl, .refl _⟩ (And.intro ⟨rfl, .refl _⟩ (And.intro ⟨rfl, .refl _⟩ (And.intro ⟨rfl, .refl _⟩ (And.intro ⟨rfl, .refl _⟩ (And.intro ⟨rfl, .refl _⟩ (And.intro ⟨rfl, .refl _⟩ (And.intro ⟨rfl, .refl _⟩ (And.intro ⟨rfl, .refl _⟩ (And.intro ⟨rfl, .refl _⟩ (And.intro ⟨rfl, .refl _⟩ (And.intro ⟨rfl, .refl _⟩ (And.intro ⟨rfl, .refl _⟩ (And.intro ⟨rfl, .refl _⟩ (And.intro ⟨rfl, .refl _⟩ (And.intro ⟨rfl, .refl _⟩ (True.intro))))))))))))))))⟩ (True.intro)), rfl⟩ h
      · conv => whnf
        revert h; refine sel_if ?_ ?_ <;> intro h
        · conv => whnf
          exact join_end (v := true) ⟨rfl, And.intro (.refl _) (And.intro (.refl _) (And.intro (.refl _) (And.intro (.refl _) (And.intro (.refl _) True.intro)))), And.intro ⟨_, rfl, And.intro ⟨rfl, .refl _⟩ (And.intro ⟨rfl, .refl _⟩ (And.intro ⟨rfl, .refl _⟩ (And.intro ⟨rfl, .refl _⟩ (And.intro ⟨rfl, .refl _⟩ (And.intro ⟨rfl, .refl _⟩ (And.intro ⟨rfl, .refl _⟩ (And.intro ⟨rfl, .refl _⟩ (And.intro ⟨rfl, .refl _⟩ (And.intro ⟨rfl, .refl _⟩ (And.intro ⟨rfl, .refl _⟩ (And.intro ⟨rfl, .refl _⟩ (And.intro ⟨rfl, .refl _⟩ (And.intro ⟨rfl, .refl _⟩ (And.intro ⟨rfl, .refl _⟩ (And.intro ⟨rfl, .refl _⟩ (True.intro))))))))))))))))⟩ (And.intro ⟨_, rfl, And.intro ⟨rfl, .refl _⟩ (And.intro ⟨rfl, .refl _⟩ (And.intro ⟨rfl, .refl _⟩ (And.intro ⟨rfl, .refl _⟩ (And.intro ⟨rfl, .refl _⟩ (And.intro ⟨rfl, .refl _⟩ (And.intro ⟨rfl, .refl _⟩ (And.intro ⟨rfl, .refl _⟩ (And.intro ⟨rfl, .refl _⟩ (And.intro ⟨rfl, .refl _⟩ (And.intro ⟨rfl, .refl _⟩ (And.intro ⟨rfl, .refl _⟩ (And.intro ⟨rfl, .refl _⟩ (And.intro ⟨rfl, .refl _⟩ (And.intro ⟨rfl, .refl _⟩ (And.intro ⟨rfl, .refl _⟩ (True.intro))))))))))))))))⟩ (True.intro)), rfl⟩ h
        · conv => whnf
          exact join_end (v := (decide (a1 < a0.Heard))) ⟨rfl, And.intro (.refl _) (And.intro (.refl _) (And.intro (.refl _) (And.intro (.refl _) (And.intro (.refl _) True.intro)))), And.intro ⟨_, rfl, And.intro ⟨rfl, .refl _⟩ (And.intro ⟨rfl, .refl _⟩ (And.intro ⟨rfl, .refl _⟩ (And.intro ⟨rfl, .refl _⟩ (And.intro ⟨rfl, .refl _⟩ (And.intro ⟨rfl, .refl _⟩ (And.intro ⟨rfl, .refl _⟩ (And.intro ⟨rfl, .refl _⟩ (And.intro ⟨rfl, .refl _⟩ (And.intro ⟨rfl, .refl _⟩ (And.intro ⟨rfl, .refl _⟩ (And.intro ⟨rfl, .refl _⟩ (And.intro ⟨rfl, .refl _⟩ (And.intro ⟨rfl, .refl _⟩ (And.intro ⟨rfl, .refl _⟩ (And.intro ⟨rfl, .refl _⟩ (True.intro))))))))))))))))⟩ (And.intro ⟨_, rfl, And.intro ⟨rfl, .refl _⟩ (And.intro ⟨rfl, .refl _⟩ (And.intro ⟨rfl, .refl _⟩ (And.intro ⟨rfl, .refl _⟩ (And.intro ⟨rfl, .refl _⟩ (And.intro ⟨rfl, .refl _⟩ (And.intro ⟨rfl, .refl _⟩ (And.intro ⟨rfl, .refl _⟩ (And.intro ⟨rfl, .refl _⟩ (And.intro ⟨rfl, .refl _⟩ (And.intro ⟨rfl, .refl _⟩ (And.intro ⟨rfl, .refl _⟩ (And.intro ⟨rfl, .refl _⟩ (And.intro ⟨rfl, .refl _⟩ (And.intro ⟨rfl, .refl _⟩ (And.intro ⟨rfl, .refl _⟩ (True.intro))))))))))))))))⟩ (True.intro)), rfl⟩ h
    · rintro v5 h
      conv => whnf
      refine .go ?_
      conv => whnf
      revert h; refine sel_if ?_ ?_ <;> intro h
      · conv => whnf
        refine ⟨rfl, ?_⟩
        conv => whnf
        cases h
        exact ⟨rfl, rfl⟩
      · conv => whnf
        refine ⟨_, rfl, ?_⟩
        conv => whnf
        refine .go ?_
        conv => whnf
        revert h; refine sel_if ?_ ?_ <;> intro h
        · conv => whnf
          replace h := bind_inv h; obtain ⟨v11, g12, h⟩ := h
          refine ⟨_, _, ref32_ended_ok g12, .inl rfl, ?_⟩
          conv => whnf
          replace h := bind_inv h; obtain ⟨v13, g14, h⟩ := h
          refine ⟨_, _, ref32_Notify_ok g14, .inl rfl, ?_⟩
          conv => whnf
          refine ⟨rfl, ?_⟩
          conv => whnf
          cases h
          exact ⟨rfl, rfl⟩
        · conv => whnf
          revert h; refine cut_join (fun v17 => ⟨X :: AV.d (D.i a1) :: AV.ref 2 0 :: X :: AV.ref 4 0 :: dd 43 (AV.d (D.b v17) :: dd 6 ([])), N :: N :: some (OB.box [AV.d (D.i a0.State), AV.d (D.i a0.Mine.ASN), AV.d (D.i a0.Mine.ID), AV.d (D.i a0.Mine.Hold), AV.d (D.i a0.Mine.Role), AV.d (D.i a0.Mine.Grace), AV.d (D.b a0.Mine.Again), AV.d (D.i a0.ASN), AV.d (D.i a0.Theirs.ASN), AV.d (D.i a0.Theirs.ID), AV.d (D.i a0.Theirs.Hold), AV.d (D.i a0.Theirs.Role), AV.d (D.i a0.Theirs.Grace), AV.d (D.b a0.Theirs.Again), AV.d (D.i a0.Sent), AV.d (D.i a0.Heard)]) :: N :: some (OB.box [AV.d (D.i 0), AV.d (D.i 0), AV.d (D.i 0), AV.d (D.i 0), AV.d (D.i 0), AV.d (D.i 0), AV.d (D.b false), AV.d (D.i 0), AV.d (D.i 0), AV.d (D.i 0), AV.d (D.i 0), AV.d (D.i 0), AV.d (D.i 0), AV.d (D.b false), AV.d (D.i 0), AV.d (D.i 0)]) :: nn 50 ([])⟩) ?_ ?_
          · intro k18 h
            conv => whnf
            refine dOB (by kernel_rfl) ?_
            conv => whnf
            revert h; refine sel_if ?_ ?_ <;> intro h
            · conv => whnf
              refine ⟨_, rfl, ?_⟩
              conv => whnf
              replace h := bind_inv h; obtain ⟨v19, g20, h⟩ := h
              refine ⟨_, _, ref32_Hold_ok g20, .inl rfl, ?_⟩
              conv => whnf
              refine ⟨by decide, _, rfl, ?_⟩
              conv => whnf
              refine cOB (by kernel_rfl) ?_
              conv => whnf
              exact join_end (v := (decide ((i64w (a1 - a0.Sent)) ≥ (i64w (Int.tdiv v19 3))))) ⟨rfl, And.intro (.refl _) (And.intro (.refl _) (And.intro (.refl _) (And.intro (.refl _) True.intro))), And.intro ⟨_, rfl, And.intro ⟨rfl, .refl _⟩ (And.intro ⟨rfl, .refl _⟩ (And.intro ⟨rfl, .refl _⟩ (And.intro ⟨rfl, .refl _⟩ (And.intro ⟨rfl, .refl _⟩ (And.intro ⟨rfl, .refl _⟩ (And.intro ⟨rfl, .refl _⟩ (And.intro ⟨rfl, .refl _⟩ (And.intro ⟨rfl, .refl _⟩ (And.intro ⟨rfl, .refl _⟩ (And.intro ⟨rfl, .refl _⟩ (And.intro ⟨rfl, .refl _⟩ (And.intro ⟨rfl, .refl _⟩ (And.intro ⟨rfl, .refl _⟩ (And.intro ⟨rfl, .refl _⟩ (And.intro ⟨rfl, .refl _⟩ (True.intro))))))))))))))))⟩ (And.intro ⟨_, rfl, And.intro ⟨rfl, .refl _⟩ (And.intro ⟨rfl, .refl _⟩ (And.intro ⟨rfl, .refl _⟩ (And.intro ⟨rfl, .refl _⟩ (And.intro ⟨rfl, .refl _⟩ (And.intro ⟨rfl, .refl _⟩ (And.intro ⟨rfl, .refl _⟩ (And.intro ⟨rfl, .refl _⟩ (And.intro ⟨rfl, .refl _⟩ (And.intro ⟨rfl, .refl _⟩ (And.intro ⟨rfl, .refl _⟩ (And.intro ⟨rfl, .refl _⟩ (And.intro ⟨rfl, .refl _⟩ (And.intro ⟨rfl, .refl _⟩ (And.intro ⟨rfl, .refl _⟩ (And.intro ⟨rfl, .refl _⟩ (True.intro))))))))))))))))⟩ (True.intro)), rfl⟩ h
            · conv => whnf
              refine cOB (by kernel_rfl) ?_
              conv => whnf
              exact join_end (v := false) ⟨rfl, And.intro (.refl _) (And.intro (.refl _) (And.intro (.refl _) (And.intro (.refl _) True.intro))), And.intro ⟨_, rfl, And.intro ⟨rfl, .refl _⟩ (And.intro ⟨rfl, .refl _⟩ (And.intro ⟨rfl, .refl _⟩ (And.intro ⟨rfl, .refl _⟩ (And.intro ⟨rfl, .refl _⟩ (And.intro ⟨rfl, .refl _⟩ (And.intro ⟨rfl, .refl _⟩ (And.intro ⟨rfl, .refl _⟩ (And.intro ⟨rfl, .refl _⟩ (And.intro ⟨rfl, .refl _⟩ (And.intro ⟨rfl, .refl _⟩ (And.intro ⟨rfl, .refl _⟩ (And.intro ⟨rfl, .refl _⟩ (And.intro ⟨rfl, .refl _⟩ (And.intro ⟨rfl, .refl _⟩ (And.intro ⟨rfl, .refl _⟩ (True.intro))))))))))))))))⟩ (And.intro ⟨_, rfl, And.intro ⟨rfl, .refl _⟩ (And.intro ⟨rfl, .refl _⟩ (And.intro ⟨rfl, .refl _⟩ (And.intro ⟨rfl, .refl _⟩ (And.intro ⟨rfl, .refl _⟩ (And.intro ⟨rfl, .refl _⟩ (And.intro ⟨rfl, .refl _⟩ (And.intro ⟨rfl, .refl _⟩ (And.intro ⟨rfl, .refl _⟩ (And.intro ⟨rfl, .refl _⟩ (And.intro ⟨rfl, .refl _⟩ (And.intro ⟨rfl, .refl _⟩ (And.intro ⟨rfl, .refl _⟩ (And.intro ⟨rfl, .refl _⟩ (And.intro ⟨rfl, .refl _⟩ (And.intro ⟨rfl, .refl _⟩ (True.intro))))))))))))))))⟩ (True.intro)), rfl⟩ h
          · rintro v17 h
            conv => whnf
            refine .go ?_
            conv => whnf
            revert h; refine sel_if ?_ ?_ <;> intro h
            · conv => whnf
              refine ⟨rfl, ?_⟩
              conv => whnf
              cases h
              exact ⟨rfl, rfl⟩
            · conv => whnf
              refine ⟨rfl, ?_⟩
              conv => whnf
              cases h
              exact ⟨rfl, rfl⟩
end Go.AX.Q32
