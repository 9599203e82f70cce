/-
  The functions do what their plain forms say (proofs written by a program of mine), part 7.
-/
import Derived.Test.YtikcogmkchljaaaQ32P6
namespace Go.AX.Q32
open Go Go.AX Go.Proofs
set_option maxRecDepth 100000
set_option maxHeartbeats 4000000
set_option linter.unusedVariables false
theorem ref32_Receive_ok {a0 : Session} {a1 : Message} {a2 : Int} {r : Session × (List Message) × Int} (h : ref32_Receive a0 a1 a2 = some r) : CallsOK Try.prog 27 [AV.d (Session.toD a0), AV.d (Message.toD a1), AV.d (D.i a2)] [] (.tup [.d (Session.toD r.1), .d (D.l 2 Message.toD r.2.1), .d (D.i r.2.2)]) [] := by
  refine ok Try.f27 (by kernel_rfl) (by kernel_rfl) ⟨rfl, ?_⟩
  unfold ref32_Receive at h
  conv => whnf
  refine .go ?_
  conv => whnf
  revert h; refine cut_join (fun v3 => ⟨X :: X :: AV.d (D.i a2) :: AV.ref 3 0 :: AV.ref 4 0 :: X :: AV.ref 6 0 :: dd 6 (AV.d (D.b v3) :: dd 126 ([])), N :: N :: N :: some (OB.box [AV.d (D.i a0.State), AV.d (D.i a0.Mine.ASN), AV.d (D.i a0.Mine.ID), AV.d (D.i a0.Mine.Hold), AV.d (D.i a0.Mine.Role), AV.d (D.i a0.Mine.Grace), AV.d (D.b a0.Mine.Again), AV.d (D.i a0.ASN), AV.d (D.i a0.Theirs.ASN), AV.d (D.i a0.Theirs.ID), AV.d (D.i a0.Theirs.Hold), AV.d (D.i a0.Theirs.Role), AV.d (D.i a0.Theirs.Grace), AV.d (D.b a0.Theirs.Again), AV.d (D.i a0.Sent), AV.d (D.i a0.Heard)]) :: some (OB.box [AV.d (D.i a1.Type_), AV.d (D.l 1 D.u8 a1.Body)]) :: N :: some (OB.box [AV.d (D.i 0), AV.d (D.i 0), AV.d (D.i 0), AV.d (D.i 0), AV.d (D.i 0), AV.d (D.i 0), AV.d (D.b false), AV.d (D.i 0), AV.d (D.i 0), AV.d (D.i 0), AV.d (D.i 0), AV.d (D.i 0), AV.d (D.i 0), AV.d (D.b false), AV.d (D.i 0), AV.d (D.i 0)]) :: nn 133 ([])⟩) ?_ ?_
  · intro k4 h
    conv => whnf
    revert h; refine sel_if ?_ ?_ <;> intro h
    · conv => whnf
      exact join_end (v := true) ⟨rfl, And.intro (.refl _) (And.intro (.refl _) (And.intro (.refl _) (And.intro (.refl _) (And.intro (.refl _) True.intro)))), And.intro ⟨_, rfl, And.intro ⟨rfl, .refl _⟩ (And.intro ⟨rfl, .refl _⟩ (And.intro ⟨rfl, .refl _⟩ (And.intro ⟨rfl, .refl _⟩ (And.intro ⟨rfl, .refl _⟩ (And.intro ⟨rfl, .refl _⟩ (And.intro ⟨rfl, .refl _⟩ (And.intro ⟨rfl, .refl _⟩ (And.intro ⟨rfl, .refl _⟩ (And.intro ⟨rfl, .refl _⟩ (And.intro ⟨rfl, .refl _⟩ (And.intro ⟨rfl, .refl _⟩ (And.intro ⟨rfl, .refl _⟩ (And.intro ⟨rfl, .refl _⟩ (And.intro ⟨rfl, .refl _⟩ (And.intro ⟨rfl, .refl _⟩ (True.intro))))))))))))))))⟩ (And.intro ⟨_, rfl, And.intro ⟨rfl, .refl _⟩ (And.intro ⟨rfl, .refl _⟩ (True.intro))⟩ (And.intro ⟨_, rfl, And.intro ⟨rfl, .refl _⟩ (And.intro ⟨rfl, .refl _⟩ (And.intro ⟨rfl, .refl _⟩ (And.intro ⟨rfl, .refl _⟩ (And.intro ⟨rfl, .refl _⟩ (And.intro ⟨rfl, .refl _⟩ (And.intro ⟨rfl, .refl _⟩ (And.intro ⟨rfl, .refl _⟩ (And.intro ⟨rfl, .refl _⟩ (And.intro ⟨rfl, .refl _⟩ (And.intro ⟨rfl, .refl _⟩ (And.intro ⟨rfl, .refl _⟩ (And.intro ⟨rfl, .refl _⟩ (And.intro ⟨rfl, .refl _⟩ (And.intro ⟨rfl, .refl _⟩ (And.intro ⟨rfl, .refl _⟩ (True.intro))))))))))))))))⟩ (True.intro))), rfl⟩ h
    · conv => whnf
      revert h; refine sel_if ?_ ?_ <;> intro h
      · conv => whnf
        exact join_end (v := true) ⟨rfl, And.intro (.refl _) (And.intro (.refl _) (And.intro (.refl _) (And.intro (.refl _) (And.intro (.refl _) True.intro)))), And.intro ⟨_, rfl, And.intro ⟨rfl, .refl _⟩ (And.intro ⟨rfl, .refl _⟩ (And.intro ⟨rfl, .refl _⟩ (And.intro ⟨rfl, .refl _⟩ (And.intro ⟨rfl, .refl _⟩ (And.intro ⟨rfl, .refl _⟩ (And.intro ⟨rfl, .refl _⟩ (And.intro ⟨rfl, .refl _⟩ (And.intro ⟨rfl, .refl _⟩ (And.intro ⟨rfl, .refl _⟩ (And.intro ⟨rfl, .refl _⟩ (And.intro ⟨rfl, .refl _⟩ (And.intro ⟨rfl, .refl _⟩ (And.intro ⟨rfl, .refl _⟩ (And.intro ⟨rfl, .refl _⟩ (And.intro ⟨rfl, .refl _⟩ (True.intro))))))))))))))))⟩ (And.intro ⟨_, rfl, And.intro ⟨rfl, .refl _⟩ (And.intro ⟨rfl, .refl _⟩ (True.intro))⟩ (And.intro ⟨_, rfl, And.intro ⟨rfl, .refl _⟩ (And.intro ⟨rfl, .refl _⟩ (And.intro ⟨rfl, .refl _⟩ (And.intro ⟨rfl, .refl _⟩ (And.intro ⟨rfl, .refl _⟩ (And.intro ⟨rfl, .refl _⟩ (And.intro ⟨rfl, .refl _⟩ (And.intro ⟨rfl, .refl _⟩ (And.intro ⟨rfl, .refl _⟩ (And.intro ⟨rfl, .refl _⟩ (And.intro ⟨rfl, .refl _⟩ (And.intro ⟨rfl, .refl _⟩ (And.intro ⟨rfl, .refl _⟩ (And.intro ⟨rfl, .refl _⟩ (And.intro ⟨rfl, .refl _⟩ (And.intro ⟨rfl, .refl _⟩ (True.intro))))))))))))))))⟩ (True.intro))), rfl⟩ h
      · conv => whnf
        revert h; refine sel_if ?_ ?_ <;> intro h
        · conv => whnf
          exact join_end (v := true) ⟨rfl, And.intro (.refl _) (And.intro (.refl _) (And.intro (.refl _) (And.intro (.refl _) (And.intro (.refl _) True.intro)))), And.intro ⟨_, rfl, And.intro ⟨rfl, .refl _⟩ (And.intro ⟨rfl, .refl _⟩ (And.intro ⟨rfl, .refl _⟩ (And.intro ⟨rfl, .refl _⟩ (And.intro ⟨rfl, .refl _⟩ (And.intro ⟨rfl, .refl _⟩ (And.intro ⟨rfl, .refl _⟩ (And.intro ⟨rfl, .refl _⟩ (And.intro ⟨rfl, .refl _⟩ (And.intro ⟨rfl, .refl _⟩ (And.intro ⟨rfl, .refl _⟩ (And.intro ⟨rfl, .refl _⟩ (And.intro ⟨rfl, .refl _⟩ (And.intro ⟨rfl, .refl _⟩ (And.intro ⟨rfl, .refl _⟩ (And.intro ⟨rfl, .refl _⟩ (True.intro))))))))))))))))⟩ (And.intro ⟨_, rfl, And.intro ⟨rfl, .refl _⟩ (And.intro ⟨rfl, .refl _⟩ (True.intro))⟩ (And.intro ⟨_, rfl, And.intro ⟨rfl, .refl _⟩ (And.intro ⟨rfl, .refl _⟩ (And.intro ⟨rfl, .refl _⟩ (And.intro ⟨rfl, .refl _⟩ (And.intro ⟨rfl, .refl _⟩ (And.intro ⟨rfl, .refl _⟩ (And.intro ⟨rfl, .refl _⟩ (And.intro ⟨rfl, .refl _⟩ (And.intro ⟨rfl, .refl _⟩ (And.intro ⟨rfl, .refl _⟩ (And.intro ⟨rfl, .refl _⟩ (And.intro ⟨rfl, .refl _⟩ (And.intro ⟨rfl, .refl _⟩ (And.intro ⟨rfl, .refl _⟩ (And.intro ⟨rfl, .refl _⟩ (And.intro ⟨rfl, .refl _⟩ (True.intro))))))))))))))))⟩ (True.intro))), rfl⟩ h
        · conv => whnf
          exact join_end (v := (decide (a0.State > 3))) ⟨rfl, And.intro (.refl _) (And.intro (.refl _) (And.intro (.refl _) (And.intro (.refl _) (And.intro (.refl _) True.intro)))), And.intro ⟨_, rfl, And.intro ⟨rfl, .refl _⟩ (And.intro ⟨rfl, .refl _⟩ (And.intro ⟨rfl, .refl _⟩ (And.intro ⟨rfl, .refl _⟩ (And.intro ⟨rfl, .refl _⟩ (And.intro ⟨rfl, .refl _⟩ (And.intro ⟨rfl, .refl _⟩ (And.intro ⟨rfl, .refl _⟩ (And.intro ⟨rfl, .refl _⟩ (And.intro ⟨rfl, .refl _⟩ (And.intro ⟨rfl, .refl _⟩ (And.intro ⟨rfl, .refl _⟩ (And.intro ⟨rfl, .refl _⟩ (And.intro ⟨rfl, .refl _⟩ (And.intro ⟨rfl, .refl _⟩ (And.intro ⟨rfl, .refl _⟩ (True.intro))))))))))))))))⟩ (And.intro ⟨_, rfl, And.intro ⟨rfl, .refl _⟩ (And.intro ⟨rfl, .refl _⟩ (True.intro))⟩ (And.intro ⟨_, rfl, And.intro ⟨rfl, .refl _⟩ (And.intro ⟨rfl, .refl _⟩ (And.intro ⟨rfl, .refl _⟩ (And.intro ⟨rfl, .refl _⟩ (And.intro ⟨rfl, .refl _⟩ (And.intro ⟨rfl, .refl _⟩ (And.intro ⟨rfl, .refl _⟩ (And.intro ⟨rfl, .refl _⟩ (And.intro ⟨rfl, .refl _⟩ (And.intro ⟨rfl, .refl _⟩ (And.intro ⟨rfl, .refl _⟩ (And.intro ⟨rfl, .refl _⟩ (And.intro ⟨rfl, .refl _⟩ (And.intro ⟨rfl, .refl _⟩ (And.intro ⟨rfl, .refl _⟩ (And.intro ⟨rfl, .refl _⟩ (True.intro))))))))))))))))⟩ (True.intro))), rfl⟩ h
  · rintro v3 h
    conv => whnf
    refine .go ?_
    conv => whnf
    revert h; refine sel_if ?_ ?_ <;> intro h
    · conv => whnf
      refine ⟨rfl, ?_⟩
      conv => whnf
      cases h
      exact ⟨rfl, rfl⟩
    · conv => whnf
      refine .go ?_
      conv => whnf
      revert h; refine sel_if ?_ ?_ <;> intro h
      · conv => whnf
        refine ⟨rfl, ?_⟩
        conv => whnf
        cases h
        exact ⟨rfl, rfl⟩
      · conv => whnf
        refine .go ?_
        conv => whnf
        revert h; refine sel_if ?_ ?_ <;> intro h
        · conv => whnf
          refine ⟨rfl, ?_⟩
          conv => whnf
          cases h
          exact ⟨rfl, rfl⟩
        · conv => whnf
          revert h; refine cut_join (fun v5 => ⟨X :: X :: AV.d (D.i a2) :: AV.ref 3 0 :: AV.ref 4 0 :: X :: AV.ref 6 0 :: X :: X :: AV.d (D.i 5) :: AV.d (D.b v5) :: dd 129 ([]), N :: N :: N :: some (OB.box [AV.d (D.i a0.State), AV.d (D.i a0.Mine.ASN), AV.d (D.i a0.Mine.ID), AV.d (D.i a0.Mine.Hold), AV.d (D.i a0.Mine.Role), AV.d (D.i a0.Mine.Grace), AV.d (D.b a0.Mine.Again), AV.d (D.i a0.ASN), AV.d (D.i a0.Theirs.ASN), AV.d (D.i a0.Theirs.ID), AV.d (D.i a0.Theirs.Hold), AV.d (D.i a0.Theirs.Role), AV.d (D.i a0.Theirs.Grace), AV.d (D.b a0.Theirs.Again), AV.d (D.i a0.Sent), AV.d (D.i a2)]) :: some (OB.box [AV.d (D.i a1.Type_), AV.d (D.l 1 D.u8 a1.Body)]) :: N :: some (OB.box [AV.d (D.i 0), AV.d (D.i 0), AV.d (D.i 0), AV.d (D.i 0), AV.d (D.i 0), AV.d (D.i 0), AV.d (D.b false), AV.d (D.i 0), AV.d (D.i 0), AV.d (D.i 0), AV.d (D.i 0), AV.d (D.i 0), AV.d (D.i 0), AV.d (D.b false), AV.d (D.i 0), AV.d (D.i 0)]) :: nn 133 ([])⟩) ?_ ?_
          · intro k6 h
            conv => whnf
            revert h; refine sel_if ?_ ?_ <;> intro h
            · conv => whnf
              exact join_end (v := (decide (a0.State ≥ 2))) ⟨rfl, And.intro (.refl _) (And.intro (.refl _) (And.intro (.refl _) (And.intro (.refl _) (And.intro (.refl _) (And.intro (.refl _) True.intro))))), And.intro ⟨_, rfl, And.intro ⟨rfl, .refl _⟩ (And.intro ⟨rfl, .refl _⟩ (And.intro ⟨rfl, .refl _⟩ (And.intro ⟨rfl, .refl _⟩ (And.intro ⟨rfl, .refl _⟩ (And.intro ⟨rfl, .refl _⟩ (And.intro ⟨rfl, .refl _⟩ (And.intro ⟨rfl, .refl _⟩ (And.intro ⟨rfl, .refl _⟩ (And.intro ⟨rfl, .refl _⟩ (And.intro ⟨rfl, .refl _⟩ (And.intro ⟨rfl, .refl _⟩ (And.intro ⟨rfl, .refl _⟩ (And.intro ⟨rfl, .refl _⟩ (And.intro ⟨rfl, .refl _⟩ (And.intro ⟨rfl, .refl _⟩ (True.intro))))))))))))))))⟩ (And.intro ⟨_, rfl, And.intro ⟨rfl, .refl _⟩ (And.intro ⟨rfl, .refl _⟩ (True.intro))⟩ (And.intro ⟨_, rfl, And.intro ⟨rfl, .refl _⟩ (And.intro ⟨rfl, .refl _⟩ (And.intro ⟨rfl, .refl _⟩ (And.intro ⟨rfl, .refl _⟩ (And.intro ⟨rfl, .refl _⟩ (And.intro ⟨rfl, .refl _⟩ (And.intro ⟨rfl, .refl _⟩ (And.intro ⟨rfl, .refl _⟩ (And.intro ⟨rfl, .refl _⟩ (And.intro ⟨rfl, .refl _⟩ (And.intro ⟨rfl, .refl _⟩ (And.intro ⟨rfl, .refl _⟩ (And.intro ⟨rfl, .refl _⟩ (And.intro ⟨rfl, .refl _⟩ (And.intro ⟨rfl, .refl _⟩ (And.intro ⟨rfl, .refl _⟩ (True.intro))))))))))))))))⟩ (True.intro))), rfl⟩ h
            · conv => whnf
              exact join_end (v := false) ⟨rfl, And.intro (.refl _) (And.intro (.refl _) (And.intro (.refl _) (And.intro (.refl _) (And.intro (.refl _) (And.intro (.refl _) True.intro))))), And.intro ⟨_, rfl, And.intro ⟨rfl, .refl _⟩ (And.intro ⟨rfl, .refl _⟩ (And.intro ⟨rfl, .refl _⟩ (And.intro ⟨rfl, .refl _⟩ (And.intro ⟨rfl, .refl _⟩ (And.intro ⟨rfl, .refl _⟩ (And.intro ⟨rfl, .refl _⟩ (And.intro ⟨rfl, .refl _⟩ (And.intro ⟨rfl, .refl _⟩ (And.intro ⟨rfl, .refl _⟩ (And.intro ⟨rfl, .refl _⟩ (And.intro ⟨rfl, .refl _⟩ (And.intro ⟨rfl, .refl _⟩ (And.intro ⟨rfl, .refl _⟩ (And.intro ⟨rfl, .refl _⟩ (And.intro ⟨rfl, .refl _⟩ (True.intro))))))))))))))))⟩ (And.intro ⟨_, rfl, And.intro ⟨rfl, .refl _⟩ (And.intro ⟨rfl, .refl _⟩ (True.intro))⟩ (And.intro ⟨_, rfl, And.intro ⟨rfl, .refl _⟩ (And.intro ⟨rfl, .refl _⟩ (And.intro ⟨rfl, .refl _⟩ (And.intro ⟨rfl, .refl _⟩ (And.intro ⟨rfl, .refl _⟩ (And.intro ⟨rfl, .refl _⟩ (And.intro ⟨rfl, .refl _⟩ (And.intro ⟨rfl, .refl _⟩ (And.intro ⟨rfl, .refl _⟩ (And.intro ⟨rfl, .refl _⟩ (And.intro ⟨rfl, .refl _⟩ (And.intro ⟨rfl, .refl _⟩ (And.intro ⟨rfl, .refl _⟩ (And.intro ⟨rfl, .refl _⟩ (And.intro ⟨rfl, .refl _⟩ (And.intro ⟨rfl, .refl _⟩ (True.intro))))))))))))))))⟩ (True.intro))), rfl⟩ h
          · rintro v5 h
            conv => whnf
            revert h; refine cut_join (fun v99 => ⟨X :: X :: X :: AV.ref 3 0 :: X :: X :: AV.ref 6 0 :: X :: X :: AV.d (D.i v99) :: dd 130 ([]), N :: N :: N :: some (OB.box [AV.d (D.i a0.State), AV.d (D.i a0.Mine.ASN), AV.d (D.i a0.Mine.ID), AV.d (D.i a0.Mine.Hold), AV.d (D.i a0.Mine.Role), AV.d (D.i a0.Mine.Grace), AV.d (D.b a0.Mine.Again), AV.d (D.i a0.ASN), AV.d (D.i a0.Theirs.ASN), AV.d (D.i a0.Theirs.ID), AV.d (D.i a0.Theirs.Hold), AV.d (D.i a0.Theirs.Role), AV.d (D.i a0.Theirs.Grace), AV.d (D.b a0.Theirs.Again), AV.d (D.i a0.Sent), AV.d (D.i a2)]) :: N :: N :: some (OB.box [AV.d (D.i 0), AV.d (D.i 0), AV.d (D.i 0), AV.d (D.i 0), AV.d (D.i 0), AV.d (D.i 0), AV.d (D.b false), AV.d (D.i 0), AV.d (D.i 0), AV.d (D.i 0), AV.d (D.i 0), AV.d (D.i 0), AV.d (D.i 0), AV.d (D.b false), AV.d (D.i 0), AV.d (D.i 0)]) :: nn 133 ([])⟩) ?_ ?_
            · intro k100 h
              conv => whnf
              refine .go ?_
              conv => whnf
              revert h; refine sel_if ?_ ?_ <;> intro h
              · conv => whnf
                replace h := bind_inv h; obtain ⟨v147, g148, h⟩ := h
                refine ⟨_, _, ref32_ended_ok g148, .inl rfl, ?_⟩
                conv => whnf
                refine ⟨rfl, ?_⟩
                conv => whnf
                cases h
                exact ⟨rfl, rfl⟩
              · conv => whnf
                revert h; refine cut_join (fun v149 => ⟨X :: X :: AV.d (D.i a2) :: AV.ref 3 0 :: AV.ref 4 0 :: X :: AV.ref 6 0 :: X :: X :: AV.d (D.i 5) :: AV.d (D.b v5) :: dd 47 (AV.d (D.b v149) :: dd 81 ([])), N :: N :: N :: some (OB.box [AV.d (D.i a0.State), AV.d (D.i a0.Mine.ASN), AV.d (D.i a0.Mine.ID), AV.d (D.i a0.Mine.Hold), AV.d (D.i a0.Mine.Role), AV.d (D.i a0.Mine.Grace), AV.d (D.b a0.Mine.Again), AV.d (D.i a0.ASN), AV.d (D.i a0.Theirs.ASN), AV.d (D.i a0.Theirs.ID), AV.d (D.i a0.Theirs.Hold), AV.d (D.i a0.Theirs.Role), AV.d (D.i a0.Theirs.Grace), AV.d (D.b a0.Theirs.Again), AV.d (D.i a0.Sent), AV.d (D.i a2)]) :: some (OB.box [AV.d (D.i a1.Type_), AV.d (D.l 1 D.u8 a1.Body)]) :: N :: some (OB.box [AV.d (D.i 0), AV.d (D.i 0), AV.d (D.i 0), AV.d (D.i 0), AV.d (D.i 0), AV.d (D.i 0), AV.d (D.b false), AV.d (D.i 0), AV.d (D.i 0), AV.d (D.i 0), AV.d (D.i 0), AV.d (D.i 0), AV.d (D.i 0), AV.d (D.b false), AV.d (D.i 0), AV.d (D.i 0)]) :: nn 133 ([])⟩) ?_ ?_
                · intro k150 h
                  conv => whnf
                  revert h; refine sel_if ?_ ?_ <;> intro h
                  · conv => whnf
                    exact join_end (v := (a1.Type_ == 1)) ⟨rfl, And.intro (.refl _) (And.intro (.refl _) (And.intro (.refl _) (And.intro (.refl _) (And.intro (.refl _) (And.intro (.refl _) (And.intro (.refl _) True.intro)))))), And.intro ⟨_, rfl, And.intro ⟨rfl, .refl _⟩ (And.intro ⟨rfl, .refl _⟩ (And.intro ⟨rfl, .refl _⟩ (And.intro ⟨rfl, .refl _⟩ (And.intro ⟨rfl, .refl _⟩ (And.intro ⟨rfl, .refl _⟩ (And.intro ⟨rfl, .refl _⟩ (And.intro ⟨rfl, .refl _⟩ (And.intro ⟨rfl, .refl _⟩ (And.intro ⟨rfl, .refl _⟩ (And.intro ⟨rfl, .refl _⟩ (And.intro ⟨rfl, .refl _⟩ (And.intro ⟨rfl, .refl _⟩ (And.intro ⟨rfl, .refl _⟩ (And.intro ⟨rfl, .refl _⟩ (And.intro ⟨rfl, .refl _⟩ (True.intro))))))))))))))))⟩ (And.intro ⟨_, rfl, And.intro ⟨rfl, .refl _⟩ (And.intro ⟨rfl, .refl _⟩ (True.intro))⟩ (And.intro ⟨_, rfl, And.intro ⟨rfl, .refl _⟩ (And.intro ⟨rfl, .refl _⟩ (And.intro ⟨rfl, .refl _⟩ (And.intro ⟨rfl, .refl _⟩ (And.intro ⟨rfl, .refl _⟩ (And.intro ⟨rfl, .refl _⟩ (And.intro ⟨rfl, .refl _⟩ (And.intro ⟨rfl, .refl _⟩ (And.intro ⟨rfl, .refl _⟩ (And.intro ⟨rfl, .refl _⟩ (And.intro ⟨rfl, .refl _⟩ (And.intro ⟨rfl, .refl _⟩ (And.intro ⟨rfl, .refl _⟩ (And.intro ⟨rfl, .refl _⟩ (And.intro ⟨rfl, .refl _⟩ (And.intro ⟨rfl, .refl _⟩ (True.intro))))))))))))))))⟩ (True.intro))), rfl⟩ h
                  · conv => whnf
                    exact join_end (v := false) ⟨rfl, And.intro (.refl _) (And.intro (.refl _) (And.intro (.refl _) (And.intro (.refl _) (And.intro (.refl _) (And.intro (.refl _) (And.intro (.refl _) True.intro)))))), And.intro ⟨_, rfl, And.intro ⟨rfl, .refl _⟩ (And.intro ⟨rfl, .refl _⟩ (And.intro ⟨rfl, .refl _⟩ (And.intro ⟨rfl, .refl _⟩ (And.intro ⟨rfl, .refl _⟩ (And.intro ⟨rfl, .refl _⟩ (And.intro ⟨rfl, .refl _⟩ (And.intro ⟨rfl, .refl _⟩ (And.intro ⟨rfl, .refl _⟩ (And.intro ⟨rfl, .refl _⟩ (And.intro ⟨rfl, .refl _⟩ (And.intro ⟨rfl, .refl _⟩ (And.intro ⟨rfl, .refl _⟩ (And.intro ⟨rfl, .refl _⟩ (And.intro ⟨rfl, .refl _⟩ (And.intro ⟨rfl, .refl _⟩ (True.intro))))))))))))))))⟩ (And.intro ⟨_, rfl, And.intro ⟨rfl, .refl _⟩ (And.intro ⟨rfl, .refl _⟩ (True.intro))⟩ (And.intro ⟨_, rfl, And.intro ⟨rfl, .refl _⟩ (And.intro ⟨rfl, .refl _⟩ (And.intro ⟨rfl, .refl _⟩ (And.intro ⟨rfl, .refl _⟩ (And.intro ⟨rfl, .refl _⟩ (And.intro ⟨rfl, .refl _⟩ (And.intro ⟨rfl, .refl _⟩ (And.intro ⟨rfl, .refl _⟩ (And.intro ⟨rfl, .refl _⟩ (And.intro ⟨rfl, .refl _⟩ (And.intro ⟨rfl, .refl _⟩ (And.intro ⟨rfl, .refl _⟩ (And.intro ⟨rfl, .refl _⟩ (And.intro ⟨rfl, .refl _⟩ (And.intro ⟨rfl, .refl _⟩ (And.intro ⟨rfl, .refl _⟩ (True.intro))))))))))))))))⟩ (True.intro))), rfl⟩ h
                · rintro v149 h
                  conv => whnf
                  refine .go ?_
                  conv => whnf
                  revert h; refine sel_if ?_ ?_ <;> intro h
                  · conv => whnf
                    replace h := bind_inv h; obtain ⟨⟨v172, v173⟩, g174, h⟩ := h
                    refine ⟨_, _, ref32_Decode_ok g174, .inl rfl, ?_⟩
                    conv => whnf
                    refine .go ?_
                    conv => whnf
                    revert h; refine sel_if ?_ ?_ <;> intro h
                    · conv => whnf
                      exact join_end (v := 1) ⟨rfl, And.intro (.refl _) (And.intro (.refl _) (And.intro (.refl _) True.intro)), And.intro ⟨_, rfl, And.intro ⟨rfl, .refl _⟩ (And.intro ⟨rfl, .refl _⟩ (And.intro ⟨rfl, .refl _⟩ (And.intro ⟨rfl, .refl _⟩ (And.intro ⟨rfl, .refl _⟩ (And.intro ⟨rfl, .refl _⟩ (And.intro ⟨rfl, .refl _⟩ (And.intro ⟨rfl, .refl _⟩ (And.intro ⟨rfl, .refl _⟩ (And.intro ⟨rfl, .refl _⟩ (And.intro ⟨rfl, .refl _⟩ (And.intro ⟨rfl, .refl _⟩ (And.intro ⟨rfl, .refl _⟩ (And.intro ⟨rfl, .refl _⟩ (And.intro ⟨rfl, .refl _⟩ (And.intro ⟨rfl, .refl _⟩ (True.intro))))))))))))))))⟩ (And.intro ⟨_, rfl, And.intro ⟨rfl, .refl _⟩ (And.intro ⟨rfl, .refl _⟩ (And.intro ⟨rfl, .refl _⟩ (And.intro ⟨rfl, .refl _⟩ (And.intro ⟨rfl, .refl _⟩ (And.intro ⟨rfl, .refl _⟩ (And.intro ⟨rfl, .refl _⟩ (And.intro ⟨rfl, .refl _⟩ (And.intro ⟨rfl, .refl _⟩ (And.intro ⟨rfl, .refl _⟩ (And.intro ⟨rfl, .refl _⟩ (And.intro ⟨rfl, .refl _⟩ (And.intro ⟨rfl, .refl _⟩ (And.intro ⟨rfl, .refl _⟩ (And.intro ⟨rfl, .refl _⟩ (And.intro ⟨rfl, .refl _⟩ (True.intro))))))))))))))))⟩ (True.intro)), rfl⟩ h
                    · conv => whnf
                      revert h; refine cut_join (fun v177 => ⟨X :: X :: AV.d (D.i a2) :: AV.ref 3 0 :: X :: X :: AV.ref 6 0 :: dd 4 (AV.ref 11 0 :: dd 87 (AV.d (D.b v177) :: dd 40 ([]))), N :: N :: N :: some (OB.box [AV.d (D.i a0.State), AV.d (D.i a0.Mine.ASN), AV.d (D.i a0.Mine.ID), AV.d (D.i a0.Mine.Hold), AV.d (D.i a0.Mine.Role), AV.d (D.i a0.Mine.Grace), AV.d (D.b a0.Mine.Again), AV.d (D.i a0.ASN), AV.d (D.i a0.Theirs.ASN), AV.d (D.i a0.Theirs.ID), AV.d (D.i a0.Theirs.Hold), AV.d (D.i a0.Theirs.Role), AV.d (D.i a0.Theirs.Grace), AV.d (D.b a0.Theirs.Again), AV.d (D.i a0.Sent), AV.d (D.i a2)]) :: N :: N :: some (OB.box [AV.d (D.i 0), AV.d (D.i 0), AV.d (D.i 0), AV.d (D.i 0), AV.d (D.i 0), AV.d (D.i 0), AV.d (D.b false), AV.d (D.i 0), AV.d (D.i 0), AV.d (D.i 0), AV.d (D.i 0), AV.d (D.i 0), AV.d (D.i 0), AV.d (D.b false), AV.d (D.i 0), AV.d (D.i 0)]) :: nn 4 (some (OB.box [AV.d (D.i v172.ASN), AV.d (D.i v172.ID), AV.d (D.i v172.Hold), AV.d (D.i v172.Role), AV.d (D.i v172.Grace), AV.d (D.b v172.Again)]) :: nn 128 ([]))⟩) ?_ ?_
                      · intro k178 h
                        conv => whnf
                        revert h; refine sel_if ?_ ?_ <;> intro h
                        · conv => whnf
                          exact join_end (v := true) ⟨rfl, And.intro (.refl _) (And.intro (.refl _) (And.intro (.refl _) (And.intro (.refl _) (And.intro (.refl _) True.intro)))), And.intro ⟨_, rfl, And.intro ⟨rfl, .refl _⟩ (And.intro ⟨rfl, .refl _⟩ (And.intro ⟨rfl, .refl _⟩ (And.intro ⟨rfl, .refl _⟩ (And.intro ⟨rfl, .refl _⟩ (And.intro ⟨rfl, .refl _⟩ (And.intro ⟨rfl, .refl _⟩ (And.intro ⟨rfl, .refl _⟩ (And.intro ⟨rfl, .refl _⟩ (And.intro ⟨rfl, .refl _⟩ (And.intro ⟨rfl, .refl _⟩ (And.intro ⟨rfl, .refl _⟩ (And.intro ⟨rfl, .refl _⟩ (And.intro ⟨rfl, .refl _⟩ (And.intro ⟨rfl, .refl _⟩ (And.intro ⟨rfl, .refl _⟩ (True.intro))))))))))))))))⟩ (And.intro ⟨_, rfl, And.intro ⟨rfl, .refl _⟩ (And.intro ⟨rfl, .refl _⟩ (And.intro ⟨rfl, .refl _⟩ (And.intro ⟨rfl, .refl _⟩ (And.intro ⟨rfl, .refl _⟩ (And.intro ⟨rfl, .refl _⟩ (And.intro ⟨rfl, .refl _⟩ (And.intro ⟨rfl, .refl _⟩ (And.intro ⟨rfl, .refl _⟩ (And.intro ⟨rfl, .refl _⟩ (And.intro ⟨rfl, .refl _⟩ (And.intro ⟨rfl, .refl _⟩ (And.intro ⟨rfl, .refl _⟩ (And.intro ⟨rfl, .refl _⟩ (And.intro ⟨rfl, .refl _⟩ (And.intro ⟨rfl, .refl _⟩ (True.intro))))))))))))))))⟩ (And.intro ⟨_, rfl, And.intro ⟨rfl, .refl _⟩ (And.intro ⟨rfl, .refl _⟩ (And.intro ⟨rfl, .refl _⟩ (And.intro ⟨rfl, .refl _⟩ (And.intro ⟨rfl, .refl _⟩ (And.intro ⟨rfl, .refl _⟩ (True.intro))))))⟩ (True.intro))), rfl⟩ h
                        · conv => whnf
                          revert h; refine sel_if ?_ ?_ <;> intro h
                          · conv => whnf
                            revert h; refine sel_if ?_ ?_ <;> intro h
                            · conv => whnf
                              replace h := bind_inv h; obtain ⟨v179, g180, h⟩ := h
                              refine ⟨_, _, ref23_Fits_ok g180, .inl rfl, ?_⟩
                              conv => whnf
                              exact join_end (v := (!v179)) ⟨rfl, And.intro (.refl _) (And.intro (.refl _) (And.intro (.refl _) (And.intro (.refl _) (And.intro (.refl _) True.intro)))), And.intro ⟨_, rfl, And.intro ⟨rfl, .refl _⟩ (And.intro ⟨rfl, .refl _⟩ (And.intro ⟨rfl, .refl _⟩ (And.intro ⟨rfl, .refl _⟩ (And.intro ⟨rfl, .refl _⟩ (And.intro ⟨rfl, .refl _⟩ (And.intro ⟨rfl, .refl _⟩ (And.intro ⟨rfl, .refl _⟩ (And.intro ⟨rfl, .refl _⟩ (And.intro ⟨rfl, .refl _⟩ (And.intro ⟨rfl, .refl _⟩ (And.intro ⟨rfl, .refl _⟩ (And.intro ⟨rfl, .refl _⟩ (And.intro ⟨rfl, .refl _⟩ (And.intro ⟨rfl, .refl _⟩ (And.intro ⟨rfl, .refl _⟩ (True.intro))))))))))))))))⟩ (And.intro ⟨_, rfl, And.intro ⟨rfl, .refl _⟩ (And.intro ⟨rfl, .refl _⟩ (And.intro ⟨rfl, .refl _⟩ (And.intro ⟨rfl, .refl _⟩ (And.intro ⟨rfl, .refl _⟩ (And.intro ⟨rfl, .refl _⟩ (And.intro ⟨rfl, .refl _⟩ (And.intro ⟨rfl, .refl _⟩ (And.intro ⟨rfl, .refl _⟩ (And.intro ⟨rfl, .refl _⟩ (And.intro ⟨rfl, .refl _⟩ (And.intro ⟨rfl, .refl _⟩ (And.intro ⟨rfl, .refl _⟩ (And.intro ⟨rfl, .refl _⟩ (And.intro ⟨rfl, .refl _⟩ (And.intro ⟨rfl, .refl _⟩ (True.intro))))))))))))))))⟩ (And.intro ⟨_, rfl, And.intro ⟨rfl, .refl _⟩ (And.intro ⟨rfl, .refl _⟩ (And.intro ⟨rfl, .refl _⟩ (And.intro ⟨rfl, .refl _⟩ (And.intro ⟨rfl, .refl _⟩ (And.intro ⟨rfl, .refl _⟩ (True.intro))))))⟩ (True.intro))), rfl⟩ h
                            · conv => whnf
                              exact join_end (v := false) ⟨rfl, And.intro (.refl _) (And.intro (.refl _) (And.intro (.refl _) (And.intro (.refl _) (And.intro (.refl _) True.intro)))), And.intro ⟨_, rfl, And.intro ⟨rfl, .refl _⟩ (And.intro ⟨rfl, .refl _⟩ (And.intro ⟨rfl, .refl _⟩ (And.intro ⟨rfl, .refl _⟩ (And.intro ⟨rfl, .refl _⟩ (And.intro ⟨rfl, .refl _⟩ (And.intro ⟨rfl, .refl _⟩ (And.intro ⟨rfl, .refl _⟩ (And.intro ⟨rfl, .refl _⟩ (And.intro ⟨rfl, .refl _⟩ (And.intro ⟨rfl, .refl _⟩ (And.intro ⟨rfl, .refl _⟩ (And.intro ⟨rfl, .refl _⟩ (And.intro ⟨rfl, .refl _⟩ (And.intro ⟨rfl, .refl _⟩ (And.intro ⟨rfl, .refl _⟩ (True.intro))))))))))))))))⟩ (And.intro ⟨_, rfl, And.intro ⟨rfl, .refl _⟩ (And.intro ⟨rfl, .refl _⟩ (And.intro ⟨rfl, .refl _⟩ (And.intro ⟨rfl, .refl _⟩ (And.intro ⟨rfl, .refl _⟩ (And.intro ⟨rfl, .refl _⟩ (And.intro ⟨rfl, .refl _⟩ (And.intro ⟨rfl, .refl _⟩ (And.intro ⟨rfl, .refl _⟩ (And.intro ⟨rfl, .refl _⟩ (And.intro ⟨rfl, .refl _⟩ (And.intro ⟨rfl, .refl _⟩ (And.intro ⟨rfl, .refl _⟩ (And.intro ⟨rfl, .refl _⟩ (And.intro ⟨rfl, .refl _⟩ (And.intro ⟨rfl, .refl _⟩ (True.intro))))))))))))))))⟩ (And.intro ⟨_, rfl, And.intro ⟨rfl, .refl _⟩ (And.intro ⟨rfl, .refl _⟩ (And.intro ⟨rfl, .refl _⟩ (And.intro ⟨rfl, .refl _⟩ (And.intro ⟨rfl, .refl _⟩ (And.intro ⟨rfl, .refl _⟩ (True.intro))))))⟩ (True.intro))), rfl⟩ h
                          · conv => whnf
                            exact join_end (v := false) ⟨rfl, And.intro (.refl _) (And.intro (.refl _) (And.intro (.refl _) (And.intro (.refl _) (And.intro (.refl _) True.intro)))), And.intro ⟨_, rfl, And.intro ⟨rfl, .refl _⟩ (And.intro ⟨rfl, .refl _⟩ (And.intro ⟨rfl, .refl _⟩ (And.intro ⟨rfl, .refl _⟩ (And.intro ⟨rfl, .refl _⟩ (And.intro ⟨rfl, .refl _⟩ (And.intro ⟨rfl, .refl _⟩ (And.intro ⟨rfl, .refl _⟩ (And.intro ⟨rfl, .refl _⟩ (And.intro ⟨rfl, .refl _⟩ (And.intro ⟨rfl, .refl _⟩ (And.intro ⟨rfl, .refl _⟩ (And.intro ⟨rfl, .refl _⟩ (And.intro ⟨rfl, .refl _⟩ (And.intro ⟨rfl, .refl _⟩ (And.intro ⟨rfl, .refl _⟩ (True.intro))))))))))))))))⟩ (And.intro ⟨_, rfl, And.intro ⟨rfl, .refl _⟩ (And.intro ⟨rfl, .refl _⟩ (And.intro ⟨rfl, .refl _⟩ (And.intro ⟨rfl, .refl _⟩ (And.intro ⟨rfl, .refl _⟩ (And.intro ⟨rfl, .refl _⟩ (And.intro ⟨rfl, .refl _⟩ (And.intro ⟨rfl, .refl _⟩ (And.intro ⟨rfl, .refl _⟩ (And.intro ⟨rfl, .refl _⟩ (And.intro ⟨rfl, .refl _⟩ (And.intro ⟨rfl, .refl _⟩ (And.intro ⟨rfl, .refl _⟩ (And.intro ⟨rfl, .refl _⟩ (And.intro ⟨rfl, .refl _⟩ (And.intro ⟨rfl, .refl _⟩ (True.intro))))))))))))))))⟩ (And.intro ⟨_, rfl, And.intro ⟨rfl, .refl _⟩ (And.intro ⟨rfl, .refl _⟩ (And.intro ⟨rfl, .refl _⟩ (And.intro ⟨rfl, .refl _⟩ (And.intro ⟨rfl, .refl _⟩ (And.intro ⟨rfl, .refl _⟩ (True.intro))))))⟩ (True.intro))), rfl⟩ h
                      · rintro v177 h
                        conv => whnf
                        refine .go ?_
                        conv => whnf
                        revert h; refine sel_if ?_ ?_ <;> intro h
                        · conv => whnf
                          exact join_end (v := 2) ⟨rfl, And.intro (.refl _) (And.intro (.refl _) (And.intro (.refl _) True.intro)), And.intro ⟨_, rfl, And.intro ⟨rfl, .refl _⟩ (And.intro ⟨rfl, .refl _⟩ (And.intro ⟨rfl, .refl _⟩ (And.intro ⟨rfl, .refl _⟩ (And.intro ⟨rfl, .refl _⟩ (And.intro ⟨rfl, .refl _⟩ (And.intro ⟨rfl, .refl _⟩ (And.intro ⟨rfl, .refl _⟩ (And.intro ⟨rfl, .refl _⟩ (And.intro ⟨rfl, .refl _⟩ (And.intro ⟨rfl, .refl _⟩ (And.intro ⟨rfl, .refl _⟩ (And.intro ⟨rfl, .refl _⟩ (And.intro ⟨rfl, .refl _⟩ (And.intro ⟨rfl, .refl _⟩ (And.intro ⟨rfl, .refl _⟩ (True.intro))))))))))))))))⟩ (And.intro ⟨_, rfl, And.intro ⟨rfl, .refl _⟩ (And.intro ⟨rfl, .refl _⟩ (And.intro ⟨rfl, .refl _⟩ (And.intro ⟨rfl, .refl _⟩ (And.intro ⟨rfl, .refl _⟩ (And.intro ⟨rfl, .refl _⟩ (And.intro ⟨rfl, .refl _⟩ (And.intro ⟨rfl, .refl _⟩ (And.intro ⟨rfl, .refl _⟩ (And.intro ⟨rfl, .refl _⟩ (And.intro ⟨rfl, .refl _⟩ (And.intro ⟨rfl, .refl _⟩ (And.intro ⟨rfl, .refl _⟩ (And.intro ⟨rfl, .refl _⟩ (And.intro ⟨rfl, .refl _⟩ (And.intro ⟨rfl, .refl _⟩ (True.intro))))))))))))))))⟩ (True.intro)), rfl⟩ h
                        · conv => whnf
                          refine ⟨rfl, ?_⟩
                          conv => whnf
                          cases h
                          exact ⟨rfl, rfl⟩
                  · conv => whnf
                    revert h; refine cut_join (fun v181 => ⟨X :: X :: X :: AV.ref 3 0 :: AV.ref 4 0 :: X :: AV.ref 6 0 :: X :: X :: AV.d (D.i 5) :: AV.d (D.b v5) :: dd 97 (AV.d (D.b v181) :: dd 31 ([])), N :: N :: N :: some (OB.box [AV.d (D.i a0.State), AV.d (D.i a0.Mine.ASN), AV.d (D.i a0.Mine.ID), AV.d (D.i a0.Mine.Hold), AV.d (D.i a0.Mine.Role), AV.d (D.i a0.Mine.Grace), AV.d (D.b a0.Mine.Again), AV.d (D.i a0.ASN), AV.d (D.i a0.Theirs.ASN), AV.d (D.i a0.Theirs.ID), AV.d (D.i a0.Theirs.Hold), AV.d (D.i a0.Theirs.Role), AV.d (D.i a0.Theirs.Grace), AV.d (D.b a0.Theirs.Again), AV.d (D.i a0.Sent), AV.d (D.i a2)]) :: some (OB.box [AV.d (D.i a1.Type_), AV.d (D.l 1 D.u8 a1.Body)]) :: N :: some (OB.box [AV.d (D.i 0), AV.d (D.i 0), AV.d (D.i 0), AV.d (D.i 0), AV.d (D.i 0), AV.d (D.i 0), AV.d (D.b false), AV.d (D.i 0), AV.d (D.i 0), AV.d (D.i 0), AV.d (D.i 0), AV.d (D.i 0), AV.d (D.i 0), AV.d (D.b false), AV.d (D.i 0), AV.d (D.i 0)]) :: nn 133 ([])⟩) ?_ ?_
                    · intro k182 h
                      conv => whnf
                      revert h; refine sel_if ?_ ?_ <;> intro h
                      · conv => whnf
                        refine ⟨a1.Body.length, List.length_map _, ?_⟩
                        conv => whnf
                        exact join_end (v := (decide ((a1.Body.length : Int) > 0))) ⟨rfl, And.intro (.refl _) (And.intro (.refl _) (And.intro (.refl _) (And.intro (.refl _) (And.intro (.refl _) (And.intro (.refl _) True.intro))))), And.intro ⟨_, rfl, And.intro ⟨rfl, .refl _⟩ (And.intro ⟨rfl, .refl _⟩ (And.intro ⟨rfl, .refl _⟩ (And.intro ⟨rfl, .refl _⟩ (And.intro ⟨rfl, .refl _⟩ (And.intro ⟨rfl, .refl _⟩ (And.intro ⟨rfl, .refl _⟩ (And.intro ⟨rfl, .refl _⟩ (And.intro ⟨rfl, .refl _⟩ (And.intro ⟨rfl, .refl _⟩ (And.intro ⟨rfl, .refl _⟩ (And.intro ⟨rfl, .refl _⟩ (And.intro ⟨rfl, .refl _⟩ (And.intro ⟨rfl, .refl _⟩ (And.intro ⟨rfl, .refl _⟩ (And.intro ⟨rfl, .refl _⟩ (True.intro))))))))))))))))⟩ (And.intro ⟨_, rfl, And.intro ⟨rfl, .refl _⟩ (And.intro ⟨rfl, .refl _⟩ (True.intro))⟩ (And.intro ⟨_, rfl, And.intro ⟨rfl, .refl _⟩ (And.intro ⟨rfl, .refl _⟩ (And.intro ⟨rfl, .refl _⟩ (And.intro ⟨rfl, .refl _⟩ (And.intro ⟨rfl, .refl _⟩ (And.intro ⟨rfl, .refl _⟩ (And.intro ⟨rfl, .refl _⟩ (And.intro ⟨rfl, .refl _⟩ (And.intro ⟨rfl, .refl _⟩ (And.intro ⟨rfl, .refl _⟩ (And.intro ⟨rfl, .refl _⟩ (And.intro ⟨rfl, .refl _⟩ (And.intro ⟨rfl, .refl _⟩ (And.intro ⟨rfl, .refl _⟩ (And.intro ⟨rfl, .refl _⟩ (And.intro ⟨rfl, .refl _⟩ (True.intro))))))))))))))))⟩ (True.intro))), rfl⟩ h
                      · conv => whnf
                        exact join_end (v := false) ⟨rfl, And.intro (.refl _) (And.intro (.refl _) (And.intro (.refl _) (And.intro (.refl _) (And.intro (.refl _) (And.intro (.refl _) True.intro))))), And.intro ⟨_, rfl, And.intro ⟨rfl, .refl _⟩ (And.intro ⟨rfl, .refl _⟩ (And.intro ⟨rfl, .refl _⟩ (And.intro ⟨rfl, .refl _⟩ (And.intro ⟨rfl, .refl _⟩ (And.intro ⟨rfl, .refl _⟩ (And.intro ⟨rfl, .refl _⟩ (And.intro ⟨rfl, .refl _⟩ (And.intro ⟨rfl, .refl _⟩ (And.intro ⟨rfl, .refl _⟩ (And.intro ⟨rfl, .refl _⟩ (And.intro ⟨rfl, .refl _⟩ (And.intro ⟨rfl, .refl _⟩ (And.intro ⟨rfl, .refl _⟩ (And.intro ⟨rfl, .refl _⟩ (And.intro ⟨rfl, .refl _⟩ (True.intro))))))))))))))))⟩ (And.intro ⟨_, rfl, And.intro ⟨rfl, .refl _⟩ (And.intro ⟨rfl, .refl _⟩ (True.intro))⟩ (And.intro ⟨_, rfl, And.intro ⟨rfl, .refl _⟩ (And.intro ⟨rfl, .refl _⟩ (And.intro ⟨rfl, .refl _⟩ (And.intro ⟨rfl, .refl _⟩ (And.intro ⟨rfl, .refl _⟩ (And.intro ⟨rfl, .refl _⟩ (And.intro ⟨rfl, .refl _⟩ (And.intro ⟨rfl, .refl _⟩ (And.intro ⟨rfl, .refl _⟩ (And.intro ⟨rfl, .refl _⟩ (And.intro ⟨rfl, .refl _⟩ (And.intro ⟨rfl, .refl _⟩ (And.intro ⟨rfl, .refl _⟩ (And.intro ⟨rfl, .refl _⟩ (And.intro ⟨rfl, .refl _⟩ (And.intro ⟨rfl, .refl _⟩ (True.intro))))))))))))))))⟩ (True.intro))), rfl⟩ h
                    · rintro v181 h
                      conv => whnf
                      revert h; refine cut_join (fun v187 => ⟨X :: X :: X :: AV.ref 3 0 :: X :: X :: AV.ref 6 0 :: X :: X :: AV.d (D.i v187) :: dd 130 ([]), N :: N :: N :: some (OB.box [AV.d (D.i a0.State), AV.d (D.i a0.Mine.ASN), AV.d (D.i a0.Mine.ID), AV.d (D.i a0.Mine.Hold), AV.d (D.i a0.Mine.Role), AV.d (D.i a0.Mine.Grace), AV.d (D.b a0.Mine.Again), AV.d (D.i a0.ASN), AV.d (D.i a0.Theirs.ASN), AV.d (D.i a0.Theirs.ID), AV.d (D.i a0.Theirs.Hold), AV.d (D.i a0.Theirs.Role), AV.d (D.i a0.Theirs.Grace), AV.d (D.b a0.Theirs.Again), AV.d (D.i a0.Sent), AV.d (D.i a2)]) :: N :: N :: some (OB.box [AV.d (D.i 0), AV.d (D.i 0), AV.d (D.i 0), AV.d (D.i 0), AV.d (D.i 0), AV.d (D.i 0), AV.d (D.b false), AV.d (D.i 0), AV.d (D.i 0), AV.d (D.i 0), AV.d (D.i 0), AV.d (D.i 0), AV.d (D.i 0), AV.d (D.b false), AV.d (D.i 0), AV.d (D.i 0)]) :: nn 133 ([])⟩) ?_ ?_
                      · intro k188 h
                        conv => whnf
                        revert h; refine sel_if ?_ ?_ <;> intro h
                        · conv => whnf
                          exact join_end (v := 1) ⟨rfl, And.intro (.refl _) (And.intro (.refl _) (And.intro (.refl _) True.intro)), And.intro ⟨_, rfl, And.intro ⟨rfl, .refl _⟩ (And.intro ⟨rfl, .refl _⟩ (And.intro ⟨rfl, .refl _⟩ (And.intro ⟨rfl, .refl _⟩ (And.intro ⟨rfl, .refl _⟩ (And.intro ⟨rfl, .refl _⟩ (And.intro ⟨rfl, .refl _⟩ (And.intro ⟨rfl, .refl _⟩ (And.intro ⟨rfl, .refl _⟩ (And.intro ⟨rfl, .refl _⟩ (And.intro ⟨rfl, .refl _⟩ (And.intro ⟨rfl, .refl _⟩ (And.intro ⟨rfl, .refl _⟩ (And.intro ⟨rfl, .refl _⟩ (And.intro ⟨rfl, .refl _⟩ (And.intro ⟨rfl, .refl _⟩ (True.intro))))))))))))))))⟩ (And.intro ⟨_, rfl, And.intro ⟨rfl, .refl _⟩ (And.intro ⟨rfl, .refl _⟩ (And.intro ⟨rfl, .refl _⟩ (And.intro ⟨rfl, .refl _⟩ (And.intro ⟨rfl, .refl _⟩ (And.intro ⟨rfl, .refl _⟩ (And.intro ⟨rfl, .refl _⟩ (And.intro ⟨rfl, .refl _⟩ (And.intro ⟨rfl, .refl _⟩ (And.intro ⟨rfl, .refl _⟩ (And.intro ⟨rfl, .refl _⟩ (And.intro ⟨rfl, .refl _⟩ (And.intro ⟨rfl, .refl _⟩ (And.intro ⟨rfl, .refl _⟩ (And.intro ⟨rfl, .refl _⟩ (And.intro ⟨rfl, .refl _⟩ (True.intro))))))))))))))))⟩ (True.intro)), rfl⟩ h
                        · conv => whnf
                          refine .go ?_
                          conv => whnf
                          revert h; refine sel_if ?_ ?_ <;> intro h
                          · conv => whnf
                            refine ⟨rfl, ?_⟩
                            conv => whnf
                            cases h
                            exact ⟨rfl, rfl⟩
                          · conv => whnf
                            revert h; refine cut_join (fun v191 => ⟨X :: X :: X :: AV.ref 3 0 :: X :: X :: AV.ref 6 0 :: X :: X :: AV.d (D.i 5) :: dd 110 (AV.d (D.b v191) :: dd 19 ([])), N :: N :: N :: some (OB.box [AV.d (D.i a0.State), AV.d (D.i a0.Mine.ASN), AV.d (D.i a0.Mine.ID), AV.d (D.i a0.Mine.Hold), AV.d (D.i a0.Mine.Role), AV.d (D.i a0.Mine.Grace), AV.d (D.b a0.Mine.Again), AV.d (D.i a0.ASN), AV.d (D.i a0.Theirs.ASN), AV.d (D.i a0.Theirs.ID), AV.d (D.i a0.Theirs.Hold), AV.d (D.i a0.Theirs.Role), AV.d (D.i a0.Theirs.Grace), AV.d (D.b a0.Theirs.Again), AV.d (D.i a0.Sent), AV.d (D.i a2)]) :: N :: N :: some (OB.box [AV.d (D.i 0), AV.d (D.i 0), AV.d (D.i 0), AV.d (D.i 0), AV.d (D.i 0), AV.d (D.i 0), AV.d (D.b false), AV.d (D.i 0), AV.d (D.i 0), AV.d (D.i 0), AV.d (D.i 0), AV.d (D.i 0), AV.d (D.i 0), AV.d (D.b false), AV.d (D.i 0), AV.d (D.i 0)]) :: nn 133 ([])⟩) ?_ ?_
                            · intro k192 h
                              conv => whnf
                              revert h; refine sel_if ?_ ?_ <;> intro h
                              · conv => whnf
                                revert h; refine sel_if ?_ ?_ <;> intro h
                                · conv => whnf
                                  exact join_end (v := true) ⟨rfl, And.intro (.refl _) (And.intro (.refl _) (And.intro (.refl _) (And.intro (.refl _) True.intro))), And.intro ⟨_, rfl, And.intro ⟨rfl, .refl _⟩ (And.intro ⟨rfl, .refl _⟩ (And.intro ⟨rfl, .refl _⟩ (And.intro ⟨rfl, .refl _⟩ (And.intro ⟨rfl, .refl _⟩ (And.intro ⟨rfl, .refl _⟩ (And.intro ⟨rfl, .refl _⟩ (And.intro ⟨rfl, .refl _⟩ (And.intro ⟨rfl, .refl _⟩ (And.intro ⟨rfl, .refl _⟩ (And.intro ⟨rfl, .refl _⟩ (And.intro ⟨rfl, .refl _⟩ (And.intro ⟨rfl, .refl _⟩ (And.intro ⟨rfl, .refl _⟩ (And.intro ⟨rfl, .refl _⟩ (And.intro ⟨rfl, .refl _⟩ (True.intro))))))))))))))))⟩ (And.intro ⟨_, rfl, And.intro ⟨rfl, .refl _⟩ (And.intro ⟨rfl, .refl _⟩ (And.intro ⟨rfl, .refl _⟩ (And.intro ⟨rfl, .refl _⟩ (And.intro ⟨rfl, .refl _⟩ (And.intro ⟨rfl, .refl _⟩ (And.intro ⟨rfl, .refl _⟩ (And.intro ⟨rfl, .refl _⟩ (And.intro ⟨rfl, .refl _⟩ (And.intro ⟨rfl, .refl _⟩ (And.intro ⟨rfl, .refl _⟩ (And.intro ⟨rfl, .refl _⟩ (And.intro ⟨rfl, .refl _⟩ (And.intro ⟨rfl, .refl _⟩ (And.intro ⟨rfl, .refl _⟩ (And.intro ⟨rfl, .refl _⟩ (True.intro))))))))))))))))⟩ (True.intro)), rfl⟩ h
                                · conv => whnf
                                  exact join_end (v := (a1.Type_ == 5)) ⟨rfl, And.intro (.refl _) (And.intro (.refl _) (And.intro (.refl _) (And.intro (.refl _) True.intro))), And.intro ⟨_, rfl, And.intro ⟨rfl, .refl _⟩ (And.intro ⟨rfl, .refl _⟩ (And.intro ⟨rfl, .refl _⟩ (And.intro ⟨rfl, .refl _⟩ (And.intro ⟨rfl, .refl _⟩ (And.intro ⟨rfl, .refl _⟩ (And.intro ⟨rfl, .refl _⟩ (And.intro ⟨rfl, .refl _⟩ (And.intro ⟨rfl, .refl _⟩ (And.intro ⟨rfl, .refl _⟩ (And.intro ⟨rfl, .refl _⟩ (And.intro ⟨rfl, .refl _⟩ (And.intro ⟨rfl, .refl _⟩ (And.intro ⟨rfl, .refl _⟩ (And.intro ⟨rfl, .refl _⟩ (And.intro ⟨rfl, .refl _⟩ (True.intro))))))))))))))))⟩ (And.intro ⟨_, rfl, And.intro ⟨rfl, .refl _⟩ (And.intro ⟨rfl, .refl _⟩ (And.intro ⟨rfl, .refl _⟩ (And.intro ⟨rfl, .refl _⟩ (And.intro ⟨rfl, .refl _⟩ (And.intro ⟨rfl, .refl _⟩ (And.intro ⟨rfl, .refl _⟩ (And.intro ⟨rfl, .refl _⟩ (And.intro ⟨rfl, .refl _⟩ (And.intro ⟨rfl, .refl _⟩ (And.intro ⟨rfl, .refl _⟩ (And.intro ⟨rfl, .refl _⟩ (And.intro ⟨rfl, .refl _⟩ (And.intro ⟨rfl, .refl _⟩ (And.intro ⟨rfl, .refl _⟩ (And.intro ⟨rfl, .refl _⟩ (True.intro))))))))))))))))⟩ (True.intro)), rfl⟩ h
                              · conv => whnf
                                exact join_end (v := false) ⟨rfl, And.intro (.refl _) (And.intro (.refl _) (And.intro (.refl _) (And.intro (.refl _) True.intro))), And.intro ⟨_, rfl, And.intro ⟨rfl, .refl _⟩ (And.intro ⟨rfl, .refl _⟩ (And.intro ⟨rfl, .refl _⟩ (And.intro ⟨rfl, .refl _⟩ (And.intro ⟨rfl, .refl _⟩ (And.intro ⟨rfl, .refl _⟩ (And.intro ⟨rfl, .refl _⟩ (And.intro ⟨rfl, .refl _⟩ (And.intro ⟨rfl, .refl _⟩ (And.intro ⟨rfl, .refl _⟩ (And.intro ⟨rfl, .refl _⟩ (And.intro ⟨rfl, .refl _⟩ (And.intro ⟨rfl, .refl _⟩ (And.intro ⟨rfl, .refl _⟩ (And.intro ⟨rfl, .refl _⟩ (And.intro ⟨rfl, .refl _⟩ (True.intro))))))))))))))))⟩ (And.intro ⟨_, rfl, And.intro ⟨rfl, .refl _⟩ (And.intro ⟨rfl, .refl _⟩ (And.intro ⟨rfl, .refl _⟩ (And.intro ⟨rfl, .refl _⟩ (And.intro ⟨rfl, .refl _⟩ (And.intro ⟨rfl, .refl _⟩ (And.intro ⟨rfl, .refl _⟩ (And.intro ⟨rfl, .refl _⟩ (And.intro ⟨rfl, .refl _⟩ (And.intro ⟨rfl, .refl _⟩ (And.intro ⟨rfl, .refl _⟩ (And.intro ⟨rfl, .refl _⟩ (And.intro ⟨rfl, .refl _⟩ (And.intro ⟨rfl, .refl _⟩ (And.intro ⟨rfl, .refl _⟩ (And.intro ⟨rfl, .refl _⟩ (True.intro))))))))))))))))⟩ (True.intro)), rfl⟩ h
                            · rintro v191 h
                              conv => whnf
                              refine .go ?_
                              conv => whnf
                              revert h; refine sel_if ?_ ?_ <;> intro h
                              · conv => whnf
                                refine ⟨rfl, ?_⟩
                                conv => whnf
                                cases h
                                exact ⟨rfl, rfl⟩
                              · conv => whnf
                                exact join_end (v := 5) ⟨rfl, And.intro (.refl _) (And.intro (.refl _) (And.intro (.refl _) True.intro)), And.intro ⟨_, rfl, And.intro ⟨rfl, .refl _⟩ (And.intro ⟨rfl, .refl _⟩ (And.intro ⟨rfl, .refl _⟩ (And.intro ⟨rfl, .refl _⟩ (And.intro ⟨rfl, .refl _⟩ (And.intro ⟨rfl, .refl _⟩ (And.intro ⟨rfl, .refl _⟩ (And.intro ⟨rfl, .refl _⟩ (And.intro ⟨rfl, .refl _⟩ (And.intro ⟨rfl, .refl _⟩ (And.intro ⟨rfl, .refl _⟩ (And.intro ⟨rfl, .refl _⟩ (And.intro ⟨rfl, .refl _⟩ (And.intro ⟨rfl, .refl _⟩ (And.intro ⟨rfl, .refl _⟩ (And.intro ⟨rfl, .refl _⟩ (True.intro))))))))))))))))⟩ (And.intro ⟨_, rfl, And.intro ⟨rfl, .refl _⟩ (And.intro ⟨rfl, .refl _⟩ (And.intro ⟨rfl, .refl _⟩ (And.intro ⟨rfl, .refl _⟩ (And.intro ⟨rfl, .refl _⟩ (And.intro ⟨rfl, .refl _⟩ (And.intro ⟨rfl, .refl _⟩ (And.intro ⟨rfl, .refl _⟩ (And.intro ⟨rfl, .refl _⟩ (And.intro ⟨rfl, .refl _⟩ (And.intro ⟨rfl, .refl _⟩ (And.intro ⟨rfl, .refl _⟩ (And.intro ⟨rfl, .refl _⟩ (And.intro ⟨rfl, .refl _⟩ (And.intro ⟨rfl, .refl _⟩ (And.intro ⟨rfl, .refl _⟩ (True.intro))))))))))))))))⟩ (True.intro)), rfl⟩ h
                      · rintro v187 h
                        conv => whnf
                        exact join_end (v := v187) ⟨rfl, And.intro (.refl _) (And.intro (.refl _) (And.intro (.refl _) True.intro)), And.intro ⟨_, rfl, And.intro ⟨rfl, .refl _⟩ (And.intro ⟨rfl, .refl _⟩ (And.intro ⟨rfl, .refl _⟩ (And.intro ⟨rfl, .refl _⟩ (And.intro ⟨rfl, .refl _⟩ (And.intro ⟨rfl, .refl _⟩ (And.intro ⟨rfl, .refl _⟩ (And.intro ⟨rfl, .refl _⟩ (And.intro ⟨rfl, .refl _⟩ (And.intro ⟨rfl, .refl _⟩ (And.intro ⟨rfl, .refl _⟩ (And.intro ⟨rfl, .refl _⟩ (And.intro ⟨rfl, .refl _⟩ (And.intro ⟨rfl, .refl _⟩ (And.intro ⟨rfl, .refl _⟩ (And.intro ⟨rfl, .refl _⟩ (True.intro))))))))))))))))⟩ (And.intro ⟨_, rfl, And.intro ⟨rfl, .refl _⟩ (And.intro ⟨rfl, .refl _⟩ (And.intro ⟨rfl, .refl _⟩ (And.intro ⟨rfl, .refl _⟩ (And.intro ⟨rfl, .refl _⟩ (And.intro ⟨rfl, .refl _⟩ (And.intro ⟨rfl, .refl _⟩ (And.intro ⟨rfl, .refl _⟩ (And.intro ⟨rfl, .refl _⟩ (And.intro ⟨rfl, .refl _⟩ (And.intro ⟨rfl, .refl _⟩ (And.intro ⟨rfl, .refl _⟩ (And.intro ⟨rfl, .refl _⟩ (And.intro ⟨rfl, .refl _⟩ (And.intro ⟨rfl, .refl _⟩ (And.intro ⟨rfl, .refl _⟩ (True.intro))))))))))))))))⟩ (True.intro)), rfl⟩ h
            · rintro v99 h
              conv => whnf
              replace h := bind_inv h; obtain ⟨v193, g194, h⟩ := h
              refine ⟨_, _, ref32_ended_ok g194, .inl rfl, ?_⟩
              conv => whnf
              replace h := bind_inv h; obtain ⟨v195, g196, h⟩ := h
              refine ⟨_, _, ref32_Notify_ok g196, .inl rfl, ?_⟩
              conv => whnf
              refine ⟨rfl, ?_⟩
              conv => whnf
              cases h
              exact ⟨rfl, rfl⟩
end Go.AX.Q32
