/-
  The functions do what their plain forms say (proofs written by a program of mine), part 6.
-/
import Derived.Test.YtoankoojoeaooaaQ23P5
namespace Go.AX.Q23
open Go Go.AX Go.Proofs
set_option maxRecDepth 100000
set_option maxHeartbeats 4000000
set_option linter.unusedVariables false
theorem ref23_SameAttrs_ok {a0 : Attrs} {a1 : Attrs} {r : Bool} (h : ref23_SameAttrs a0 a1 = some r) : CallsOK Try.prog 21 [AV.d (Attrs.toD a0), AV.d (Attrs.toD a1)] [] (.d (D.b r)) [] := by
  refine ok Try.f21 (by kernel_rfl) (by kernel_rfl) ⟨rfl, ?_⟩
  unfold ref23_SameAttrs at h
  conv => whnf
  revert h; refine cut_join (fun v1 => ⟨X :: X :: AV.ref 2 0 :: AV.ref 3 0 :: dd 73 (AV.d (D.b v1) :: dd 124 ([])), N :: N :: some (OB.box [AV.d (D.i a0.Origin), AV.d (D.l 2 Segment.toD a0.Path), AV.d (D.b a0.Next.V6), AV.d (D.u64 a0.Next.Hi), AV.d (D.u64 a0.Next.Lo), AV.d (D.i a0.MED), AV.d (D.i a0.Pref), AV.d (D.i a0.OTC), AV.d (D.l 2 Community.toD a0.Communities), AV.d (D.l 3 Large.toD a0.Large), AV.d (D.l 3 Unknown.toD a0.Other)]) :: some (OB.box [AV.d (D.i a1.Origin), AV.d (D.l 2 Segment.toD a1.Path), AV.d (D.b a1.Next.V6), AV.d (D.u64 a1.Next.Hi), AV.d (D.u64 a1.Next.Lo), AV.d (D.i a1.MED), AV.d (D.i a1.Pref), AV.d (D.i a1.OTC), AV.d (D.l 2 Community.toD a1.Communities), AV.d (D.l 3 Large.toD a1.Large), AV.d (D.l 3 Unknown.toD a1.Other)]) :: nn 198 ([])⟩) ?_ ?_
  · intro k2 h
    conv => whnf
    revert h; refine sel_if ?_ ?_ <;> intro h
    · conv => whnf
      exact join_end (v := true) ⟨rfl, And.intro (.refl _) (And.intro (.refl _) (And.intro (.refl _) True.intro)), And.intro ⟨_, rfl, And.intro ⟨rfl, .refl _⟩ (And.intro ⟨rfl, .refl _⟩ (And.intro ⟨rfl, .refl _⟩ (And.intro ⟨rfl, .refl _⟩ (And.intro ⟨rfl, .refl _⟩ (And.intro ⟨rfl, .refl _⟩ (And.intro ⟨rfl, .refl _⟩ (And.intro ⟨rfl, .refl _⟩ (And.intro ⟨rfl, .refl _⟩ (And.intro ⟨rfl, .refl _⟩ (And.intro ⟨rfl, .refl _⟩ (True.intro)))))))))))⟩ (And.intro ⟨_, rfl, And.intro ⟨rfl, .refl _⟩ (And.intro ⟨rfl, .refl _⟩ (And.intro ⟨rfl, .refl _⟩ (And.intro ⟨rfl, .refl _⟩ (And.intro ⟨rfl, .refl _⟩ (And.intro ⟨rfl, .refl _⟩ (And.intro ⟨rfl, .refl _⟩ (And.intro ⟨rfl, .refl _⟩ (And.intro ⟨rfl, .refl _⟩ (And.intro ⟨rfl, .refl _⟩ (And.intro ⟨rfl, .refl _⟩ (True.intro)))))))))))⟩ (True.intro)), rfl⟩ h
    · conv => whnf
      revert h; refine sel_if ?_ ?_ <;> intro h
      · conv => whnf
        exact join_end (v := true) ⟨rfl, And.intro (.refl _) (And.intro (.refl _) (And.intro (.refl _) True.intro)), And.intro ⟨_, rfl, And.intro ⟨rfl, .refl _⟩ (And.intro ⟨rfl, .refl _⟩ (And.intro ⟨rfl, .refl _⟩ (And.intro ⟨rfl, .refl _⟩ (And.intro ⟨rfl, .refl _⟩ (And.intro ⟨rfl, .refl _⟩ (And.intro ⟨rfl, .refl _⟩ (And.intro ⟨rfl, .refl _⟩ (And.intro ⟨rfl, .refl _⟩ (And.intro ⟨rfl, .refl _⟩ (And.intro ⟨rfl, .refl _⟩ (True.intro)))))))))))⟩ (And.intro ⟨_, rfl, And.intro ⟨rfl, .refl _⟩ (And.intro ⟨rfl, .refl _⟩ (And.intro ⟨rfl, .refl _⟩ (And.intro ⟨rfl, .refl _⟩ (And.intro ⟨rfl, .refl _⟩ (And.intro ⟨rfl, .refl _⟩ (And.intro ⟨rfl, .refl _⟩ (And.intro ⟨rfl, .refl _⟩ (And.intro ⟨rfl, .refl _⟩ (And.intro ⟨rfl, .refl _⟩ (And.intro ⟨rfl, .refl _⟩ (True.intro)))))))))))⟩ (True.intro)), rfl⟩ h
      · conv => whnf
        revert h; refine sel_if ?_ ?_ <;> intro h
        · conv => whnf
          exact join_end (v := true) ⟨rfl, And.intro (.refl _) (And.intro (.refl _) (And.intro (.refl _) True.intro)), And.intro ⟨_, rfl, And.intro ⟨rfl, .refl _⟩ (And.intro ⟨rfl, .refl _⟩ (And.intro ⟨rfl, .refl _⟩ (And.intro ⟨rfl, .refl _⟩ (And.intro ⟨rfl, .refl _⟩ (And.intro ⟨rfl, .refl _⟩ (And.intro ⟨rfl, .refl _⟩ (And.intro ⟨rfl, .refl _⟩ (And.intro ⟨rfl, .refl _⟩ (And.intro ⟨rfl, .refl _⟩ (And.intro ⟨rfl, .refl _⟩ (True.intro)))))))))))⟩ (And.intro ⟨_, rfl, And.intro ⟨rfl, .refl _⟩ (And.intro ⟨rfl, .refl _⟩ (And.intro ⟨rfl, .refl _⟩ (And.intro ⟨rfl, .refl _⟩ (And.intro ⟨rfl, .refl _⟩ (And.intro ⟨rfl, .refl _⟩ (And.intro ⟨rfl, .refl _⟩ (And.intro ⟨rfl, .refl _⟩ (And.intro ⟨rfl, .refl _⟩ (And.intro ⟨rfl, .refl _⟩ (And.intro ⟨rfl, .refl _⟩ (True.intro)))))))))))⟩ (True.intro)), rfl⟩ h
        · conv => whnf
          revert h; refine sel_if ?_ ?_ <;> intro h
          · conv => whnf
            exact join_end (v := true) ⟨rfl, And.intro (.refl _) (And.intro (.refl _) (And.intro (.refl _) True.intro)), And.intro ⟨_, rfl, And.intro ⟨rfl, .refl _⟩ (And.intro ⟨rfl, .refl _⟩ (And.intro ⟨rfl, .refl _⟩ (And.intro ⟨rfl, .refl _⟩ (And.intro ⟨rfl, .refl _⟩ (And.intro ⟨rfl, .refl _⟩ (And.intro ⟨rfl, .refl _⟩ (And.intro ⟨rfl, .refl _⟩ (And.intro ⟨rfl, .refl _⟩ (And.intro ⟨rfl, .refl _⟩ (And.intro ⟨rfl, .refl _⟩ (True.intro)))))))))))⟩ (And.intro ⟨_, rfl, And.intro ⟨rfl, .refl _⟩ (And.intro ⟨rfl, .refl _⟩ (And.intro ⟨rfl, .refl _⟩ (And.intro ⟨rfl, .refl _⟩ (And.intro ⟨rfl, .refl _⟩ (And.intro ⟨rfl, .refl _⟩ (And.intro ⟨rfl, .refl _⟩ (And.intro ⟨rfl, .refl _⟩ (And.intro ⟨rfl, .refl _⟩ (And.intro ⟨rfl, .refl _⟩ (And.intro ⟨rfl, .refl _⟩ (True.intro)))))))))))⟩ (True.intro)), rfl⟩ h
          · conv => whnf
            revert h; refine sel_if ?_ ?_ <;> intro h
            · conv => whnf
              exact join_end (v := true) ⟨rfl, And.intro (.refl _) (And.intro (.refl _) (And.intro (.refl _) True.intro)), And.intro ⟨_, rfl, And.intro ⟨rfl, .refl _⟩ (And.intro ⟨rfl, .refl _⟩ (And.intro ⟨rfl, .refl _⟩ (And.intro ⟨rfl, .refl _⟩ (And.intro ⟨rfl, .refl _⟩ (And.intro ⟨rfl, .refl _⟩ (And.intro ⟨rfl, .refl _⟩ (And.intro ⟨rfl, .refl _⟩ (And.intro ⟨rfl, .refl _⟩ (And.intro ⟨rfl, .refl _⟩ (And.intro ⟨rfl, .refl _⟩ (True.intro)))))))))))⟩ (And.intro ⟨_, rfl, And.intro ⟨rfl, .refl _⟩ (And.intro ⟨rfl, .refl _⟩ (And.intro ⟨rfl, .refl _⟩ (And.intro ⟨rfl, .refl _⟩ (And.intro ⟨rfl, .refl _⟩ (And.intro ⟨rfl, .refl _⟩ (And.intro ⟨rfl, .refl _⟩ (And.intro ⟨rfl, .refl _⟩ (And.intro ⟨rfl, .refl _⟩ (And.intro ⟨rfl, .refl _⟩ (And.intro ⟨rfl, .refl _⟩ (True.intro)))))))))))⟩ (True.intro)), rfl⟩ h
            · conv => whnf
              refine ⟨a0.Path.length, List.length_map _, ?_⟩
              conv => whnf
              refine ⟨a1.Path.length, List.length_map _, ?_⟩
              conv => whnf
              revert h; refine sel_if ?_ ?_ <;> intro h
              · conv => whnf
                exact join_end (v := true) ⟨rfl, And.intro (.refl _) (And.intro (.refl _) (And.intro (.refl _) True.intro)), And.intro ⟨_, rfl, And.intro ⟨rfl, .refl _⟩ (And.intro ⟨rfl, .refl _⟩ (And.intro ⟨rfl, .refl _⟩ (And.intro ⟨rfl, .refl _⟩ (And.intro ⟨rfl, .refl _⟩ (And.intro ⟨rfl, .refl _⟩ (And.intro ⟨rfl, .refl _⟩ (And.intro ⟨rfl, .refl _⟩ (And.intro ⟨rfl, .refl _⟩ (And.intro ⟨rfl, .refl _⟩ (And.intro ⟨rfl, .refl _⟩ (True.intro)))))))))))⟩ (And.intro ⟨_, rfl, And.intro ⟨rfl, .refl _⟩ (And.intro ⟨rfl, .refl _⟩ (And.intro ⟨rfl, .refl _⟩ (And.intro ⟨rfl, .refl _⟩ (And.intro ⟨rfl, .refl _⟩ (And.intro ⟨rfl, .refl _⟩ (And.intro ⟨rfl, .refl _⟩ (And.intro ⟨rfl, .refl _⟩ (And.intro ⟨rfl, .refl _⟩ (And.intro ⟨rfl, .refl _⟩ (And.intro ⟨rfl, .refl _⟩ (True.intro)))))))))))⟩ (True.intro)), rfl⟩ h
              · conv => whnf
                refine ⟨a0.Communities.length, List.length_map _, ?_⟩
                conv => whnf
                refine ⟨a1.Communities.length, List.length_map _, ?_⟩
                conv => whnf
                revert h; refine sel_if ?_ ?_ <;> intro h
                · conv => whnf
                  exact join_end (v := true) ⟨rfl, And.intro (.refl _) (And.intro (.refl _) (And.intro (.refl _) True.intro)), And.intro ⟨_, rfl, And.intro ⟨rfl, .refl _⟩ (And.intro ⟨rfl, .refl _⟩ (And.intro ⟨rfl, .refl _⟩ (And.intro ⟨rfl, .refl _⟩ (And.intro ⟨rfl, .refl _⟩ (And.intro ⟨rfl, .refl _⟩ (And.intro ⟨rfl, .refl _⟩ (And.intro ⟨rfl, .refl _⟩ (And.intro ⟨rfl, .refl _⟩ (And.intro ⟨rfl, .refl _⟩ (And.intro ⟨rfl, .refl _⟩ (True.intro)))))))))))⟩ (And.intro ⟨_, rfl, And.intro ⟨rfl, .refl _⟩ (And.intro ⟨rfl, .refl _⟩ (And.intro ⟨rfl, .refl _⟩ (And.intro ⟨rfl, .refl _⟩ (And.intro ⟨rfl, .refl _⟩ (And.intro ⟨rfl, .refl _⟩ (And.intro ⟨rfl, .refl _⟩ (And.intro ⟨rfl, .refl _⟩ (And.intro ⟨rfl, .refl _⟩ (And.intro ⟨rfl, .refl _⟩ (And.intro ⟨rfl, .refl _⟩ (True.intro)))))))))))⟩ (True.intro)), rfl⟩ h
                · conv => whnf
                  refine ⟨a0.Large.length, List.length_map _, ?_⟩
                  conv => whnf
                  refine ⟨a1.Large.length, List.length_map _, ?_⟩
                  conv => whnf
                  revert h; refine sel_if ?_ ?_ <;> intro h
                  · conv => whnf
                    exact join_end (v := true) ⟨rfl, And.intro (.refl _) (And.intro (.refl _) (And.intro (.refl _) True.intro)), And.intro ⟨_, rfl, And.intro ⟨rfl, .refl _⟩ (And.intro ⟨rfl, .refl _⟩ (And.intro ⟨rfl, .refl _⟩ (And.intro ⟨rfl, .refl _⟩ (And.intro ⟨rfl, .refl _⟩ (And.intro ⟨rfl, .refl _⟩ (And.intro ⟨rfl, .refl _⟩ (And.intro ⟨rfl, .refl _⟩ (And.intro ⟨rfl, .refl _⟩ (And.intro ⟨rfl, .refl _⟩ (And.intro ⟨rfl, .refl _⟩ (True.intro)))))))))))⟩ (And.intro ⟨_, rfl, And.intro ⟨rfl, .refl _⟩ (And.intro ⟨rfl, .refl _⟩ (And.intro ⟨rfl, .refl _⟩ (And.intro ⟨rfl, .refl _⟩ (And.intro ⟨rfl, .refl _⟩ (And.intro ⟨rfl, .refl _⟩ (And.intro ⟨rfl, .refl _⟩ (And.intro ⟨rfl, .refl _⟩ (And.intro ⟨rfl, .refl _⟩ (And.intro ⟨rfl, .refl _⟩ (And.intro ⟨rfl, .refl _⟩ (True.intro)))))))))))⟩ (True.intro)), rfl⟩ h
                  · conv => whnf
                    refine ⟨a0.Other.length, List.length_map _, ?_⟩
                    conv => whnf
                    refine ⟨a1.Other.length, List.length_map _, ?_⟩
                    conv => whnf
                    exact join_end (v := ((a0.Other.length : Int) != (a1.Other.length : Int))) ⟨rfl, And.intro (.refl _) (And.intro (.refl _) (And.intro (.refl _) True.intro)), And.intro ⟨_, rfl, And.intro ⟨rfl, .refl _⟩ (And.intro ⟨rfl, .refl _⟩ (And.intro ⟨rfl, .refl _⟩ (And.intro ⟨rfl, .refl _⟩ (And.intro ⟨rfl, .refl _⟩ (And.intro ⟨rfl, .refl _⟩ (And.intro ⟨rfl, .refl _⟩ (And.intro ⟨rfl, .refl _⟩ (And.intro ⟨rfl, .refl _⟩ (And.intro ⟨rfl, .refl _⟩ (And.intro ⟨rfl, .refl _⟩ (True.intro)))))))))))⟩ (And.intro ⟨_, rfl, And.intro ⟨rfl, .refl _⟩ (And.intro ⟨rfl, .refl _⟩ (And.intro ⟨rfl, .refl _⟩ (And.intro ⟨rfl, .refl _⟩ (And.intro ⟨rfl, .refl _⟩ (And.intro ⟨rfl, .refl _⟩ (And.intro ⟨rfl, .refl _⟩ (And.intro ⟨rfl, .refl _⟩ (And.intro ⟨rfl, .refl _⟩ (And.intro ⟨rfl, .refl _⟩ (And.intro ⟨rfl, .refl _⟩ (True.intro)))))))))))⟩ (True.intro)), rfl⟩ h
  · rintro v1 h
    conv => whnf
    refine .go ?_
    conv => whnf
    revert h; refine sel_if ?_ ?_ <;> intro h
    · conv => whnf
      cases h
      exact ⟨rfl, rfl⟩
    · conv => whnf
      refine ⟨a0.Path.length, List.length_map _, ?_⟩
      conv => whnf
      revert h; refine cut_join (fun _ => ⟨X :: X :: AV.ref 2 0 :: AV.ref 3 0 :: dd 198 ([]), N :: N :: some (OB.box [AV.d (D.i a0.Origin), AV.d (D.l 2 Segment.toD a0.Path), AV.d (D.b a0.Next.V6), AV.d (D.u64 a0.Next.Hi), AV.d (D.u64 a0.Next.Lo), AV.d (D.i a0.MED), AV.d (D.i a0.Pref), AV.d (D.i a0.OTC), AV.d (D.l 2 Community.toD a0.Communities), AV.d (D.l 3 Large.toD a0.Large), AV.d (D.l 3 Unknown.toD a0.Other)]) :: some (OB.box [AV.d (D.i a1.Origin), AV.d (D.l 2 Segment.toD a1.Path), AV.d (D.b a1.Next.V6), AV.d (D.u64 a1.Next.Hi), AV.d (D.u64 a1.Next.Lo), AV.d (D.i a1.MED), AV.d (D.i a1.Pref), AV.d (D.i a1.OTC), AV.d (D.l 2 Community.toD a1.Communities), AV.d (D.l 3 Large.toD a1.Large), AV.d (D.l 3 Unknown.toD a1.Other)]) :: nn 198 ([])⟩) ?_ ?_
      · intro k66 h
        conv => whnf
        revert h; refine loop_for 79 2 Segment.toD rfl (fun i97 _ => ⟨X :: X :: AV.ref 2 0 :: AV.ref 3 0 :: dd 75 (AV.d (D.l 2 Segment.toD a0.Path) :: AV.d (D.i (a0.Path.length : Int)) :: AV.d (D.i (i97 : Int)) :: dd 120 ([])), N :: N :: some (OB.box [AV.d (D.i a0.Origin), AV.d (D.l 2 Segment.toD a0.Path), AV.d (D.b a0.Next.V6), AV.d (D.u64 a0.Next.Hi), AV.d (D.u64 a0.Next.Lo), AV.d (D.i a0.MED), AV.d (D.i a0.Pref), AV.d (D.i a0.OTC), AV.d (D.l 2 Community.toD a0.Communities), AV.d (D.l 3 Large.toD a0.Large), AV.d (D.l 3 Unknown.toD a0.Other)]) :: some (OB.box [AV.d (D.i a1.Origin), AV.d (D.l 2 Segment.toD a1.Path), AV.d (D.b a1.Next.V6), AV.d (D.u64 a1.Next.Hi), AV.d (D.u64 a1.Next.Lo), AV.d (D.i a1.MED), AV.d (D.i a1.Pref), AV.d (D.i a1.OTC), AV.d (D.l 2 Community.toD a1.Communities), AV.d (D.l 3 Large.toD a1.Large), AV.d (D.l 3 Unknown.toD a1.Other)]) :: nn 198 ([])⟩) ⟨rfl, And.intro (.refl _) (And.intro (.refl _) (And.intro (.refl _) (And.intro (.refl _) (And.intro (.refl _) True.intro)))), And.intro ⟨_, rfl, And.intro ⟨rfl, .refl _⟩ (And.intro ⟨rfl, .refl _⟩ (And.intro ⟨rfl, .refl _⟩ (And.intro ⟨rfl, .refl _⟩ (And.intro ⟨rfl, .refl _⟩ (And.intro ⟨rfl, .refl _⟩ (And.intro ⟨rfl, .refl _⟩ (And.intro ⟨rfl, .refl _⟩ (And.intro ⟨rfl, .refl _⟩ (And.intro ⟨rfl, .refl _⟩ (And.intro ⟨rfl, .refl _⟩ (True.intro)))))))))))⟩ (And.intro ⟨_, rfl, And.intro ⟨rfl, .refl _⟩ (And.intro ⟨rfl, .refl _⟩ (And.intro ⟨rfl, .refl _⟩ (And.intro ⟨rfl, .refl _⟩ (And.intro ⟨rfl, .refl _⟩ (And.intro ⟨rfl, .refl _⟩ (And.intro ⟨rfl, .refl _⟩ (And.intro ⟨rfl, .refl _⟩ (And.intro ⟨rfl, .refl _⟩ (And.intro ⟨rfl, .refl _⟩ (And.intro ⟨rfl, .refl _⟩ (True.intro)))))))))))⟩ (True.intro)), rfl⟩ ?_ ?_
        · rintro _ K99 h
          conv => whnf
          refine .go ?_
          conv => whnf
          refine sel_f lt_f ?_
          conv => whnf
          exact join_end (v := ()) ⟨rfl, And.intro (.refl _) (And.intro (.refl _) True.intro), And.intro ⟨_, rfl, And.intro ⟨rfl, .refl _⟩ (And.intro ⟨rfl, .refl _⟩ (And.intro ⟨rfl, .refl _⟩ (And.intro ⟨rfl, .refl _⟩ (And.intro ⟨rfl, .refl _⟩ (And.intro ⟨rfl, .refl _⟩ (And.intro ⟨rfl, .refl _⟩ (And.intro ⟨rfl, .refl _⟩ (And.intro ⟨rfl, .refl _⟩ (And.intro ⟨rfl, .refl _⟩ (And.intro ⟨rfl, .refl _⟩ (True.intro)))))))))))⟩ (And.intro ⟨_, rfl, And.intro ⟨rfl, .refl _⟩ (And.intro ⟨rfl, .refl _⟩ (And.intro ⟨rfl, .refl _⟩ (And.intro ⟨rfl, .refl _⟩ (And.intro ⟨rfl, .refl _⟩ (And.intro ⟨rfl, .refl _⟩ (And.intro ⟨rfl, .refl _⟩ (And.intro ⟨rfl, .refl _⟩ (And.intro ⟨rfl, .refl _⟩ (And.intro ⟨rfl, .refl _⟩ (And.intro ⟨rfl, .refl _⟩ (True.intro)))))))))))⟩ (True.intro)), rfl⟩ h
        · rintro next101 i97 x98 _ K99 hii97 hxi97 hwi97 h hK100
          conv => whnf
          refine .go ?_
          conv => whnf
          refine sel_t (lt_t hii97) ?_
          conv => whnf
          refine .go ?_
          conv => whnf
          revert h; refine cut_join (fun v122 => ⟨X :: X :: AV.ref 2 0 :: AV.ref 3 0 :: dd 75 (AV.d (D.l 2 Segment.toD a0.Path) :: AV.d (D.i (a0.Path.length : Int)) :: AV.d (D.i (i97 : Int)) :: dd 30 (AV.d (D.b v122) :: dd 89 ([]))), N :: N :: some (OB.box [AV.d (D.i a0.Origin), AV.d (D.l 2 Segment.toD a0.Path), AV.d (D.b a0.Next.V6), AV.d (D.u64 a0.Next.Hi), AV.d (D.u64 a0.Next.Lo), AV.d (D.i a0.MED), AV.d (D.i a0.Pref), AV.d (D.i a0.OTC), AV.d (D.l 2 Community.toD a0.Communities), AV.d (D.l 3 Large.toD a0.Large), AV.d (D.l 3 Unknown.toD a0.Other)]) :: some (OB.box [AV.d (D.i a1.Origin), AV.d (D.l 2 Segment.toD a1.Path), AV.d (D.b a1.Next.V6), AV.d (D.u64 a1.Next.Hi), AV.d (D.u64 a1.Next.Lo), AV.d (D.i a1.MED), AV.d (D.i a1.Pref), AV.d (D.i a1.OTC), AV.d (D.l 2 Community.toD a1.Communities), AV.d (D.l 3 Large.toD a1.Large), AV.d (D.l 3 Unknown.toD a1.Other)]) :: nn 198 ([])⟩) ?_ ?_
          · intro k123 h
            conv => whnf
            refine dOB (by kernel_rfl) ?_
            conv => whnf
            refine ⟨idx_b (f := Segment.toD) hii97, Segment.toD x98, hxi97, rfl, ?_⟩
            conv => whnf
            replace h := bind_inv h; obtain ⟨v124, g125, h⟩ := h
            refine ⟨geti_b (f := Segment.toD) g125, Segment.toD v124, geti_d (f := Segment.toD) g125, rfl, ?_⟩
            conv => whnf
            revert h; refine sel_if ?_ ?_ <;> intro h
            · conv => whnf
              refine cOB (by kernel_rfl) ?_
              conv => whnf
              exact join_end (v := true) ⟨rfl, And.intro (.refl _) (And.intro (.refl _) (And.intro (.refl _) (And.intro (.refl _) (And.intro (.refl _) (And.intro (.refl _) True.intro))))), And.intro ⟨_, rfl, And.intro ⟨rfl, .refl _⟩ (And.intro ⟨rfl, .refl _⟩ (And.intro ⟨rfl, .refl _⟩ (And.intro ⟨rfl, .refl _⟩ (And.intro ⟨rfl, .refl _⟩ (And.intro ⟨rfl, .refl _⟩ (And.intro ⟨rfl, .refl _⟩ (And.intro ⟨rfl, .refl _⟩ (And.intro ⟨rfl, .refl _⟩ (And.intro ⟨rfl, .refl _⟩ (And.intro ⟨rfl, .refl _⟩ (True.intro)))))))))))⟩ (And.intro ⟨_, rfl, And.intro ⟨rfl, .refl _⟩ (And.intro ⟨rfl, .refl _⟩ (And.intro ⟨rfl, .refl _⟩ (And.intro ⟨rfl, .refl _⟩ (And.intro ⟨rfl, .refl _⟩ (And.intro ⟨rfl, .refl _⟩ (And.intro ⟨rfl, .refl _⟩ (And.intro ⟨rfl, .refl _⟩ (And.intro ⟨rfl, .refl _⟩ (And.intro ⟨rfl, .refl _⟩ (And.intro ⟨rfl, .refl _⟩ (True.intro)))))))))))⟩ (True.intro)), rfl⟩ h
            · conv => whnf
              refine ⟨idx_b (f := Segment.toD) hii97, Segment.toD x98, hxi97, rfl, ?_⟩
              conv => whnf
              replace h := bind_inv h; obtain ⟨v126, g127, h⟩ := h
              refine ⟨geti_b (f := Segment.toD) g127, Segment.toD v126, geti_d (f := Segment.toD) g127, rfl, ?_⟩
              conv => whnf
              replace h := bind_inv h; obtain ⟨v128, g129, h⟩ := h
              refine ⟨_, _, ref23_SameInts_ok g129, .inl rfl, ?_⟩
              conv => whnf
              refine cOB (by kernel_rfl) ?_
              conv => whnf
              exact join_end (v := (!v128)) ⟨rfl, And.intro (.refl _) (And.intro (.refl _) (And.intro (.refl _) (And.intro (.refl _) (And.intro (.refl _) (And.intro (.refl _) True.intro))))), And.intro ⟨_, rfl, And.intro ⟨rfl, .refl _⟩ (And.intro ⟨rfl, .refl _⟩ (And.intro ⟨rfl, .refl _⟩ (And.intro ⟨rfl, .refl _⟩ (And.intro ⟨rfl, .refl _⟩ (And.intro ⟨rfl, .refl _⟩ (And.intro ⟨rfl, .refl _⟩ (And.intro ⟨rfl, .refl _⟩ (And.intro ⟨rfl, .refl _⟩ (And.intro ⟨rfl, .refl _⟩ (And.intro ⟨rfl, .refl _⟩ (True.intro)))))))))))⟩ (And.intro ⟨_, rfl, And.intro ⟨rfl, .refl _⟩ (And.intro ⟨rfl, .refl _⟩ (And.intro ⟨rfl, .refl _⟩ (And.intro ⟨rfl, .refl _⟩ (And.intro ⟨rfl, .refl _⟩ (And.intro ⟨rfl, .refl _⟩ (And.intro ⟨rfl, .refl _⟩ (And.intro ⟨rfl, .refl _⟩ (And.intro ⟨rfl, .refl _⟩ (And.intro ⟨rfl, .refl _⟩ (And.intro ⟨rfl, .refl _⟩ (True.intro)))))))))))⟩ (True.intro)), rfl⟩ h
          · rintro v122 h
            conv => whnf
            refine .go ?_
            conv => whnf
            revert h; refine sel_if ?_ ?_ <;> intro h
            · conv => whnf
              cases h
              exact ⟨rfl, rfl⟩
            · conv => whnf
              refine ⟨_, hwi97, ?_⟩
              conv => whnf
              exact hK100 _ () ⟨rfl, And.intro (.refl _) (And.intro (.refl _) (And.intro (.refl _) (And.intro (.refl _) (And.intro (.refl _) True.intro)))), And.intro ⟨_, rfl, And.intro ⟨rfl, .refl _⟩ (And.intro ⟨rfl, .refl _⟩ (And.intro ⟨rfl, .refl _⟩ (And.intro ⟨rfl, .refl _⟩ (And.intro ⟨rfl, .refl _⟩ (And.intro ⟨rfl, .refl _⟩ (And.intro ⟨rfl, .refl _⟩ (And.intro ⟨rfl, .refl _⟩ (And.intro ⟨rfl, .refl _⟩ (And.intro ⟨rfl, .refl _⟩ (And.intro ⟨rfl, .refl _⟩ (True.intro)))))))))))⟩ (And.intro ⟨_, rfl, And.intro ⟨rfl, .refl _⟩ (And.intro ⟨rfl, .refl _⟩ (And.intro ⟨rfl, .refl _⟩ (And.intro ⟨rfl, .refl _⟩ (And.intro ⟨rfl, .refl _⟩ (And.intro ⟨rfl, .refl _⟩ (And.intro ⟨rfl, .refl _⟩ (And.intro ⟨rfl, .refl _⟩ (And.intro ⟨rfl, .refl _⟩ (And.intro ⟨rfl, .refl _⟩ (And.intro ⟨rfl, .refl _⟩ (True.intro)))))))))))⟩ (True.intro)), rfl⟩ h
      · rintro _ h
        conv => whnf
        refine ⟨a0.Communities.length, List.length_map _, ?_⟩
        conv => whnf
        revert h; refine cut_join (fun _ => ⟨X :: X :: AV.ref 2 0 :: AV.ref 3 0 :: dd 198 ([]), N :: N :: some (OB.box [AV.d (D.i a0.Origin), AV.d (D.l 2 Segment.toD a0.Path), AV.d (D.b a0.Next.V6), AV.d (D.u64 a0.Next.Hi), AV.d (D.u64 a0.Next.Lo), AV.d (D.i a0.MED), AV.d (D.i a0.Pref), AV.d (D.i a0.OTC), AV.d (D.l 2 Community.toD a0.Communities), AV.d (D.l 3 Large.toD a0.Large), AV.d (D.l 3 Unknown.toD a0.Other)]) :: some (OB.box [AV.d (D.i a1.Origin), AV.d (D.l 2 Segment.toD a1.Path), AV.d (D.b a1.Next.V6), AV.d (D.u64 a1.Next.Hi), AV.d (D.u64 a1.Next.Lo), AV.d (D.i a1.MED), AV.d (D.i a1.Pref), AV.d (D.i a1.OTC), AV.d (D.l 2 Community.toD a1.Communities), AV.d (D.l 3 Large.toD a1.Large), AV.d (D.l 3 Unknown.toD a1.Other)]) :: nn 198 ([])⟩) ?_ ?_
        · intro k145 h
          conv => whnf
          revert h; refine loop_for 115 2 Community.toD rfl (fun i152 _ => ⟨X :: X :: AV.ref 2 0 :: AV.ref 3 0 :: dd 111 (AV.d (D.l 2 Community.toD a0.Communities) :: AV.d (D.i (a0.Communities.length : Int)) :: AV.d (D.i (i152 : Int)) :: dd 84 ([])), N :: N :: some (OB.box [AV.d (D.i a0.Origin), AV.d (D.l 2 Segment.toD a0.Path), AV.d (D.b a0.Next.V6), AV.d (D.u64 a0.Next.Hi), AV.d (D.u64 a0.Next.Lo), AV.d (D.i a0.MED), AV.d (D.i a0.Pref), AV.d (D.i a0.OTC), AV.d (D.l 2 Community.toD a0.Communities), AV.d (D.l 3 Large.toD a0.Large), AV.d (D.l 3 Unknown.toD a0.Other)]) :: some (OB.box [AV.d (D.i a1.Origin), AV.d (D.l 2 Segment.toD a1.Path), AV.d (D.b a1.Next.V6), AV.d (D.u64 a1.Next.Hi), AV.d (D.u64 a1.Next.Lo), AV.d (D.i a1.MED), AV.d (D.i a1.Pref), AV.d (D.i a1.OTC), AV.d (D.l 2 Community.toD a1.Communities), AV.d (D.l 3 Large.toD a1.Large), AV.d (D.l 3 Unknown.toD a1.Other)]) :: nn 198 ([])⟩) ⟨rfl, And.intro (.refl _) (And.intro (.refl _) (And.intro (.refl _) (And.intro (.refl _) (And.intro (.refl _) True.intro)))), And.intro ⟨_, rfl, And.intro ⟨rfl, .refl _⟩ (And.intro ⟨rfl, .refl _⟩ (And.intro ⟨rfl, .refl _⟩ (And.intro ⟨rfl, .refl _⟩ (And.intro ⟨rfl, .refl _⟩ (And.intro ⟨rfl, .refl _⟩ (And.intro ⟨rfl, .refl _⟩ (And.intro ⟨rfl, .refl _⟩ (And.intro ⟨rfl, .refl _⟩ (And.intro ⟨rfl, .refl _⟩ (And.intro ⟨rfl, .refl _⟩ (True.intro)))))))))))⟩ (And.intro ⟨_, rfl, And.intro ⟨rfl, .refl _⟩ (And.intro ⟨rfl, .refl _⟩ (And.intro ⟨rfl, .refl _⟩ (And.intro ⟨rfl, .refl _⟩ (And.intro ⟨rfl, .refl _⟩ (And.intro ⟨rfl, .refl _⟩ (And.intro ⟨rfl, .refl _⟩ (And.intro ⟨rfl, .refl _⟩ (And.intro ⟨rfl, .refl _⟩ (And.intro ⟨rfl, .refl _⟩ (And.intro ⟨rfl, .refl _⟩ (True.intro)))))))))))⟩ (True.intro)), rfl⟩ ?_ ?_
          · rintro _ K154 h
            conv => whnf
            refine .go ?_
            conv => whnf
            refine sel_f lt_f ?_
            conv => whnf
            exact join_end (v := ()) ⟨rfl, And.intro (.refl _) (And.intro (.refl _) True.intro), And.intro ⟨_, rfl, And.intro ⟨rfl, .refl _⟩ (And.intro ⟨rfl, .refl _⟩ (And.intro ⟨rfl, .refl _⟩ (And.intro ⟨rfl, .refl _⟩ (And.intro ⟨rfl, .refl _⟩ (And.intro ⟨rfl, .refl _⟩ (And.intro ⟨rfl, .refl _⟩ (And.intro ⟨rfl, .refl _⟩ (And.intro ⟨rfl, .refl _⟩ (And.intro ⟨rfl, .refl _⟩ (And.intro ⟨rfl, .refl _⟩ (True.intro)))))))))))⟩ (And.intro ⟨_, rfl, And.intro ⟨rfl, .refl _⟩ (And.intro ⟨rfl, .refl _⟩ (And.intro ⟨rfl, .refl _⟩ (And.intro ⟨rfl, .refl _⟩ (And.intro ⟨rfl, .refl _⟩ (And.intro ⟨rfl, .refl _⟩ (And.intro ⟨rfl, .refl _⟩ (And.intro ⟨rfl, .refl _⟩ (And.intro ⟨rfl, .refl _⟩ (And.intro ⟨rfl, .refl _⟩ (And.intro ⟨rfl, .refl _⟩ (True.intro)))))))))))⟩ (True.intro)), rfl⟩ h
          · rintro next156 i152 x153 _ K154 hii152 hxi152 hwi152 h hK155
            conv => whnf
            refine .go ?_
            conv => whnf
            refine sel_t (lt_t hii152) ?_
            conv => whnf
            refine .go ?_
            conv => whnf
            refine dOB (by kernel_rfl) ?_
            conv => whnf
            refine ⟨idx_b (f := Community.toD) hii152, Community.toD x153, hxi152, rfl, ?_⟩
            conv => whnf
            replace h := bind_inv h; obtain ⟨v159, g160, h⟩ := h
            refine ⟨geti_b (f := Community.toD) g160, Community.toD v159, geti_d (f := Community.toD) g160, rfl, ?_⟩
            conv => whnf
            refine cOB (by kernel_rfl) ?_
            conv => whnf
            refine .go ?_
            conv => whnf
            revert h; refine sel_if ?_ ?_ <;> intro h
            · conv => whnf
              cases h
              exact ⟨rfl, rfl⟩
            · conv => whnf
              refine ⟨_, hwi152, ?_⟩
              conv => whnf
              exact hK155 _ () ⟨rfl, And.intro (.refl _) (And.intro (.refl _) (And.intro (.refl _) (And.intro (.refl _) (And.intro (.refl _) True.intro)))), And.intro ⟨_, rfl, And.intro ⟨rfl, .refl _⟩ (And.intro ⟨rfl, .refl _⟩ (And.intro ⟨rfl, .refl _⟩ (And.intro ⟨rfl, .refl _⟩ (And.intro ⟨rfl, .refl _⟩ (And.intro ⟨rfl, .refl _⟩ (And.intro ⟨rfl, .refl _⟩ (And.intro ⟨rfl, .refl _⟩ (And.intro ⟨rfl, .refl _⟩ (And.intro ⟨rfl, .refl _⟩ (And.intro ⟨rfl, .refl _⟩ (True.intro)))))))))))⟩ (And.intro ⟨_, rfl, And.intro ⟨rfl, .refl _⟩ (And.intro ⟨rfl, .refl _⟩ (And.intro ⟨rfl, .refl _⟩ (And.intro ⟨rfl, .refl _⟩ (And.intro ⟨rfl, .refl _⟩ (And.intro ⟨rfl, .refl _⟩ (And.intro ⟨rfl, .refl _⟩ (And.intro ⟨rfl, .refl _⟩ (And.intro ⟨rfl, .refl _⟩ (And.intro ⟨rfl, .refl _⟩ (And.intro ⟨rfl, .refl _⟩ (True.intro)))))))))))⟩ (True.intro)), rfl⟩ h
        · rintro _ h
          conv => whnf
          refine ⟨a0.Large.length, List.length_map _, ?_⟩
          conv => whnf
          revert h; refine cut_join (fun _ => ⟨X :: X :: AV.ref 2 0 :: AV.ref 3 0 :: dd 198 ([]), N :: N :: some (OB.box [AV.d (D.i a0.Origin), AV.d (D.l 2 Segment.toD a0.Path), AV.d (D.b a0.Next.V6), AV.d (D.u64 a0.Next.Hi), AV.d (D.u64 a0.Next.Lo), AV.d (D.i a0.MED), AV.d (D.i a0.Pref), AV.d (D.i a0.OTC), AV.d (D.l 2 Community.toD a0.Communities), AV.d (D.l 3 Large.toD a0.Large), AV.d (D.l 3 Unknown.toD a0.Other)]) :: some (OB.box [AV.d (D.i a1.Origin), AV.d (D.l 2 Segment.toD a1.Path), AV.d (D.b a1.Next.V6), AV.d (D.u64 a1.Next.Hi), AV.d (D.u64 a1.Next.Lo), AV.d (D.i a1.MED), AV.d (D.i a1.Pref), AV.d (D.i a1.OTC), AV.d (D.l 2 Community.toD a1.Communities), AV.d (D.l 3 Large.toD a1.Large), AV.d (D.l 3 Unknown.toD a1.Other)]) :: nn 198 ([])⟩) ?_ ?_
          · intro k176 h
            conv => whnf
            revert h; refine loop_for 133 3 Large.toD rfl (fun i183 _ => ⟨X :: X :: AV.ref 2 0 :: AV.ref 3 0 :: dd 129 (AV.d (D.l 3 Large.toD a0.Large) :: AV.d (D.i (a0.Large.length : Int)) :: AV.d (D.i (i183 : Int)) :: dd 66 ([])), N :: N :: some (OB.box [AV.d (D.i a0.Origin), AV.d (D.l 2 Segment.toD a0.Path), AV.d (D.b a0.Next.V6), AV.d (D.u64 a0.Next.Hi), AV.d (D.u64 a0.Next.Lo), AV.d (D.i a0.MED), AV.d (D.i a0.Pref), AV.d (D.i a0.OTC), AV.d (D.l 2 Community.toD a0.Communities), AV.d (D.l 3 Large.toD a0.Large), AV.d (D.l 3 Unknown.toD a0.Other)]) :: some (OB.box [AV.d (D.i a1.Origin), AV.d (D.l 2 Segment.toD a1.Path), AV.d (D.b a1.Next.V6), AV.d (D.u64 a1.Next.Hi), AV.d (D.u64 a1.Next.Lo), AV.d (D.i a1.MED), AV.d (D.i a1.Pref), AV.d (D.i a1.OTC), AV.d (D.l 2 Community.toD a1.Communities), AV.d (D.l 3 Large.toD a1.Large), AV.d (D.l 3 Unknown.toD a1.Other)]) :: nn 198 ([])⟩) ⟨rfl, And.intro (.refl _) (And.intro (.refl _) (And.intro (.refl _) (And.intro (.refl _) (And.intro (.refl _) True.intro)))), And.intro ⟨_, rfl, And.intro ⟨rfl, .refl _⟩ (And.intro ⟨rfl, .refl _⟩ (And.intro ⟨rfl, .refl _⟩ (And.intro ⟨rfl, .refl _⟩ (And.intro ⟨rfl, .refl _⟩ (And.intro ⟨rfl, .refl _⟩ (And.intro ⟨rfl, .refl _⟩ (And.intro ⟨rfl, .refl _⟩ (And.intro ⟨rfl, .refl _⟩ (And.intro ⟨rfl, .refl _⟩ (And.intro ⟨rfl, .refl _⟩ (True.intro)))))))))))⟩ (And.intro ⟨_, rfl, And.intro ⟨rfl, .refl _⟩ (And.intro ⟨rfl, .refl _⟩ (And.intro ⟨rfl, .refl _⟩ (And.intro ⟨rfl, .refl _⟩ (And.intro ⟨rfl, .refl _⟩ (And.intro ⟨rfl, .refl _⟩ (And.intro ⟨rfl, .refl _⟩ (And.intro ⟨rfl, .refl _⟩ (And.intro ⟨rfl, .refl _⟩ (And.intro ⟨rfl, .refl _⟩ (And.intro ⟨rfl, .refl _⟩ (True.intro)))))))))))⟩ (True.intro)), rfl⟩ ?_ ?_
            · rintro _ K185 h
              conv => whnf
              refine .go ?_
              conv => whnf
              refine sel_f lt_f ?_
              conv => whnf
              exact join_end (v := ()) ⟨rfl, And.intro (.refl _) (And.intro (.refl _) True.intro), And.intro ⟨_, rfl, And.intro ⟨rfl, .refl _⟩ (And.intro ⟨rfl, .refl _⟩ (And.intro ⟨rfl, .refl _⟩ (And.intro ⟨rfl, .refl _⟩ (And.intro ⟨rfl, .refl _⟩ (And.intro ⟨rfl, .refl _⟩ (And.intro ⟨rfl, .refl _⟩ (And.intro ⟨rfl, .refl _⟩ (And.intro ⟨rfl, .refl _⟩ (And.intro ⟨rfl, .refl _⟩ (And.intro ⟨rfl, .refl _⟩ (True.intro)))))))))))⟩ (And.intro ⟨_, rfl, And.intro ⟨rfl, .refl _⟩ (And.intro ⟨rfl, .refl _⟩ (And.intro ⟨rfl, .refl _⟩ (And.intro ⟨rfl, .refl _⟩ (And.intro ⟨rfl, .refl _⟩ (And.intro ⟨rfl, .refl _⟩ (And.intro ⟨rfl, .refl _⟩ (And.intro ⟨rfl, .refl _⟩ (And.intro ⟨rfl, .refl _⟩ (And.intro ⟨rfl, .refl _⟩ (And.intro ⟨rfl, .refl _⟩ (True.intro)))))))))))⟩ (True.intro)), rfl⟩ h
            · rintro next187 i183 x184 _ K185 hii183 hxi183 hwi183 h hK186
              conv => whnf
              refine .go ?_
              conv => whnf
              refine sel_t (lt_t hii183) ?_
              conv => whnf
              refine .go ?_
              conv => whnf
              refine dOB (by kernel_rfl) ?_
              conv => whnf
              refine ⟨idx_b (f := Large.toD) hii183, Large.toD x184, hxi183, rfl, ?_⟩
              conv => whnf
              replace h := bind_inv h; obtain ⟨v190, g191, h⟩ := h
              refine ⟨geti_b (f := Large.toD) g191, Large.toD v190, geti_d (f := Large.toD) g191, rfl, ?_⟩
              conv => whnf
              refine cOB (by kernel_rfl) ?_
              conv => whnf
              refine .go ?_
              conv => whnf
              revert h; refine sel_if ?_ ?_ <;> intro h
              · conv => whnf
                cases h
                exact ⟨rfl, rfl⟩
              · conv => whnf
                refine ⟨_, hwi183, ?_⟩
                conv => whnf
                exact hK186 _ () ⟨rfl, And.intro (.refl _) (And.intro (.refl _) (And.intro (.refl _) (And.intro (.refl _) (And.intro (.refl _) True.intro)))), And.intro ⟨_, rfl, And.intro ⟨rfl, .refl _⟩ (And.intro ⟨rfl, .refl _⟩ (And.intro ⟨rfl, .refl _⟩ (And.intro ⟨rfl, .refl _⟩ (And.intro ⟨rfl, .refl _⟩ (And.intro ⟨rfl, .refl _⟩ (And.intro ⟨rfl, .refl _⟩ (And.intro ⟨rfl, .refl _⟩ (And.intro ⟨rfl, .refl _⟩ (And.intro ⟨rfl, .refl _⟩ (And.intro ⟨rfl, .refl _⟩ (True.intro)))))))))))⟩ (And.intro ⟨_, rfl, And.intro ⟨rfl, .refl _⟩ (And.intro ⟨rfl, .refl _⟩ (And.intro ⟨rfl, .refl _⟩ (And.intro ⟨rfl, .refl _⟩ (And.intro ⟨rfl, .refl _⟩ (And.intro ⟨rfl, .refl _⟩ (And.intro ⟨rfl, .refl _⟩ (And.intro ⟨rfl, .refl _⟩ (And.intro ⟨rfl, .refl _⟩ (And.intro ⟨rfl, .refl _⟩ (And.intro ⟨rfl, .refl _⟩ (True.intro)))))))))))⟩ (True.intro)), rfl⟩ h
          · rintro _ h
            conv => whnf
            refine ⟨a0.Other.length, List.length_map _, ?_⟩
            conv => whnf
            revert h; refine cut_join (fun _ => ⟨dd 202 ([]), nn 202 ([])⟩) ?_ ?_
            · intro k255 h
              conv => whnf
              revert h; refine loop_for 151 3 Unknown.toD rfl (fun i286 _ => ⟨X :: X :: AV.ref 2 0 :: AV.ref 3 0 :: dd 147 (AV.d (D.l 3 Unknown.toD a0.Other) :: AV.d (D.i (a0.Other.length : Int)) :: AV.d (D.i (i286 : Int)) :: dd 48 ([])), N :: N :: some (OB.box [AV.d (D.i a0.Origin), AV.d (D.l 2 Segment.toD a0.Path), AV.d (D.b a0.Next.V6), AV.d (D.u64 a0.Next.Hi), AV.d (D.u64 a0.Next.Lo), AV.d (D.i a0.MED), AV.d (D.i a0.Pref), AV.d (D.i a0.OTC), AV.d (D.l 2 Community.toD a0.Communities), AV.d (D.l 3 Large.toD a0.Large), AV.d (D.l 3 Unknown.toD a0.Other)]) :: some (OB.box [AV.d (D.i a1.Origin), AV.d (D.l 2 Segment.toD a1.Path), AV.d (D.b a1.Next.V6), AV.d (D.u64 a1.Next.Hi), AV.d (D.u64 a1.Next.Lo), AV.d (D.i a1.MED), AV.d (D.i a1.Pref), AV.d (D.i a1.OTC), AV.d (D.l 2 Community.toD a1.Communities), AV.d (D.l 3 Large.toD a1.Large), AV.d (D.l 3 Unknown.toD a1.Other)]) :: nn 198 ([])⟩) ⟨rfl, And.intro (.refl _) (And.intro (.refl _) (And.intro (.refl _) (And.intro (.refl _) (And.intro (.refl _) True.intro)))), And.intro ⟨_, rfl, And.intro ⟨rfl, .refl _⟩ (And.intro ⟨rfl, .refl _⟩ (And.intro ⟨rfl, .refl _⟩ (And.intro ⟨rfl, .refl _⟩ (And.intro ⟨rfl, .refl _⟩ (And.intro ⟨rfl, .refl _⟩ (And.intro ⟨rfl, .refl _⟩ (And.intro ⟨rfl, .refl _⟩ (And.intro ⟨rfl, .refl _⟩ (And.intro ⟨rfl, .refl _⟩ (And.intro ⟨rfl, .refl _⟩ (True.intro)))))))))))⟩ (And.intro ⟨_, rfl, And.intro ⟨rfl, .refl _⟩ (And.intro ⟨rfl, .refl _⟩ (And.intro ⟨rfl, .refl _⟩ (And.intro ⟨rfl, .refl _⟩ (And.intro ⟨rfl, .refl _⟩ (And.intro ⟨rfl, .refl _⟩ (And.intro ⟨rfl, .refl _⟩ (And.intro ⟨rfl, .refl _⟩ (And.intro ⟨rfl, .refl _⟩ (And.intro ⟨rfl, .refl _⟩ (And.intro ⟨rfl, .refl _⟩ (True.intro)))))))))))⟩ (True.intro)), rfl⟩ ?_ ?_
              · rintro _ K288 h
                conv => whnf
                refine .go ?_
                conv => whnf
                refine sel_f lt_f ?_
                conv => whnf
                exact join_end (v := ()) ⟨rfl, True.intro, True.intro, rfl⟩ h
              · rintro next290 i286 x287 _ K288 hii286 hxi286 hwi286 h hK289
                conv => whnf
                refine .go ?_
                conv => whnf
                refine sel_t (lt_t hii286) ?_
                conv => whnf
                refine .go ?_
                conv => whnf
                revert h; refine cut_join (fun v311 => ⟨X :: X :: AV.ref 2 0 :: AV.ref 3 0 :: dd 147 (AV.d (D.l 3 Unknown.toD a0.Other) :: AV.d (D.i (a0.Other.length : Int)) :: AV.d (D.i (i286 : Int)) :: dd 46 (AV.d (D.b v311) :: X :: [])), N :: N :: some (OB.box [AV.d (D.i a0.Origin), AV.d (D.l 2 Segment.toD a0.Path), AV.d (D.b a0.Next.V6), AV.d (D.u64 a0.Next.Hi), AV.d (D.u64 a0.Next.Lo), AV.d (D.i a0.MED), AV.d (D.i a0.Pref), AV.d (D.i a0.OTC), AV.d (D.l 2 Community.toD a0.Communities), AV.d (D.l 3 Large.toD a0.Large), AV.d (D.l 3 Unknown.toD a0.Other)]) :: some (OB.box [AV.d (D.i a1.Origin), AV.d (D.l 2 Segment.toD a1.Path), AV.d (D.b a1.Next.V6), AV.d (D.u64 a1.Next.Hi), AV.d (D.u64 a1.Next.Lo), AV.d (D.i a1.MED), AV.d (D.i a1.Pref), AV.d (D.i a1.OTC), AV.d (D.l 2 Community.toD a1.Communities), AV.d (D.l 3 Large.toD a1.Large), AV.d (D.l 3 Unknown.toD a1.Other)]) :: nn 198 ([])⟩) ?_ ?_
                · intro k312 h
                  conv => whnf
                  refine dOB (by kernel_rfl) ?_
                  conv => whnf
                  refine ⟨idx_b (f := Unknown.toD) hii286, Unknown.toD x287, hxi286, rfl, ?_⟩
                  conv => whnf
                  replace h := bind_inv h; obtain ⟨v313, g314, h⟩ := h
                  refine ⟨geti_b (f := Unknown.toD) g314, Unknown.toD v313, geti_d (f := Unknown.toD) g314, rfl, ?_⟩
                  conv => whnf
                  revert h; refine sel_if ?_ ?_ <;> intro h
                  · conv => whnf
                    refine cOB (by kernel_rfl) ?_
                    conv => whnf
                    exact join_end (v := true) ⟨rfl, And.intro (.refl _) (And.intro (.refl _) (And.intro (.refl _) (And.intro (.refl _) (And.intro (.refl _) (And.intro (.refl _) True.intro))))), And.intro ⟨_, rfl, And.intro ⟨rfl, .refl _⟩ (And.intro ⟨rfl, .refl _⟩ (And.intro ⟨rfl, .refl _⟩ (And.intro ⟨rfl, .refl _⟩ (And.intro ⟨rfl, .refl _⟩ (And.intro ⟨rfl, .refl _⟩ (And.intro ⟨rfl, .refl _⟩ (And.intro ⟨rfl, .refl _⟩ (And.intro ⟨rfl, .refl _⟩ (And.intro ⟨rfl, .refl _⟩ (And.intro ⟨rfl, .refl _⟩ (True.intro)))))))))))⟩ (And.intro ⟨_, rfl, And.intro ⟨rfl, .refl _⟩ (And.intro ⟨rfl, .refl _⟩ (And.intro ⟨rfl, .refl _⟩ (And.intro ⟨rfl, .refl _⟩ (And.intro ⟨rfl, .refl _⟩ (And.intro ⟨rfl, .refl _⟩ (And.intro ⟨rfl, .refl _⟩ (And.intro ⟨rfl, .refl _⟩ (And.intro ⟨rfl, .refl _⟩ (And.intro ⟨rfl, .refl _⟩ (And.intro ⟨rfl, .refl _⟩ (True.intro)))))))))))⟩ (True.intro)), rfl⟩ h
                  · conv => whnf
                    refine ⟨idx_b (f := Unknown.toD) hii286, Unknown.toD x287, hxi286, rfl, ?_⟩
                    conv => whnf
                    replace h := bind_inv h; obtain ⟨v315, g316, h⟩ := h
                    refine ⟨geti_b (f := Unknown.toD) g316, Unknown.toD v315, geti_d (f := Unknown.toD) g316, rfl, ?_⟩
                    conv => whnf
                    revert h; refine sel_if ?_ ?_ <;> intro h
                    · conv => whnf
                      refine cOB (by kernel_rfl) ?_
                      conv => whnf
                      exact join_end (v := true) ⟨rfl, And.intro (.refl _) (And.intro (.refl _) (And.intro (.refl _) (And.intro (.refl _) (And.intro (.refl _) (And.intro (.refl _) True.intro))))), And.intro ⟨_, rfl, And.intro ⟨rfl, .refl _⟩ (And.intro ⟨rfl, .refl _⟩ (And.intro ⟨rfl, .refl _⟩ (And.intro ⟨rfl, .refl _⟩ (And.intro ⟨rfl, .refl _⟩ (And.intro ⟨rfl, .refl _⟩ (And.intro ⟨rfl, .refl _⟩ (And.intro ⟨rfl, .refl _⟩ (And.intro ⟨rfl, .refl _⟩ (And.intro ⟨rfl, .refl _⟩ (And.intro ⟨rfl, .refl _⟩ (True.intro)))))))))))⟩ (And.intro ⟨_, rfl, And.intro ⟨rfl, .refl _⟩ (And.intro ⟨rfl, .refl _⟩ (And.intro ⟨rfl, .refl _⟩ (And.intro ⟨rfl, .refl _⟩ (And.intro ⟨rfl, .refl _⟩ (And.intro ⟨rfl, .refl _⟩ (And.intro ⟨rfl, .refl _⟩ (And.intro ⟨rfl, .refl _⟩ (And.intro ⟨rfl, .refl _⟩ (And.intro ⟨rfl, .refl _⟩ (And.intro ⟨rfl, .refl _⟩ (True.intro)))))))))))⟩ (True.intro)), rfl⟩ h
                    · conv => whnf
                      refine ⟨idx_b (f := Unknown.toD) hii286, Unknown.toD x287, hxi286, rfl, ?_⟩
                      conv => whnf
                      refine ⟨x287.Data, rfl, ?_⟩
                      conv => whnf
                      replace h := bind_inv h; obtain ⟨v317, g318, h⟩ := h
                      refine ⟨geti_b (f := Unknown.toD) g318, Unknown.toD v317, geti_d (f := Unknown.toD) g318, rfl, ?_⟩
                      conv => whnf
                      refine ⟨v317.Data, rfl, ?_⟩
                      conv => whnf
                      refine cOB (by kernel_rfl) ?_
                      conv => whnf
                      exact join_end (v := (!((bs x287.Data).toList == (bs v317.Data).toList))) ⟨rfl, And.intro (.refl _) (And.intro (.refl _) (And.intro (.refl _) (And.intro (.refl _) (And.intro (.refl _) (And.intro (.refl _) True.intro))))), And.intro ⟨_, rfl, And.intro ⟨rfl, .refl _⟩ (And.intro ⟨rfl, .refl _⟩ (And.intro ⟨rfl, .refl _⟩ (And.intro ⟨rfl, .refl _⟩ (And.intro ⟨rfl, .refl _⟩ (And.intro ⟨rfl, .refl _⟩ (And.intro ⟨rfl, .refl _⟩ (And.intro ⟨rfl, .refl _⟩ (And.intro ⟨rfl, .refl _⟩ (And.intro ⟨rfl, .refl _⟩ (And.intro ⟨rfl, .refl _⟩ (True.intro)))))))))))⟩ (And.intro ⟨_, rfl, And.intro ⟨rfl, .refl _⟩ (And.intro ⟨rfl, .refl _⟩ (And.intro ⟨rfl, .refl _⟩ (And.intro ⟨rfl, .refl _⟩ (And.intro ⟨rfl, .refl _⟩ (And.intro ⟨rfl, .refl _⟩ (And.intro ⟨rfl, .refl _⟩ (And.intro ⟨rfl, .refl _⟩ (And.intro ⟨rfl, .refl _⟩ (And.intro ⟨rfl, .refl _⟩ (And.intro ⟨rfl, .refl _⟩ (True.intro)))))))))))⟩ (True.intro)), rfl⟩ h
                · rintro v311 h
                  conv => whnf
                  refine .go ?_
                  conv => whnf
                  revert h; refine sel_if ?_ ?_ <;> intro h
                  · conv => whnf
                    cases h
                    exact ⟨rfl, rfl⟩
                  · conv => whnf
                    refine ⟨_, hwi286, ?_⟩
                    conv => whnf
                    exact hK289 _ () ⟨rfl, And.intro (.refl _) (And.intro (.refl _) (And.intro (.refl _) (And.intro (.refl _) (And.intro (.refl _) True.intro)))), And.intro ⟨_, rfl, And.intro ⟨rfl, .refl _⟩ (And.intro ⟨rfl, .refl _⟩ (And.intro ⟨rfl, .refl _⟩ (And.intro ⟨rfl, .refl _⟩ (And.intro ⟨rfl, .refl _⟩ (And.intro ⟨rfl, .refl _⟩ (And.intro ⟨rfl, .refl _⟩ (And.intro ⟨rfl, .refl _⟩ (And.intro ⟨rfl, .refl _⟩ (And.intro ⟨rfl, .refl _⟩ (And.intro ⟨rfl, .refl _⟩ (True.intro)))))))))))⟩ (And.intro ⟨_, rfl, And.intro ⟨rfl, .refl _⟩ (And.intro ⟨rfl, .refl _⟩ (And.intro ⟨rfl, .refl _⟩ (And.intro ⟨rfl, .refl _⟩ (And.intro ⟨rfl, .refl _⟩ (And.intro ⟨rfl, .refl _⟩ (And.intro ⟨rfl, .refl _⟩ (And.intro ⟨rfl, .refl _⟩ (And.intro ⟨rfl, .refl _⟩ (And.intro ⟨rfl, .refl _⟩ (And.intro ⟨rfl, .refl _⟩ (True.intro)))))))))))⟩ (True.intro)), rfl⟩ h
            · rintro _ h
              conv => whnf
              cases h
              exact ⟨rfl, rfl⟩
end Go.AX.Q23
