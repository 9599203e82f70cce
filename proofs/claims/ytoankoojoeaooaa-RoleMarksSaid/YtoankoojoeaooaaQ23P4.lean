/-
  The functions do what their plain forms say (proofs written by a program of mine), part 4.
-/
import Derived.Test.YtoankoojoeaooaaQ23P3
namespace Go.AX.Q23
open Go Go.AX Go.Proofs
set_option maxRecDepth 100000
set_option maxHeartbeats 4000000
set_option linter.unusedVariables false
theorem mill_Deck_Attrs_ok {a0 : Deck} {a1 : Int} {a2 : Bool} {r : Attrs × Deck} (h : mill_Deck_Attrs a0 a1 a2 = some r) : CallsOK Try.prog 16 [.ref 0 0, AV.d (D.i a1), AV.d (D.b a2)] [.box (Deck.av a0)] (.d (Attrs.toD r.1)) [.box (Deck.av r.2)] := by
  refine ok Try.f16 (by kernel_rfl) (by kernel_rfl) ⟨rfl, ?_⟩
  unfold mill_Deck_Attrs at h
  conv => whnf
  replace h := bind_inv h; obtain ⟨v1, g2, h⟩ := h
  refine ⟨_, _, ref18_Empty_ok g2, .inl rfl, ?_⟩
  conv => whnf
  replace h := bind_inv h; obtain ⟨⟨v3, v4⟩, g5, h⟩ := h
  refine ⟨_, _, mill_Deck_Next_ok g5, .inl rfl, ?_⟩
  conv => whnf
  replace h := bind_inv h; obtain ⟨⟨v6, v7⟩, g8, h⟩ := h
  refine ⟨_, _, mill_Deck_Next_ok g8, .inl rfl, ?_⟩
  conv => whnf
  revert h; refine cut_join (fun (v60, v61) => ⟨AV.ref 0 0 :: AV.d (D.i a1) :: AV.d (D.b a2) :: X :: X :: X :: AV.ref 7 0 :: AV.ref 8 0 :: AV.own 16 (List.map D.i v61).length :: dd 117 ([]), some (OB.box [AV.d (D.l 1 D.i v60.L), AV.d (D.i v60.At)]) :: nn 6 (some (OB.box [AV.d (D.i 0), AV.d (D.nil 2), AV.d (D.b false), AV.d (D.u64 (0 : UInt64)), AV.d (D.u64 (0 : UInt64)), AV.d (D.i 0), AV.d (D.i 0), AV.d (D.i 0), AV.d (D.nil 2), AV.d (D.nil 3), AV.d (D.nil 3)]) :: some (OB.box [AV.d (D.i v3), AV.d (D.l 2 Segment.toD v1.Path), AV.d (D.b v1.Next.V6), AV.d (D.u64 v1.Next.Hi), AV.d (D.u64 v1.Next.Lo), AV.d (D.i v1.MED), AV.d (D.i v1.Pref), AV.d (D.i v1.OTC), AV.d (D.l 2 Community.toD v1.Communities), AV.d (D.l 3 Large.toD v1.Large), AV.d (D.l 3 Unknown.toD v1.Other)]) :: nn 7 (some (OB.row 3 1 (List.map D.i v61) false) :: nn 110 ([])))⟩) ?_ ?_
  · intro k62 h
    conv => whnf
    revert h; refine loop_while (fun (v94, v95, v96) => ⟨AV.ref 0 0 :: AV.d (D.i a1) :: AV.d (D.b a2) :: X :: X :: X :: AV.ref 7 0 :: AV.ref 8 0 :: AV.own 16 (List.map D.i v96).length :: AV.d (D.i v94) :: dd 116 ([]), some (OB.box [AV.d (D.l 1 D.i v95.L), AV.d (D.i v95.At)]) :: nn 6 (some (OB.box [AV.d (D.i 0), AV.d (D.nil 2), AV.d (D.b false), AV.d (D.u64 (0 : UInt64)), AV.d (D.u64 (0 : UInt64)), AV.d (D.i 0), AV.d (D.i 0), AV.d (D.i 0), AV.d (D.nil 2), AV.d (D.nil 3), AV.d (D.nil 3)]) :: some (OB.box [AV.d (D.i v3), AV.d (D.l 2 Segment.toD v1.Path), AV.d (D.b v1.Next.V6), AV.d (D.u64 v1.Next.Hi), AV.d (D.u64 v1.Next.Lo), AV.d (D.i v1.MED), AV.d (D.i v1.Pref), AV.d (D.i v1.OTC), AV.d (D.l 2 Community.toD v1.Communities), AV.d (D.l 3 Large.toD v1.Large), AV.d (D.l 3 Unknown.toD v1.Other)]) :: nn 7 (some (OB.row 3 1 (List.map D.i v96) false) :: nn 110 ([])))⟩) ⟨rfl, And.intro (.refl _) (And.intro (.refl _) (And.intro (.refl _) (And.intro (.refl _) (And.intro (.refl _) (And.intro (.refl _) (And.intro (.refl _) True.intro)))))), And.intro ⟨_, rfl, And.intro ⟨rfl, .refl _⟩ (And.intro ⟨rfl, .refl _⟩ (True.intro))⟩ (And.intro ⟨_, rfl, And.intro ⟨rfl, .refl _⟩ (And.intro ⟨rfl, .refl _⟩ (And.intro ⟨rfl, .refl _⟩ (And.intro ⟨rfl, .refl _⟩ (And.intro ⟨rfl, .refl _⟩ (And.intro ⟨rfl, .refl _⟩ (And.intro ⟨rfl, .refl _⟩ (And.intro ⟨rfl, .refl _⟩ (And.intro ⟨rfl, .refl _⟩ (And.intro ⟨rfl, .refl _⟩ (And.intro ⟨rfl, .refl _⟩ (True.intro)))))))))))⟩ (And.intro ⟨_, rfl, And.intro ⟨rfl, .refl _⟩ (And.intro ⟨rfl, .refl _⟩ (And.intro ⟨rfl, .refl _⟩ (And.intro ⟨rfl, .refl _⟩ (And.intro ⟨rfl, .refl _⟩ (And.intro ⟨rfl, .refl _⟩ (And.intro ⟨rfl, .refl _⟩ (And.intro ⟨rfl, .refl _⟩ (And.intro ⟨rfl, .refl _⟩ (And.intro ⟨rfl, .refl _⟩ (And.intro ⟨rfl, .refl _⟩ (True.intro)))))))))))⟩ (And.intro (.inl ⟨_, rfl, id⟩) (True.intro)))), rfl⟩ ?_
    rintro next99 ⟨v94, v95, v96⟩ K97 h hK98
    conv => whnf
    refine .go ?_
    conv => whnf
    revert h; refine sel_if ?_ ?_ <;> intro h
    · conv => whnf
      refine .go ?_
      conv => whnf
      replace h := bind_inv h; obtain ⟨⟨v107, v108⟩, g109, h⟩ := h
      refine ⟨_, _, mill_Deck_Next_ok g109, .inl rfl, ?_⟩
      conv => whnf
      replace h := bind_inv h; obtain ⟨v110, g111, h⟩ := h
      refine ⟨rfl, geti_b (f := D.i) g111, ?_⟩
      conv => whnf
      refine ⟨rfl, D.i v110, (geti_d (f := D.i) g111), ?_⟩
      conv => whnf
      refine ⟨rfl, ?_⟩
      conv => whnf
      replace h := bind_inv h; obtain ⟨v112, g113, h⟩ := h
      refine ⟨rfl, apnd_b (f := D.i) (g := D.i) g113, _, apnd_z (f := D.i) g113, ?_⟩
      conv => whnf
      refine ⟨_, rfl, ?_⟩
      conv => whnf
      exact hK98 _ ((i64w (v94 - 1)), v108, v112) ⟨rfl, And.intro (.refl _) (And.intro (.refl _) (And.intro (.refl _) (And.intro (.refl _) (And.intro (.refl _) (And.intro (.refl _) (And.intro (.refl _) True.intro)))))), And.intro ⟨_, rfl, And.intro ⟨rfl, .refl _⟩ (And.intro ⟨rfl, .refl _⟩ (True.intro))⟩ (And.intro ⟨_, rfl, And.intro ⟨rfl, .refl _⟩ (And.intro ⟨rfl, .refl _⟩ (And.intro ⟨rfl, .refl _⟩ (And.intro ⟨rfl, .refl _⟩ (And.intro ⟨rfl, .refl _⟩ (And.intro ⟨rfl, .refl _⟩ (And.intro ⟨rfl, .refl _⟩ (And.intro ⟨rfl, .refl _⟩ (And.intro ⟨rfl, .refl _⟩ (And.intro ⟨rfl, .refl _⟩ (And.intro ⟨rfl, .refl _⟩ (True.intro)))))))))))⟩ (And.intro ⟨_, rfl, And.intro ⟨rfl, .refl _⟩ (And.intro ⟨rfl, .refl _⟩ (And.intro ⟨rfl, .refl _⟩ (And.intro ⟨rfl, .refl _⟩ (And.intro ⟨rfl, .refl _⟩ (And.intro ⟨rfl, .refl _⟩ (And.intro ⟨rfl, .refl _⟩ (And.intro ⟨rfl, .refl _⟩ (And.intro ⟨rfl, .refl _⟩ (And.intro ⟨rfl, .refl _⟩ (And.intro ⟨rfl, .refl _⟩ (True.intro)))))))))))⟩ (And.intro (.inl ⟨_, rfl, id⟩) (True.intro)))), rfl⟩ h
    · conv => whnf
      exact join_end (v := (v95, v96)) ⟨rfl, And.intro (.refl _) (And.intro (.refl _) (And.intro (.refl _) (And.intro (.refl _) (And.intro (.refl _) (And.intro (.refl _) True.intro))))), And.intro ⟨_, rfl, And.intro ⟨rfl, .refl _⟩ (And.intro ⟨rfl, .refl _⟩ (True.intro))⟩ (And.intro ⟨_, rfl, And.intro ⟨rfl, .refl _⟩ (And.intro ⟨rfl, .refl _⟩ (And.intro ⟨rfl, .refl _⟩ (And.intro ⟨rfl, .refl _⟩ (And.intro ⟨rfl, .refl _⟩ (And.intro ⟨rfl, .refl _⟩ (And.intro ⟨rfl, .refl _⟩ (And.intro ⟨rfl, .refl _⟩ (And.intro ⟨rfl, .refl _⟩ (And.intro ⟨rfl, .refl _⟩ (And.intro ⟨rfl, .refl _⟩ (True.intro)))))))))))⟩ (And.intro ⟨_, rfl, And.intro ⟨rfl, .refl _⟩ (And.intro ⟨rfl, .refl _⟩ (And.intro ⟨rfl, .refl _⟩ (And.intro ⟨rfl, .refl _⟩ (And.intro ⟨rfl, .refl _⟩ (And.intro ⟨rfl, .refl _⟩ (And.intro ⟨rfl, .refl _⟩ (And.intro ⟨rfl, .refl _⟩ (And.intro ⟨rfl, .refl _⟩ (And.intro ⟨rfl, .refl _⟩ (And.intro ⟨rfl, .refl _⟩ (True.intro)))))))))))⟩ (And.intro (.inl ⟨_, rfl, id⟩) (True.intro)))), rfl⟩ h
  · rintro ⟨v60, v61⟩ h
    conv => whnf
    refine .inr ?_
    conv => whnf
    replace h := bind_inv h; obtain ⟨v114, g115, h⟩ := h
    refine ⟨_, _, mill_Port_ok g115, .inl rfl, ?_⟩
    conv => whnf
    replace h := bind_inv h; obtain ⟨⟨v116, v117⟩, g118, h⟩ := h
    refine ⟨_, _, mill_Deck_Next_ok g118, .inl rfl, ?_⟩
    conv => whnf
    revert h; refine cut_join (fun (v122, v123) => ⟨AV.ref 0 0 :: X :: AV.d (D.b a2) :: X :: X :: X :: AV.ref 7 0 :: AV.ref 8 0 :: dd 118 ([]), some (OB.box [AV.d (D.l 1 D.i v122.L), AV.d (D.i v122.At)]) :: nn 6 (some (OB.box [AV.d (D.i 0), AV.d (D.nil 2), AV.d (D.b false), AV.d (D.u64 (0 : UInt64)), AV.d (D.u64 (0 : UInt64)), AV.d (D.i 0), AV.d (D.i 0), AV.d (D.i 0), AV.d (D.nil 2), AV.d (D.nil 3), AV.d (D.nil 3)]) :: some (OB.box [AV.d (D.i v3), AV.own 34 1, AV.d (D.b v114.V6), AV.d (D.u64 v114.Hi), AV.d (D.u64 v114.Lo), AV.d (D.i v123), AV.d (D.i v1.Pref), AV.d (D.i v1.OTC), AV.d (D.l 2 Community.toD v1.Communities), AV.d (D.l 3 Large.toD v1.Large), AV.d (D.l 3 Unknown.toD v1.Other)]) :: nn 7 (some (OB.row 3 1 (List.map D.i v61) false) :: nn 17 (some (OB.box [AV.d (D.b false), AV.own 16 (List.map D.i v61).length]) :: nn 92 ([]))))⟩) ?_ ?_
    · intro k124 h
      conv => whnf
      revert h; refine sel_if ?_ ?_ <;> intro h
      · conv => whnf
        replace h := bind_inv h; obtain ⟨⟨v125, v126⟩, g127, h⟩ := h
        refine ⟨_, _, mill_Deck_Next_ok g127, .inl rfl, ?_⟩
        conv => whnf
        exact join_end (v := (v126, v125)) ⟨rfl, And.intro (.refl _) (And.intro (.refl _) (And.intro (.refl _) (And.intro (.refl _) True.intro))), And.intro ⟨_, rfl, And.intro ⟨rfl, .refl _⟩ (And.intro ⟨rfl, .refl _⟩ (True.intro))⟩ (And.intro ⟨_, rfl, And.intro ⟨rfl, .refl _⟩ (And.intro ⟨rfl, .refl _⟩ (And.intro ⟨rfl, .refl _⟩ (And.intro ⟨rfl, .refl _⟩ (And.intro ⟨rfl, .refl _⟩ (And.intro ⟨rfl, .refl _⟩ (And.intro ⟨rfl, .refl _⟩ (And.intro ⟨rfl, .refl _⟩ (And.intro ⟨rfl, .refl _⟩ (And.intro ⟨rfl, .refl _⟩ (And.intro ⟨rfl, .refl _⟩ (True.intro)))))))))))⟩ (And.intro ⟨_, rfl, And.intro ⟨rfl, .refl _⟩ (And.intro ⟨rfl, .refl _⟩ (And.intro ⟨rfl, .refl _⟩ (And.intro ⟨rfl, .refl _⟩ (And.intro ⟨rfl, .refl _⟩ (And.intro ⟨rfl, .refl _⟩ (And.intro ⟨rfl, .refl _⟩ (And.intro ⟨rfl, .refl _⟩ (And.intro ⟨rfl, .refl _⟩ (And.intro ⟨rfl, .refl _⟩ (And.intro ⟨rfl, .refl _⟩ (True.intro)))))))))))⟩ (And.intro (.inl ⟨_, rfl, id⟩) (And.intro ⟨_, rfl, And.intro ⟨rfl, .refl _⟩ (And.intro ⟨rfl, .refl _⟩ (True.intro))⟩ (True.intro))))), rfl⟩ h
      · conv => whnf
        exact join_end (v := (v117, v1.MED)) ⟨rfl, And.intro (.refl _) (And.intro (.refl _) (And.intro (.refl _) (And.intro (.refl _) True.intro))), And.intro ⟨_, rfl, And.intro ⟨rfl, .refl _⟩ (And.intro ⟨rfl, .refl _⟩ (True.intro))⟩ (And.intro ⟨_, rfl, And.intro ⟨rfl, .refl _⟩ (And.intro ⟨rfl, .refl _⟩ (And.intro ⟨rfl, .refl _⟩ (And.intro ⟨rfl, .refl _⟩ (And.intro ⟨rfl, .refl _⟩ (And.intro ⟨rfl, .refl _⟩ (And.intro ⟨rfl, .refl _⟩ (And.intro ⟨rfl, .refl _⟩ (And.intro ⟨rfl, .refl _⟩ (And.intro ⟨rfl, .refl _⟩ (And.intro ⟨rfl, .refl _⟩ (True.intro)))))))))))⟩ (And.intro ⟨_, rfl, And.intro ⟨rfl, .refl _⟩ (And.intro ⟨rfl, .refl _⟩ (And.intro ⟨rfl, .refl _⟩ (And.intro ⟨rfl, .refl _⟩ (And.intro ⟨rfl, .refl _⟩ (And.intro ⟨rfl, .refl _⟩ (And.intro ⟨rfl, .refl _⟩ (And.intro ⟨rfl, .refl _⟩ (And.intro ⟨rfl, .refl _⟩ (And.intro ⟨rfl, .refl _⟩ (And.intro ⟨rfl, .refl _⟩ (True.intro)))))))))))⟩ (And.intro (.inl ⟨_, rfl, id⟩) (And.intro ⟨_, rfl, And.intro ⟨rfl, .refl _⟩ (And.intro ⟨rfl, .refl _⟩ (True.intro))⟩ (True.intro))))), rfl⟩ h
    · rintro ⟨v122, v123⟩ h
      conv => whnf
      replace h := bind_inv h; obtain ⟨⟨v128, v129⟩, g130, h⟩ := h
      refine ⟨_, _, mill_Deck_Next_ok g130, .inl rfl, ?_⟩
      conv => whnf
      revert h; refine cut_join (fun (v134, v135) => ⟨AV.ref 0 0 :: X :: AV.d (D.b a2) :: X :: X :: X :: AV.ref 7 0 :: AV.ref 8 0 :: dd 118 ([]), some (OB.box [AV.d (D.l 1 D.i v134.L), AV.d (D.i v134.At)]) :: nn 6 (some (OB.box [AV.d (D.i 0), AV.d (D.nil 2), AV.d (D.b false), AV.d (D.u64 (0 : UInt64)), AV.d (D.u64 (0 : UInt64)), AV.d (D.i 0), AV.d (D.i 0), AV.d (D.i 0), AV.d (D.nil 2), AV.d (D.nil 3), AV.d (D.nil 3)]) :: some (OB.box [AV.d (D.i v3), AV.own 34 1, AV.d (D.b v114.V6), AV.d (D.u64 v114.Hi), AV.d (D.u64 v114.Lo), AV.d (D.i v123), AV.d (D.i v135), AV.d (D.i v1.OTC), AV.d (D.l 2 Community.toD v1.Communities), AV.d (D.l 3 Large.toD v1.Large), AV.d (D.l 3 Unknown.toD v1.Other)]) :: nn 7 (some (OB.row 3 1 (List.map D.i v61) false) :: nn 17 (some (OB.box [AV.d (D.b false), AV.own 16 (List.map D.i v61).length]) :: nn 92 ([]))))⟩) ?_ ?_
      · intro k136 h
        conv => whnf
        revert h; refine sel_if ?_ ?_ <;> intro h
        · conv => whnf
          replace h := bind_inv h; obtain ⟨⟨v137, v138⟩, g139, h⟩ := h
          refine ⟨_, _, mill_Deck_Next_ok g139, .inl rfl, ?_⟩
          conv => whnf
          exact join_end (v := (v138, v137)) ⟨rfl, And.intro (.refl _) (And.intro (.refl _) (And.intro (.refl _) (And.intro (.refl _) True.intro))), And.intro ⟨_, rfl, And.intro ⟨rfl, .refl _⟩ (And.intro ⟨rfl, .refl _⟩ (True.intro))⟩ (And.intro ⟨_, rfl, And.intro ⟨rfl, .refl _⟩ (And.intro ⟨rfl, .refl _⟩ (And.intro ⟨rfl, .refl _⟩ (And.intro ⟨rfl, .refl _⟩ (And.intro ⟨rfl, .refl _⟩ (And.intro ⟨rfl, .refl _⟩ (And.intro ⟨rfl, .refl _⟩ (And.intro ⟨rfl, .refl _⟩ (And.intro ⟨rfl, .refl _⟩ (And.intro ⟨rfl, .refl _⟩ (And.intro ⟨rfl, .refl _⟩ (True.intro)))))))))))⟩ (And.intro ⟨_, rfl, And.intro ⟨rfl, .refl _⟩ (And.intro ⟨rfl, .refl _⟩ (And.intro ⟨rfl, .refl _⟩ (And.intro ⟨rfl, .refl _⟩ (And.intro ⟨rfl, .refl _⟩ (And.intro ⟨rfl, .refl _⟩ (And.intro ⟨rfl, .refl _⟩ (And.intro ⟨rfl, .refl _⟩ (And.intro ⟨rfl, .refl _⟩ (And.intro ⟨rfl, .refl _⟩ (And.intro ⟨rfl, .refl _⟩ (True.intro)))))))))))⟩ (And.intro (.inl ⟨_, rfl, id⟩) (And.intro ⟨_, rfl, And.intro ⟨rfl, .refl _⟩ (And.intro ⟨rfl, .refl _⟩ (True.intro))⟩ (True.intro))))), rfl⟩ h
        · conv => whnf
          exact join_end (v := (v129, v1.Pref)) ⟨rfl, And.intro (.refl _) (And.intro (.refl _) (And.intro (.refl _) (And.intro (.refl _) True.intro))), And.intro ⟨_, rfl, And.intro ⟨rfl, .refl _⟩ (And.intro ⟨rfl, .refl _⟩ (True.intro))⟩ (And.intro ⟨_, rfl, And.intro ⟨rfl, .refl _⟩ (And.intro ⟨rfl, .refl _⟩ (And.intro ⟨rfl, .refl _⟩ (And.intro ⟨rfl, .refl _⟩ (And.intro ⟨rfl, .refl _⟩ (And.intro ⟨rfl, .refl _⟩ (And.intro ⟨rfl, .refl _⟩ (And.intro ⟨rfl, .refl _⟩ (And.intro ⟨rfl, .refl _⟩ (And.intro ⟨rfl, .refl _⟩ (And.intro ⟨rfl, .refl _⟩ (True.intro)))))))))))⟩ (And.intro ⟨_, rfl, And.intro ⟨rfl, .refl _⟩ (And.intro ⟨rfl, .refl _⟩ (And.intro ⟨rfl, .refl _⟩ (And.intro ⟨rfl, .refl _⟩ (And.intro ⟨rfl, .refl _⟩ (And.intro ⟨rfl, .refl _⟩ (And.intro ⟨rfl, .refl _⟩ (And.intro ⟨rfl, .refl _⟩ (And.intro ⟨rfl, .refl _⟩ (And.intro ⟨rfl, .refl _⟩ (And.intro ⟨rfl, .refl _⟩ (True.intro)))))))))))⟩ (And.intro (.inl ⟨_, rfl, id⟩) (And.intro ⟨_, rfl, And.intro ⟨rfl, .refl _⟩ (And.intro ⟨rfl, .refl _⟩ (True.intro))⟩ (True.intro))))), rfl⟩ h
      · rintro ⟨v134, v135⟩ h
        conv => whnf
        replace h := bind_inv h; obtain ⟨⟨v140, v141⟩, g142, h⟩ := h
        refine ⟨_, _, mill_Deck_Communities_ok g142, .inl rfl, ?_⟩
        conv => whnf
        replace h := bind_inv h; obtain ⟨⟨v143, v144⟩, g145, h⟩ := h
        refine ⟨_, _, mill_Deck_Large_ok g145, .inl rfl, ?_⟩
        conv => whnf
        replace h := bind_inv h; obtain ⟨⟨v146, v147⟩, g148, h⟩ := h
        refine ⟨_, _, mill_Deck_Next_ok g148, .inl rfl, ?_⟩
        conv => whnf
        refine .go ?_
        conv => whnf
        revert h; refine cut_join (fun (v3169, v3170, v3171, v3172, v3173, v3174, v3175) => ⟨dd 6 (AV.ref 7 0 :: AV.ref 8 0 :: dd 118 ([])), some (OB.box [AV.d (D.l 1 D.i v3169.L), AV.d (D.i v3169.At)]) :: nn 6 (some (OB.box [AV.d (D.i 0), AV.d (D.nil 2), AV.d (D.b false), AV.d (D.u64 (0 : UInt64)), AV.d (D.u64 (0 : UInt64)), AV.d (D.i 0), AV.d (D.i 0), AV.d (D.i 0), AV.d (D.nil 2), AV.d (D.nil 3), AV.d (D.nil 3)]) :: some (OB.box [AV.d (D.i v3), AV.d (D.l 2 Segment.toD v3170), AV.d (D.b v3171), AV.d (D.u64 v3172), AV.d (D.u64 v3173), AV.d (D.i v123), AV.d (D.i v135), AV.d (D.i v3174), AV.d (D.l 2 Community.toD v140), AV.d (D.l 3 Large.toD v143), AV.d (D.l 3 Unknown.toD v3175)]) :: nn 118 ([]))⟩) ?_ ?_
        · intro k3176 h
          conv => whnf
          revert h; refine sel_if ?_ ?_ <;> intro h
          · conv => whnf
            replace h := bind_inv h; obtain ⟨⟨v3177, v3178⟩, g3179, h⟩ := h
            refine ⟨_, _, mill_Deck_Next_ok g3179, .inl rfl, ?_⟩
            conv => whnf
            refine ⟨_, rfl, ?_⟩
            conv => whnf
            exact join_end (v := (v3178, [(⟨false, v61⟩ : Segment)], v114.V6, v114.Hi, v114.Lo, (i64w (1 + v3177)), v1.Other)) ⟨rfl, And.intro (.refl _) (And.intro (.refl _) True.intro), And.intro ⟨_, rfl, And.intro ⟨rfl, .refl _⟩ (And.intro ⟨rfl, .refl _⟩ (True.intro))⟩ (And.intro ⟨_, rfl, And.intro ⟨rfl, .refl _⟩ (And.intro ⟨rfl, .refl _⟩ (And.intro ⟨rfl, .refl _⟩ (And.intro ⟨rfl, .refl _⟩ (And.intro ⟨rfl, .refl _⟩ (And.intro ⟨rfl, .refl _⟩ (And.intro ⟨rfl, .refl _⟩ (And.intro ⟨rfl, .refl _⟩ (And.intro ⟨rfl, .refl _⟩ (And.intro ⟨rfl, .refl _⟩ (And.intro ⟨rfl, .refl _⟩ (True.intro)))))))))))⟩ (And.intro ⟨_, rfl, And.intro ⟨rfl, .refl _⟩ (And.intro ⟨rfl, .box 34 _ _ _ rfl rfl rfl (Nat.zero_lt_succ _) ⟨⟨rfl, .refl _⟩, ⟨rfl, .lst _ _ _ _ _ _ rfl rfl (.inl rfl)⟩, True.intro⟩⟩ (And.intro ⟨rfl, .refl _⟩ (And.intro ⟨rfl, .refl _⟩ (And.intro ⟨rfl, .refl _⟩ (And.intro ⟨rfl, .refl _⟩ (And.intro ⟨rfl, .refl _⟩ (And.intro ⟨rfl, .refl _⟩ (And.intro ⟨rfl, .refl _⟩ (And.intro ⟨rfl, .refl _⟩ (And.intro ⟨rfl, .refl _⟩ (True.intro)))))))))))⟩ (True.intro))), rfl⟩ h
          · conv => whnf
            revert h; refine cut_join (fun (v3677, v3678, v3679, v3680, v3681, v3682) => ⟨dd 6 (AV.ref 7 0 :: AV.ref 8 0 :: dd 118 ([])), some (OB.box [AV.d (D.l 1 D.i v3677.L), AV.d (D.i v3677.At)]) :: nn 6 (some (OB.box [AV.d (D.i 0), AV.d (D.nil 2), AV.d (D.b false), AV.d (D.u64 (0 : UInt64)), AV.d (D.u64 (0 : UInt64)), AV.d (D.i 0), AV.d (D.i 0), AV.d (D.i 0), AV.d (D.nil 2), AV.d (D.nil 3), AV.d (D.nil 3)]) :: some (OB.box [AV.d (D.i v3), AV.d (D.l 2 Segment.toD v3678), AV.d (D.b v3679), AV.d (D.u64 v3680), AV.d (D.u64 v3681), AV.d (D.i v123), AV.d (D.i v135), AV.d (D.i v1.OTC), AV.d (D.l 2 Community.toD v140), AV.d (D.l 3 Large.toD v143), AV.d (D.l 3 Unknown.toD v3682)]) :: nn 118 ([]))⟩) ?_ ?_
            · intro k3683 h
              conv => whnf
              revert h; refine sel_if ?_ ?_ <;> intro h
              · conv => whnf
                refine ⟨rfl, ?_⟩
                conv => whnf
                replace h := bind_inv h; obtain ⟨v3684, g3685, h⟩ := h
                refine ⟨rfl, geti_b (f := D.i) g3685, ?_⟩
                conv => whnf
                replace h := bind_inv h; obtain ⟨v3686, g3687, h⟩ := h
                have g3687l := seti_len g3687
                refine ⟨rfl, rfl, D.i v3684, (geti_d (f := D.i) g3685), ?_⟩
                conv => whnf
                refine ⟨_, seti_z (f := D.i) g3687, ?_⟩
                conv => whnf
                exact join_end (v := (v147, [(⟨false, v3686⟩ : Segment)], v114.V6, v114.Hi, v114.Lo, v1.Other)) ⟨rfl, And.intro (.refl _) (And.intro (.refl _) True.intro), And.intro ⟨_, rfl, And.intro ⟨rfl, .refl _⟩ (And.intro ⟨rfl, .refl _⟩ (True.intro))⟩ (And.intro ⟨_, rfl, And.intro ⟨rfl, .refl _⟩ (And.intro ⟨rfl, .refl _⟩ (And.intro ⟨rfl, .refl _⟩ (And.intro ⟨rfl, .refl _⟩ (And.intro ⟨rfl, .refl _⟩ (And.intro ⟨rfl, .refl _⟩ (And.intro ⟨rfl, .refl _⟩ (And.intro ⟨rfl, .refl _⟩ (And.intro ⟨rfl, .refl _⟩ (And.intro ⟨rfl, .refl _⟩ (And.intro ⟨rfl, .refl _⟩ (True.intro)))))))))))⟩ (And.intro ⟨_, rfl, And.intro ⟨rfl, .refl _⟩ (And.intro ⟨rfl, .box 34 _ _ _ rfl rfl rfl (Nat.zero_lt_succ _) ⟨⟨rfl, .refl _⟩, ⟨rfl, .lst _ _ _ _ _ _ rfl (by first | rfl | (simp only [List.length_map]; omega)) (.inl rfl)⟩, True.intro⟩⟩ (And.intro ⟨rfl, .refl _⟩ (And.intro ⟨rfl, .refl _⟩ (And.intro ⟨rfl, .refl _⟩ (And.intro ⟨rfl, .refl _⟩ (And.intro ⟨rfl, .refl _⟩ (And.intro ⟨rfl, .refl _⟩ (And.intro ⟨rfl, .refl _⟩ (And.intro ⟨rfl, .refl _⟩ (And.intro ⟨rfl, .refl _⟩ (True.intro)))))))))))⟩ (True.intro))), rfl⟩ h
              · conv => whnf
                revert h; refine cut_join (fun (v3931, v3932, v3933, v3934, v3935, v3936) => ⟨dd 6 (AV.ref 7 0 :: AV.ref 8 0 :: dd 118 ([])), some (OB.box [AV.d (D.l 1 D.i v3931.L), AV.d (D.i v3931.At)]) :: nn 6 (some (OB.box [AV.d (D.i 0), AV.d (D.nil 2), AV.d (D.b false), AV.d (D.u64 (0 : UInt64)), AV.d (D.u64 (0 : UInt64)), AV.d (D.i 0), AV.d (D.i 0), AV.d (D.i 0), AV.d (D.nil 2), AV.d (D.nil 3), AV.d (D.nil 3)]) :: some (OB.box [AV.d (D.i v3), AV.d (D.l 2 Segment.toD v3932), AV.d (D.b v3933), AV.d (D.u64 v3934), AV.d (D.u64 v3935), AV.d (D.i v123), AV.d (D.i v135), AV.d (D.i v1.OTC), AV.d (D.l 2 Community.toD v140), AV.d (D.l 3 Large.toD v143), AV.d (D.l 3 Unknown.toD v3936)]) :: nn 118 ([]))⟩) ?_ ?_
                · intro k3937 h
                  conv => whnf
                  revert h; refine sel_if ?_ ?_ <;> intro h
                  · conv => whnf
                    refine .inl ?_
                    conv => whnf
                    refine ⟨rfl, ?_⟩
                    conv => whnf
                    refine ⟨rfl, ?_⟩
                    conv => whnf
                    refine ⟨by simp, ?_⟩
                    conv => whnf
                    refine ⟨rfl, ?_⟩
                    conv => whnf
                    exact join_end (v := (v147, ((⟨false, v61⟩ : Segment) :: ([(⟨true, ([7, 9] : List Int)⟩ : Segment)] : List Segment)), v114.V6, v114.Hi, v114.Lo, v1.Other)) ⟨rfl, And.intro (.refl _) (And.intro (.refl _) True.intro), And.intro ⟨_, rfl, And.intro ⟨rfl, .refl _⟩ (And.intro ⟨rfl, .refl _⟩ (True.intro))⟩ (And.intro ⟨_, rfl, And.intro ⟨rfl, .refl _⟩ (And.intro ⟨rfl, .refl _⟩ (And.intro ⟨rfl, .refl _⟩ (And.intro ⟨rfl, .refl _⟩ (And.intro ⟨rfl, .refl _⟩ (And.intro ⟨rfl, .refl _⟩ (And.intro ⟨rfl, .refl _⟩ (And.intro ⟨rfl, .refl _⟩ (And.intro ⟨rfl, .refl _⟩ (And.intro ⟨rfl, .refl _⟩ (And.intro ⟨rfl, .refl _⟩ (True.intro)))))))))))⟩ (And.intro ⟨_, rfl, And.intro ⟨rfl, .refl _⟩ (And.intro ⟨rfl, .lst _ _ _ _ _ _ rfl rfl (.inl rfl)⟩ (And.intro ⟨rfl, .refl _⟩ (And.intro ⟨rfl, .refl _⟩ (And.intro ⟨rfl, .refl _⟩ (And.intro ⟨rfl, .refl _⟩ (And.intro ⟨rfl, .refl _⟩ (And.intro ⟨rfl, .refl _⟩ (And.intro ⟨rfl, .refl _⟩ (And.intro ⟨rfl, .refl _⟩ (And.intro ⟨rfl, .refl _⟩ (True.intro)))))))))))⟩ (True.intro))), rfl⟩ h
                  · conv => whnf
                    revert h; refine cut_join (fun (v4057, v4058, v4059, v4060, v4061, v4062) => ⟨dd 6 (AV.ref 7 0 :: AV.ref 8 0 :: dd 118 ([])), some (OB.box [AV.d (D.l 1 D.i v4057.L), AV.d (D.i v4057.At)]) :: nn 6 (some (OB.box [AV.d (D.i 0), AV.d (D.nil 2), AV.d (D.b false), AV.d (D.u64 (0 : UInt64)), AV.d (D.u64 (0 : UInt64)), AV.d (D.i 0), AV.d (D.i 0), AV.d (D.i 0), AV.d (D.nil 2), AV.d (D.nil 3), AV.d (D.nil 3)]) :: some (OB.box [AV.d (D.i v3), AV.d (D.l 2 Segment.toD v4058), AV.d (D.b v4059), AV.d (D.u64 v4060), AV.d (D.u64 v4061), AV.d (D.i v123), AV.d (D.i v135), AV.d (D.i v1.OTC), AV.d (D.l 2 Community.toD v140), AV.d (D.l 3 Large.toD v143), AV.d (D.l 3 Unknown.toD v4062)]) :: nn 118 ([]))⟩) ?_ ?_
                    · intro k4063 h
                      conv => whnf
                      revert h; refine sel_if ?_ ?_ <;> intro h
                      · conv => whnf
                        refine dOB (by kernel_rfl) ?_
                        conv => whnf
                        refine ⟨rfl, ?_⟩
                        conv => whnf
                        refine ⟨rfl, ?_⟩
                        conv => whnf
                        replace h := bind_inv h; obtain ⟨v4064, g4065, h⟩ := h
                        refine ⟨rfl, apnd_b (f := D.i) (g := D.i) g4065, _, apnd_z (f := D.i) g4065, ?_⟩
                        conv => whnf
                        refine ⟨rfl, ?_⟩
                        conv => whnf
                        refine cOB (by kernel_rfl) ?_
                        conv => whnf
                        exact join_end (v := (v147, [(⟨false, v4064⟩ : Segment)], v114.V6, v114.Hi, v114.Lo, v1.Other)) ⟨rfl, And.intro (.refl _) (And.intro (.refl _) True.intro), And.intro ⟨_, rfl, And.intro ⟨rfl, .refl _⟩ (And.intro ⟨rfl, .refl _⟩ (True.intro))⟩ (And.intro ⟨_, rfl, And.intro ⟨rfl, .refl _⟩ (And.intro ⟨rfl, .refl _⟩ (And.intro ⟨rfl, .refl _⟩ (And.intro ⟨rfl, .refl _⟩ (And.intro ⟨rfl, .refl _⟩ (And.intro ⟨rfl, .refl _⟩ (And.intro ⟨rfl, .refl _⟩ (And.intro ⟨rfl, .refl _⟩ (And.intro ⟨rfl, .refl _⟩ (And.intro ⟨rfl, .refl _⟩ (And.intro ⟨rfl, .refl _⟩ (True.intro)))))))))))⟩ (And.intro ⟨_, rfl, And.intro ⟨rfl, .refl _⟩ (And.intro ⟨rfl, .box 34 _ _ _ rfl rfl rfl (Nat.zero_lt_succ _) ⟨⟨rfl, .refl _⟩, ⟨rfl, .lst _ _ _ _ _ _ rfl rfl (.inl rfl)⟩, True.intro⟩⟩ (And.intro ⟨rfl, .refl _⟩ (And.intro ⟨rfl, .refl _⟩ (And.intro ⟨rfl, .refl _⟩ (And.intro ⟨rfl, .refl _⟩ (And.intro ⟨rfl, .refl _⟩ (And.intro ⟨rfl, .refl _⟩ (And.intro ⟨rfl, .refl _⟩ (And.intro ⟨rfl, .refl _⟩ (And.intro ⟨rfl, .refl _⟩ (True.intro)))))))))))⟩ (True.intro))), rfl⟩ h
                      · conv => whnf
                        revert h; refine cut_join (fun (v4120, v4121, v4122, v4123, v4124, v4125) => ⟨dd 6 (AV.ref 7 0 :: AV.ref 8 0 :: dd 118 ([])), some (OB.box [AV.d (D.l 1 D.i v4120.L), AV.d (D.i v4120.At)]) :: nn 6 (some (OB.box [AV.d (D.i 0), AV.d (D.nil 2), AV.d (D.b false), AV.d (D.u64 (0 : UInt64)), AV.d (D.u64 (0 : UInt64)), AV.d (D.i 0), AV.d (D.i 0), AV.d (D.i 0), AV.d (D.nil 2), AV.d (D.nil 3), AV.d (D.nil 3)]) :: some (OB.box [AV.d (D.i v3), AV.d (D.l 2 Segment.toD v4121), AV.d (D.b v4122), AV.d (D.u64 v4123), AV.d (D.u64 v4124), AV.d (D.i v123), AV.d (D.i v135), AV.d (D.i v1.OTC), AV.d (D.l 2 Community.toD v140), AV.d (D.l 3 Large.toD v143), AV.d (D.l 3 Unknown.toD v4125)]) :: nn 118 ([]))⟩) ?_ ?_
                        · intro k4126 h
                          conv => whnf
                          revert h; refine sel_if ?_ ?_ <;> intro h
                          · conv => whnf
                            replace h := bind_inv h; obtain ⟨v4127, g4128, h⟩ := h
                            refine ⟨_, _, mill_Port_ok g4128, .inl rfl, ?_⟩
                            conv => whnf
                            exact join_end (v := (v147, [(⟨false, v61⟩ : Segment)], v4127.V6, v4127.Hi, v4127.Lo, v1.Other)) ⟨rfl, And.intro (.refl _) (And.intro (.refl _) True.intro), And.intro ⟨_, rfl, And.intro ⟨rfl, .refl _⟩ (And.intro ⟨rfl, .refl _⟩ (True.intro))⟩ (And.intro ⟨_, rfl, And.intro ⟨rfl, .refl _⟩ (And.intro ⟨rfl, .refl _⟩ (And.intro ⟨rfl, .refl _⟩ (And.intro ⟨rfl, .refl _⟩ (And.intro ⟨rfl, .refl _⟩ (And.intro ⟨rfl, .refl _⟩ (And.intro ⟨rfl, .refl _⟩ (And.intro ⟨rfl, .refl _⟩ (And.intro ⟨rfl, .refl _⟩ (And.intro ⟨rfl, .refl _⟩ (And.intro ⟨rfl, .refl _⟩ (True.intro)))))))))))⟩ (And.intro ⟨_, rfl, And.intro ⟨rfl, .refl _⟩ (And.intro ⟨rfl, .box 34 _ _ _ rfl rfl rfl (Nat.zero_lt_succ _) ⟨⟨rfl, .refl _⟩, ⟨rfl, .lst _ _ _ _ _ _ rfl rfl (.inl rfl)⟩, True.intro⟩⟩ (And.intro ⟨rfl, .refl _⟩ (And.intro ⟨rfl, .refl _⟩ (And.intro ⟨rfl, .refl _⟩ (And.intro ⟨rfl, .refl _⟩ (And.intro ⟨rfl, .refl _⟩ (And.intro ⟨rfl, .refl _⟩ (And.intro ⟨rfl, .refl _⟩ (And.intro ⟨rfl, .refl _⟩ (And.intro ⟨rfl, .refl _⟩ (True.intro)))))))))))⟩ (True.intro))), rfl⟩ h
                          · conv => whnf
                            revert h; refine cut_join (fun (v4153, v4154, v4155) => ⟨dd 6 (AV.ref 7 0 :: AV.ref 8 0 :: dd 118 ([])), some (OB.box [AV.d (D.l 1 D.i v4153.L), AV.d (D.i v4153.At)]) :: nn 6 (some (OB.box [AV.d (D.i 0), AV.d (D.nil 2), AV.d (D.b false), AV.d (D.u64 (0 : UInt64)), AV.d (D.u64 (0 : UInt64)), AV.d (D.i 0), AV.d (D.i 0), AV.d (D.i 0), AV.d (D.nil 2), AV.d (D.nil 3), AV.d (D.nil 3)]) :: some (OB.box [AV.d (D.i v3), AV.d (D.l 2 Segment.toD v4154), AV.d (D.b v114.V6), AV.d (D.u64 v114.Hi), AV.d (D.u64 v114.Lo), AV.d (D.i v123), AV.d (D.i v135), AV.d (D.i v1.OTC), AV.d (D.l 2 Community.toD v140), AV.d (D.l 3 Large.toD v143), AV.d (D.l 3 Unknown.toD v4155)]) :: nn 118 ([]))⟩) ?_ ?_
                            · intro k4156 h
                              conv => whnf
                              revert h; refine sel_if ?_ ?_ <;> intro h
                              · conv => whnf
                                refine dOB (by kernel_rfl) ?_
                                conv => whnf
                                refine ⟨rfl, ?_⟩
                                conv => whnf
                                refine ⟨rfl, ?_⟩
                                conv => whnf
                                replace h := bind_inv h; obtain ⟨v4157, g4158, h⟩ := h
                                refine ⟨rfl, apnd_b (f := D.i) (g := D.i) g4158, _, apnd_z (f := D.i) g4158, ?_⟩
                                conv => whnf
                                refine ⟨rfl, ?_⟩
                                conv => whnf
                                refine cOB (by kernel_rfl) ?_
                                conv => whnf
                                exact join_end (v := (v147, [(⟨false, v4157⟩ : Segment)], v1.Other)) ⟨rfl, And.intro (.refl _) (And.intro (.refl _) True.intro), And.intro ⟨_, rfl, And.intro ⟨rfl, .refl _⟩ (And.intro ⟨rfl, .refl _⟩ (True.intro))⟩ (And.intro ⟨_, rfl, And.intro ⟨rfl, .refl _⟩ (And.intro ⟨rfl, .refl _⟩ (And.intro ⟨rfl, .refl _⟩ (And.intro ⟨rfl, .refl _⟩ (And.intro ⟨rfl, .refl _⟩ (And.intro ⟨rfl, .refl _⟩ (And.intro ⟨rfl, .refl _⟩ (And.intro ⟨rfl, .refl _⟩ (And.intro ⟨rfl, .refl _⟩ (And.intro ⟨rfl, .refl _⟩ (And.intro ⟨rfl, .refl _⟩ (True.intro)))))))))))⟩ (And.intro ⟨_, rfl, And.intro ⟨rfl, .refl _⟩ (And.intro ⟨rfl, .box 34 _ _ _ rfl rfl rfl (Nat.zero_lt_succ _) ⟨⟨rfl, .refl _⟩, ⟨rfl, .lst _ _ _ _ _ _ rfl rfl (.inl rfl)⟩, True.intro⟩⟩ (And.intro ⟨rfl, .refl _⟩ (And.intro ⟨rfl, .refl _⟩ (And.intro ⟨rfl, .refl _⟩ (And.intro ⟨rfl, .refl _⟩ (And.intro ⟨rfl, .refl _⟩ (And.intro ⟨rfl, .refl _⟩ (And.intro ⟨rfl, .refl _⟩ (And.intro ⟨rfl, .refl _⟩ (And.intro ⟨rfl, .refl _⟩ (True.intro)))))))))))⟩ (True.intro))), rfl⟩ h
                              · conv => whnf
                                revert h; refine cut_join (fun (v4168, v4169, v4170) => ⟨dd 6 (AV.ref 7 0 :: AV.ref 8 0 :: dd 118 ([])), some (OB.box [AV.d (D.l 1 D.i v4168.L), AV.d (D.i v4168.At)]) :: nn 6 (some (OB.box [AV.d (D.i 0), AV.d (D.nil 2), AV.d (D.b false), AV.d (D.u64 (0 : UInt64)), AV.d (D.u64 (0 : UInt64)), AV.d (D.i 0), AV.d (D.i 0), AV.d (D.i 0), AV.d (D.nil 2), AV.d (D.nil 3), AV.d (D.nil 3)]) :: some (OB.box [AV.d (D.i v3), AV.d (D.l 2 Segment.toD v4169), AV.d (D.b v114.V6), AV.d (D.u64 v114.Hi), AV.d (D.u64 v114.Lo), AV.d (D.i v123), AV.d (D.i v135), AV.d (D.i v1.OTC), AV.d (D.l 2 Community.toD v140), AV.d (D.l 3 Large.toD v143), AV.d (D.l 3 Unknown.toD v4170)]) :: nn 118 ([]))⟩) ?_ ?_
                                · intro k4171 h
                                  conv => whnf
                                  revert h; refine sel_if ?_ ?_ <;> intro h
                                  · conv => whnf
                                    exact join_end (v := (v147, [], v1.Other)) ⟨rfl, And.intro (.refl _) (And.intro (.refl _) True.intro), And.intro ⟨_, rfl, And.intro ⟨rfl, .refl _⟩ (And.intro ⟨rfl, .refl _⟩ (True.intro))⟩ (And.intro ⟨_, rfl, And.intro ⟨rfl, .refl _⟩ (And.intro ⟨rfl, .refl _⟩ (And.intro ⟨rfl, .refl _⟩ (And.intro ⟨rfl, .refl _⟩ (And.intro ⟨rfl, .refl _⟩ (And.intro ⟨rfl, .refl _⟩ (And.intro ⟨rfl, .refl _⟩ (And.intro ⟨rfl, .refl _⟩ (And.intro ⟨rfl, .refl _⟩ (And.intro ⟨rfl, .refl _⟩ (And.intro ⟨rfl, .refl _⟩ (True.intro)))))))))))⟩ (And.intro ⟨_, rfl, And.intro ⟨rfl, .refl _⟩ (And.intro ⟨rfl, .norm _⟩ (And.intro ⟨rfl, .refl _⟩ (And.intro ⟨rfl, .refl _⟩ (And.intro ⟨rfl, .refl _⟩ (And.intro ⟨rfl, .refl _⟩ (And.intro ⟨rfl, .refl _⟩ (And.intro ⟨rfl, .refl _⟩ (And.intro ⟨rfl, .refl _⟩ (And.intro ⟨rfl, .refl _⟩ (And.intro ⟨rfl, .refl _⟩ (True.intro)))))))))))⟩ (True.intro))), rfl⟩ h
                                  · conv => whnf
                                    revert h; refine cut_join (fun (v4175, v4176) => ⟨dd 6 (AV.ref 7 0 :: AV.ref 8 0 :: dd 118 ([])), some (OB.box [AV.d (D.l 1 D.i v4175.L), AV.d (D.i v4175.At)]) :: nn 6 (some (OB.box [AV.d (D.i 0), AV.d (D.nil 2), AV.d (D.b false), AV.d (D.u64 (0 : UInt64)), AV.d (D.u64 (0 : UInt64)), AV.d (D.i 0), AV.d (D.i 0), AV.d (D.i 0), AV.d (D.nil 2), AV.d (D.nil 3), AV.d (D.nil 3)]) :: some (OB.box [AV.d (D.i v3), AV.own 34 1, AV.d (D.b v114.V6), AV.d (D.u64 v114.Hi), AV.d (D.u64 v114.Lo), AV.d (D.i v123), AV.d (D.i v135), AV.d (D.i v1.OTC), AV.d (D.l 2 Community.toD v140), AV.d (D.l 3 Large.toD v143), AV.d (D.l 3 Unknown.toD v4176)]) :: nn 7 (some (OB.row 3 1 (List.map D.i v61) false) :: nn 17 (some (OB.box [AV.d (D.b false), AV.own 16 (List.map D.i v61).length]) :: nn 92 ([]))))⟩) ?_ ?_
                                    · intro k4177 h
                                      conv => whnf
                                      revert h; refine sel_if ?_ ?_ <;> intro h
                                      · conv => whnf
                                        replace h := bind_inv h; obtain ⟨⟨v4178, v4179⟩, g4180, h⟩ := h
                                        refine ⟨_, _, mill_Deck_Next_ok g4180, .inl rfl, ?_⟩
                                        conv => whnf
                                        refine ⟨_, u8_wrap _, ?_⟩
                                        conv => whnf
                                        refine .inr ?_
                                        conv => whnf
                                        exact join_end (v := (v4179, [(⟨224, 99, ([(1 : UInt8), (toU8 v4178)] : List UInt8)⟩ : Unknown)])) ⟨rfl, And.intro (.refl _) (And.intro (.refl _) True.intro), And.intro ⟨_, rfl, And.intro ⟨rfl, .refl _⟩ (And.intro ⟨rfl, .refl _⟩ (True.intro))⟩ (And.intro ⟨_, rfl, And.intro ⟨rfl, .refl _⟩ (And.intro ⟨rfl, .refl _⟩ (And.intro ⟨rfl, .refl _⟩ (And.intro ⟨rfl, .refl _⟩ (And.intro ⟨rfl, .refl _⟩ (And.intro ⟨rfl, .refl _⟩ (And.intro ⟨rfl, .refl _⟩ (And.intro ⟨rfl, .refl _⟩ (And.intro ⟨rfl, .refl _⟩ (And.intro ⟨rfl, .refl _⟩ (And.intro ⟨rfl, .refl _⟩ (True.intro)))))))))))⟩ (And.intro ⟨_, rfl, And.intro ⟨rfl, .refl _⟩ (And.intro ⟨rfl, .refl _⟩ (And.intro ⟨rfl, .refl _⟩ (And.intro ⟨rfl, .refl _⟩ (And.intro ⟨rfl, .refl _⟩ (And.intro ⟨rfl, .refl _⟩ (And.intro ⟨rfl, .refl _⟩ (And.intro ⟨rfl, .refl _⟩ (And.intro ⟨rfl, .refl _⟩ (And.intro ⟨rfl, .refl _⟩ (And.intro ⟨rfl, .box 124 _ _ _ rfl rfl rfl (Nat.zero_lt_succ _) ⟨⟨rfl, .refl _⟩, ⟨rfl, .refl _⟩, ⟨rfl, .lst _ _ _ _ _ _ rfl rfl (.inl rfl)⟩, True.intro⟩⟩ (True.intro)))))))))))⟩ (And.intro (.inl ⟨_, rfl, id⟩) (And.intro ⟨_, rfl, And.intro ⟨rfl, .refl _⟩ (And.intro ⟨rfl, .refl _⟩ (True.intro))⟩ (True.intro))))), rfl⟩ h
                                      · conv => whnf
                                        exact join_end (v := (v147, v1.Other)) ⟨rfl, And.intro (.refl _) (And.intro (.refl _) True.intro), And.intro ⟨_, rfl, And.intro ⟨rfl, .refl _⟩ (And.intro ⟨rfl, .refl _⟩ (True.intro))⟩ (And.intro ⟨_, rfl, And.intro ⟨rfl, .refl _⟩ (And.intro ⟨rfl, .refl _⟩ (And.intro ⟨rfl, .refl _⟩ (And.intro ⟨rfl, .refl _⟩ (And.intro ⟨rfl, .refl _⟩ (And.intro ⟨rfl, .refl _⟩ (And.intro ⟨rfl, .refl _⟩ (And.intro ⟨rfl, .refl _⟩ (And.intro ⟨rfl, .refl _⟩ (And.intro ⟨rfl, .refl _⟩ (And.intro ⟨rfl, .refl _⟩ (True.intro)))))))))))⟩ (And.intro ⟨_, rfl, And.intro ⟨rfl, .refl _⟩ (And.intro ⟨rfl, .refl _⟩ (And.intro ⟨rfl, .refl _⟩ (And.intro ⟨rfl, .refl _⟩ (And.intro ⟨rfl, .refl _⟩ (And.intro ⟨rfl, .refl _⟩ (And.intro ⟨rfl, .refl _⟩ (And.intro ⟨rfl, .refl _⟩ (And.intro ⟨rfl, .refl _⟩ (And.intro ⟨rfl, .refl _⟩ (And.intro ⟨rfl, .refl _⟩ (True.intro)))))))))))⟩ (And.intro (.inl ⟨_, rfl, id⟩) (And.intro ⟨_, rfl, And.intro ⟨rfl, .refl _⟩ (And.intro ⟨rfl, .refl _⟩ (True.intro))⟩ (True.intro))))), rfl⟩ h
                                    · rintro ⟨v4175, v4176⟩ h
                                      conv => whnf
                                      exact join_end (v := (v4175, [(⟨false, v61⟩ : Segment)], v4176)) ⟨rfl, And.intro (.refl _) (And.intro (.refl _) True.intro), And.intro ⟨_, rfl, And.intro ⟨rfl, .refl _⟩ (And.intro ⟨rfl, .refl _⟩ (True.intro))⟩ (And.intro ⟨_, rfl, And.intro ⟨rfl, .refl _⟩ (And.intro ⟨rfl, .refl _⟩ (And.intro ⟨rfl, .refl _⟩ (And.intro ⟨rfl, .refl _⟩ (And.intro ⟨rfl, .refl _⟩ (And.intro ⟨rfl, .refl _⟩ (And.intro ⟨rfl, .refl _⟩ (And.intro ⟨rfl, .refl _⟩ (And.intro ⟨rfl, .refl _⟩ (And.intro ⟨rfl, .refl _⟩ (And.intro ⟨rfl, .refl _⟩ (True.intro)))))))))))⟩ (And.intro ⟨_, rfl, And.intro ⟨rfl, .refl _⟩ (And.intro ⟨rfl, .box 34 _ _ _ rfl rfl rfl (Nat.zero_lt_succ _) ⟨⟨rfl, .refl _⟩, ⟨rfl, .lst _ _ _ _ _ _ rfl rfl (.inl rfl)⟩, True.intro⟩⟩ (And.intro ⟨rfl, .refl _⟩ (And.intro ⟨rfl, .refl _⟩ (And.intro ⟨rfl, .refl _⟩ (And.intro ⟨rfl, .refl _⟩ (And.intro ⟨rfl, .refl _⟩ (And.intro ⟨rfl, .refl _⟩ (And.intro ⟨rfl, .refl _⟩ (And.intro ⟨rfl, .refl _⟩ (And.intro ⟨rfl, .refl _⟩ (True.intro)))))))))))⟩ (True.intro))), rfl⟩ h
                                · rintro ⟨v4168, v4169, v4170⟩ h
                                  conv => whnf
                                  exact join_end (v := (v4168, v4169, v4170)) ⟨rfl, And.intro (.refl _) (And.intro (.refl _) True.intro), And.intro ⟨_, rfl, And.intro ⟨rfl, .refl _⟩ (And.intro ⟨rfl, .refl _⟩ (True.intro))⟩ (And.intro ⟨_, rfl, And.intro ⟨rfl, .refl _⟩ (And.intro ⟨rfl, .refl _⟩ (And.intro ⟨rfl, .refl _⟩ (And.intro ⟨rfl, .refl _⟩ (And.intro ⟨rfl, .refl _⟩ (And.intro ⟨rfl, .refl _⟩ (And.intro ⟨rfl, .refl _⟩ (And.intro ⟨rfl, .refl _⟩ (And.intro ⟨rfl, .refl _⟩ (And.intro ⟨rfl, .refl _⟩ (And.intro ⟨rfl, .refl _⟩ (True.intro)))))))))))⟩ (And.intro ⟨_, rfl, And.intro ⟨rfl, .refl _⟩ (And.intro ⟨rfl, .refl _⟩ (And.intro ⟨rfl, .refl _⟩ (And.intro ⟨rfl, .refl _⟩ (And.intro ⟨rfl, .refl _⟩ (And.intro ⟨rfl, .refl _⟩ (And.intro ⟨rfl, .refl _⟩ (And.intro ⟨rfl, .refl _⟩ (And.intro ⟨rfl, .refl _⟩ (And.intro ⟨rfl, .refl _⟩ (And.intro ⟨rfl, .refl _⟩ (True.intro)))))))))))⟩ (True.intro))), rfl⟩ h
                            · rintro ⟨v4153, v4154, v4155⟩ h
                              conv => whnf
                              exact join_end (v := (v4153, v4154, v114.V6, v114.Hi, v114.Lo, v4155)) ⟨rfl, And.intro (.refl _) (And.intro (.refl _) True.intro), And.intro ⟨_, rfl, And.intro ⟨rfl, .refl _⟩ (And.intro ⟨rfl, .refl _⟩ (True.intro))⟩ (And.intro ⟨_, rfl, And.intro ⟨rfl, .refl _⟩ (And.intro ⟨rfl, .refl _⟩ (And.intro ⟨rfl, .refl _⟩ (And.intro ⟨rfl, .refl _⟩ (And.intro ⟨rfl, .refl _⟩ (And.intro ⟨rfl, .refl _⟩ (And.intro ⟨rfl, .refl _⟩ (And.intro ⟨rfl, .refl _⟩ (And.intro ⟨rfl, .refl _⟩ (And.intro ⟨rfl, .refl _⟩ (And.intro ⟨rfl, .refl _⟩ (True.intro)))))))))))⟩ (And.intro ⟨_, rfl, And.intro ⟨rfl, .refl _⟩ (And.intro ⟨rfl, .refl _⟩ (And.intro ⟨rfl, .refl _⟩ (And.intro ⟨rfl, .refl _⟩ (And.intro ⟨rfl, .refl _⟩ (And.intro ⟨rfl, .refl _⟩ (And.intro ⟨rfl, .refl _⟩ (And.intro ⟨rfl, .refl _⟩ (And.intro ⟨rfl, .refl _⟩ (And.intro ⟨rfl, .refl _⟩ (And.intro ⟨rfl, .refl _⟩ (True.intro)))))))))))⟩ (True.intro))), rfl⟩ h
                        · rintro ⟨v4120, v4121, v4122, v4123, v4124, v4125⟩ h
                          conv => whnf
                          exact join_end (v := (v4120, v4121, v4122, v4123, v4124, v4125)) ⟨rfl, And.intro (.refl _) (And.intro (.refl _) True.intro), And.intro ⟨_, rfl, And.intro ⟨rfl, .refl _⟩ (And.intro ⟨rfl, .refl _⟩ (True.intro))⟩ (And.intro ⟨_, rfl, And.intro ⟨rfl, .refl _⟩ (And.intro ⟨rfl, .refl _⟩ (And.intro ⟨rfl, .refl _⟩ (And.intro ⟨rfl, .refl _⟩ (And.intro ⟨rfl, .refl _⟩ (And.intro ⟨rfl, .refl _⟩ (And.intro ⟨rfl, .refl _⟩ (And.intro ⟨rfl, .refl _⟩ (And.intro ⟨rfl, .refl _⟩ (And.intro ⟨rfl, .refl _⟩ (And.intro ⟨rfl, .refl _⟩ (True.intro)))))))))))⟩ (And.intro ⟨_, rfl, And.intro ⟨rfl, .refl _⟩ (And.intro ⟨rfl, .refl _⟩ (And.intro ⟨rfl, .refl _⟩ (And.intro ⟨rfl, .refl _⟩ (And.intro ⟨rfl, .refl _⟩ (And.intro ⟨rfl, .refl _⟩ (And.intro ⟨rfl, .refl _⟩ (And.intro ⟨rfl, .refl _⟩ (And.intro ⟨rfl, .refl _⟩ (And.intro ⟨rfl, .refl _⟩ (And.intro ⟨rfl, .refl _⟩ (True.intro)))))))))))⟩ (True.intro))), rfl⟩ h
                    · rintro ⟨v4057, v4058, v4059, v4060, v4061, v4062⟩ h
                      conv => whnf
                      exact join_end (v := (v4057, v4058, v4059, v4060, v4061, v4062)) ⟨rfl, And.intro (.refl _) (And.intro (.refl _) True.intro), And.intro ⟨_, rfl, And.intro ⟨rfl, .refl _⟩ (And.intro ⟨rfl, .refl _⟩ (True.intro))⟩ (And.intro ⟨_, rfl, And.intro ⟨rfl, .refl _⟩ (And.intro ⟨rfl, .refl _⟩ (And.intro ⟨rfl, .refl _⟩ (And.intro ⟨rfl, .refl _⟩ (And.intro ⟨rfl, .refl _⟩ (And.intro ⟨rfl, .refl _⟩ (And.intro ⟨rfl, .refl _⟩ (And.intro ⟨rfl, .refl _⟩ (And.intro ⟨rfl, .refl _⟩ (And.intro ⟨rfl, .refl _⟩ (And.intro ⟨rfl, .refl _⟩ (True.intro)))))))))))⟩ (And.intro ⟨_, rfl, And.intro ⟨rfl, .refl _⟩ (And.intro ⟨rfl, .refl _⟩ (And.intro ⟨rfl, .refl _⟩ (And.intro ⟨rfl, .refl _⟩ (And.intro ⟨rfl, .refl _⟩ (And.intro ⟨rfl, .refl _⟩ (And.intro ⟨rfl, .refl _⟩ (And.intro ⟨rfl, .refl _⟩ (And.intro ⟨rfl, .refl _⟩ (And.intro ⟨rfl, .refl _⟩ (And.intro ⟨rfl, .refl _⟩ (True.intro)))))))))))⟩ (True.intro))), rfl⟩ h
                · rintro ⟨v3931, v3932, v3933, v3934, v3935, v3936⟩ h
                  conv => whnf
                  exact join_end (v := (v3931, v3932, v3933, v3934, v3935, v3936)) ⟨rfl, And.intro (.refl _) (And.intro (.refl _) True.intro), And.intro ⟨_, rfl, And.intro ⟨rfl, .refl _⟩ (And.intro ⟨rfl, .refl _⟩ (True.intro))⟩ (And.intro ⟨_, rfl, And.intro ⟨rfl, .refl _⟩ (And.intro ⟨rfl, .refl _⟩ (And.intro ⟨rfl, .refl _⟩ (And.intro ⟨rfl, .refl _⟩ (And.intro ⟨rfl, .refl _⟩ (And.intro ⟨rfl, .refl _⟩ (And.intro ⟨rfl, .refl _⟩ (And.intro ⟨rfl, .refl _⟩ (And.intro ⟨rfl, .refl _⟩ (And.intro ⟨rfl, .refl _⟩ (And.intro ⟨rfl, .refl _⟩ (True.intro)))))))))))⟩ (And.intro ⟨_, rfl, And.intro ⟨rfl, .refl _⟩ (And.intro ⟨rfl, .refl _⟩ (And.intro ⟨rfl, .refl _⟩ (And.intro ⟨rfl, .refl _⟩ (And.intro ⟨rfl, .refl _⟩ (And.intro ⟨rfl, .refl _⟩ (And.intro ⟨rfl, .refl _⟩ (And.intro ⟨rfl, .refl _⟩ (And.intro ⟨rfl, .refl _⟩ (And.intro ⟨rfl, .refl _⟩ (And.intro ⟨rfl, .refl _⟩ (True.intro)))))))))))⟩ (True.intro))), rfl⟩ h
            · rintro ⟨v3677, v3678, v3679, v3680, v3681, v3682⟩ h
              conv => whnf
              exact join_end (v := (v3677, v3678, v3679, v3680, v3681, v1.OTC, v3682)) ⟨rfl, And.intro (.refl _) (And.intro (.refl _) True.intro), And.intro ⟨_, rfl, And.intro ⟨rfl, .refl _⟩ (And.intro ⟨rfl, .refl _⟩ (True.intro))⟩ (And.intro ⟨_, rfl, And.intro ⟨rfl, .refl _⟩ (And.intro ⟨rfl, .refl _⟩ (And.intro ⟨rfl, .refl _⟩ (And.intro ⟨rfl, .refl _⟩ (And.intro ⟨rfl, .refl _⟩ (And.intro ⟨rfl, .refl _⟩ (And.intro ⟨rfl, .refl _⟩ (And.intro ⟨rfl, .refl _⟩ (And.intro ⟨rfl, .refl _⟩ (And.intro ⟨rfl, .refl _⟩ (And.intro ⟨rfl, .refl _⟩ (True.intro)))))))))))⟩ (And.intro ⟨_, rfl, And.intro ⟨rfl, .refl _⟩ (And.intro ⟨rfl, .refl _⟩ (And.intro ⟨rfl, .refl _⟩ (And.intro ⟨rfl, .refl _⟩ (And.intro ⟨rfl, .refl _⟩ (And.intro ⟨rfl, .refl _⟩ (And.intro ⟨rfl, .refl _⟩ (And.intro ⟨rfl, .refl _⟩ (And.intro ⟨rfl, .refl _⟩ (And.intro ⟨rfl, .refl _⟩ (And.intro ⟨rfl, .refl _⟩ (True.intro)))))))))))⟩ (True.intro))), rfl⟩ h
        · rintro ⟨v3169, v3170, v3171, v3172, v3173, v3174, v3175⟩ h
          conv => whnf
          cases h
          exact ⟨rfl, rfl⟩
end Go.AX.Q23
