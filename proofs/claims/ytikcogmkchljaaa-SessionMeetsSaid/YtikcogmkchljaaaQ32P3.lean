/-
  The functions do what their plain forms say (proofs written by a program of mine), part 3.
-/
import Derived.Test.YtikcogmkchljaaaQ32P2
namespace Go.AX.Q32
open Go Go.AX Go.Proofs
set_option maxRecDepth 100000
set_option maxHeartbeats 4000000
set_option linter.unusedVariables false
theorem session_Decode_ok {a0 : List UInt8} {r : Open × Int} (h : session_Decode a0 = some r) : CallsOK Try.prog 22 [AV.d (D.l 1 D.u8 a0)] [] (.tup [.d (Open.toD r.1), .d (D.i r.2)]) [] := by
  refine ok Try.f22 (by kernel_rfl) (by kernel_rfl) ⟨rfl, ?_⟩
  unfold session_Decode at h
  conv => whnf
  refine .go ?_
  conv => whnf
  refine ⟨a0.length, List.length_map _, ?_⟩
  conv => whnf
  refine .go ?_
  conv => whnf
  revert h; refine sel_if ?_ ?_ <;> intro h
  · conv => whnf
    cases h
    exact ⟨rfl, rfl⟩
  · conv => whnf
    replace h := bind_inv h; obtain ⟨v19, g20, h⟩ := h
    refine ⟨geti_b (f := D.u8) g20, D.u8 v19, geti_d (f := D.u8) g20, rfl, ?_⟩
    conv => whnf
    refine .go ?_
    conv => whnf
    revert h; refine sel_if ?_ ?_ <;> intro h
    · conv => whnf
      cases h
      exact ⟨rfl, rfl⟩
    · conv => whnf
      replace h := bind_inv h; obtain ⟨v23, g24, h⟩ := h
      refine ⟨geti_b (f := D.u8) g24, D.u8 v23, geti_d (f := D.u8) g24, rfl, ?_⟩
      conv => whnf
      refine ⟨_, i64_of_u8 v23, ?_⟩
      conv => whnf
      refine ⟨a0.length, List.length_map _, ?_⟩
      conv => whnf
      refine ⟨_, rfl, ?_⟩
      conv => whnf
      refine .go ?_
      conv => whnf
      revert h; refine sel_if ?_ ?_ <;> intro h
      · conv => whnf
        cases h
        exact ⟨rfl, rfl⟩
      · conv => whnf
        replace h := bind_inv h; obtain ⟨v25, g26, h⟩ := h
        refine ⟨part_b (f := D.u8) g26, _, part_z (f := D.u8) g26, ?_⟩
        conv => whnf
        replace h := bind_inv h; obtain ⟨⟨v27, v28⟩, g29, h⟩ := h
        refine ⟨_, _, session_reader_number_ok g29, .inl rfl, ?_⟩
        conv => whnf
        replace h := bind_inv h; obtain ⟨⟨v30, v31⟩, g32, h⟩ := h
        refine ⟨_, _, session_reader_number_ok g32, .inl rfl, ?_⟩
        conv => whnf
        replace h := bind_inv h; obtain ⟨⟨v33, v34⟩, g35, h⟩ := h
        refine ⟨_, _, session_reader_number_ok g35, .inl rfl, ?_⟩
        conv => whnf
        replace h := bind_inv h; obtain ⟨v36, g37, h⟩ := h
        refine ⟨part_b0 (f := D.u8) g37, _, part_z0 (f := D.u8) g37, ?_⟩
        conv => whnf
        revert h; refine cut_join (fun (v138, v139) => ⟨X :: X :: AV.ref 2 0 :: X :: X :: AV.ref 5 0 :: AV.ref 54 0 :: AV.mp 55 :: dd 128 ([]), N :: N :: some (OB.box [AV.d (D.i 0), AV.d (D.i 0), AV.d (D.i 0), AV.d (D.i 0), AV.d (D.i 0), AV.d (D.b false)]) :: N :: N :: some (OB.box [AV.d (D.i v27), AV.d (D.i v33), AV.d (D.i v30), AV.d (D.i (-1)), AV.d (D.i 0), AV.d (D.b false)]) :: nn 48 (some (OB.box [AV.d (D.l 1 D.u8 v138.b), AV.d (D.b v138.bad)]) :: some (OB.map 3 3 (entsD D.i D.i v139)) :: nn 80 ([]))⟩) ?_ ?_
        · intro k140 h
          conv => whnf
          revert h; refine loop_while (fun (v205, v206) => ⟨X :: X :: AV.ref 2 0 :: X :: X :: AV.ref 5 0 :: AV.ref 54 0 :: AV.mp 55 :: dd 128 ([]), N :: N :: some (OB.box [AV.d (D.i 0), AV.d (D.i 0), AV.d (D.i 0), AV.d (D.i 0), AV.d (D.i 0), AV.d (D.b false)]) :: N :: N :: some (OB.box [AV.d (D.i v27), AV.d (D.i v33), AV.d (D.i v30), AV.d (D.i (-1)), AV.d (D.i 0), AV.d (D.b false)]) :: nn 48 (some (OB.box [AV.d (D.l 1 D.u8 v205.b), AV.d (D.b v205.bad)]) :: some (OB.map 3 3 (entsD D.i D.i v206)) :: nn 80 ([]))⟩) ⟨rfl, And.intro (.refl _) (And.intro (.refl _) (And.intro (.refl _) (And.intro (.refl _) True.intro))), And.intro ⟨_, rfl, And.intro ⟨rfl, .refl _⟩ (And.intro ⟨rfl, .refl _⟩ (And.intro ⟨rfl, .refl _⟩ (And.intro ⟨rfl, .refl _⟩ (And.intro ⟨rfl, .refl _⟩ (And.intro ⟨rfl, .refl _⟩ (True.intro))))))⟩ (And.intro ⟨_, rfl, And.intro ⟨rfl, .refl _⟩ (And.intro ⟨rfl, .refl _⟩ (And.intro ⟨rfl, .refl _⟩ (And.intro ⟨rfl, .refl _⟩ (And.intro ⟨rfl, .refl _⟩ (And.intro ⟨rfl, .refl _⟩ (True.intro))))))⟩ (And.intro ⟨_, rfl, And.intro ⟨rfl, .refl _⟩ (And.intro ⟨rfl, .refl _⟩ (True.intro))⟩ (And.intro rfl (True.intro)))), rfl⟩ ?_
          rintro next209 ⟨v205, v206⟩ K207 h hK208
          conv => whnf
          replace h := bind_inv h; obtain ⟨⟨v210, v211⟩, g212, h⟩ := h
          refine ⟨_, _, session_reader_more_ok g212, .inl rfl, ?_⟩
          conv => whnf
          refine .go ?_
          conv => whnf
          revert h; refine sel_if ?_ ?_ <;> intro h
          · conv => whnf
            refine .go ?_
            conv => whnf
            replace h := bind_inv h; obtain ⟨⟨v227, v228⟩, g229, h⟩ := h
            refine ⟨_, _, session_reader_number_ok g229, .inl rfl, ?_⟩
            conv => whnf
            replace h := bind_inv h; obtain ⟨⟨v230, v231⟩, g232, h⟩ := h
            refine ⟨_, _, session_reader_number_ok g232, .inl rfl, ?_⟩
            conv => whnf
            replace h := bind_inv h; obtain ⟨⟨v233, v234⟩, g235, h⟩ := h
            refine ⟨_, _, session_reader_part_ok g235, .inl rfl, ?_⟩
            conv => whnf
            revert h; refine cut_join (fun v236 => ⟨X :: X :: AV.ref 2 0 :: X :: X :: AV.ref 5 0 :: AV.ref 54 0 :: AV.mp 55 :: X :: AV.ref 65 0 :: dd 63 (AV.d (D.b v236) :: dd 62 ([])), N :: N :: some (OB.box [AV.d (D.i 0), AV.d (D.i 0), AV.d (D.i 0), AV.d (D.i 0), AV.d (D.i 0), AV.d (D.b false)]) :: N :: N :: some (OB.box [AV.d (D.i v27), AV.d (D.i v33), AV.d (D.i v30), AV.d (D.i (-1)), AV.d (D.i 0), AV.d (D.b false)]) :: nn 48 (some (OB.box [AV.d (D.l 1 D.u8 v234.b), AV.d (D.b v234.bad)]) :: some (OB.map 3 3 (entsD D.i D.i v206)) :: nn 9 (some (OB.box [AV.d (D.l 1 D.u8 v233), AV.d (D.b false)]) :: nn 70 ([])))⟩) ?_ ?_
            · intro k237 h
              conv => whnf
              revert h; refine sel_if ?_ ?_ <;> intro h
              · conv => whnf
                exact join_end (v := true) ⟨rfl, And.intro (.refl _) (And.intro (.refl _) (And.intro (.refl _) (And.intro (.refl _) (And.intro (.refl _) (And.intro (.refl _) True.intro))))), And.intro ⟨_, rfl, And.intro ⟨rfl, .refl _⟩ (And.intro ⟨rfl, .refl _⟩ (And.intro ⟨rfl, .refl _⟩ (And.intro ⟨rfl, .refl _⟩ (And.intro ⟨rfl, .refl _⟩ (And.intro ⟨rfl, .refl _⟩ (True.intro))))))⟩ (And.intro ⟨_, rfl, And.intro ⟨rfl, .refl _⟩ (And.intro ⟨rfl, .refl _⟩ (And.intro ⟨rfl, .refl _⟩ (And.intro ⟨rfl, .refl _⟩ (And.intro ⟨rfl, .refl _⟩ (And.intro ⟨rfl, .refl _⟩ (True.intro))))))⟩ (And.intro ⟨_, rfl, And.intro ⟨rfl, .refl _⟩ (And.intro ⟨rfl, .refl _⟩ (True.intro))⟩ (And.intro rfl (And.intro ⟨_, rfl, And.intro ⟨rfl, .refl _⟩ (And.intro ⟨rfl, .refl _⟩ (True.intro))⟩ (True.intro))))), rfl⟩ h
              · conv => whnf
                exact join_end (v := (v227 != 2)) ⟨rfl, And.intro (.refl _) (And.intro (.refl _) (And.intro (.refl _) (And.intro (.refl _) (And.intro (.refl _) (And.intro (.refl _) True.intro))))), And.intro ⟨_, rfl, And.intro ⟨rfl, .refl _⟩ (And.intro ⟨rfl, .refl _⟩ (And.intro ⟨rfl, .refl _⟩ (And.intro ⟨rfl, .refl _⟩ (And.intro ⟨rfl, .refl _⟩ (And.intro ⟨rfl, .refl _⟩ (True.intro))))))⟩ (And.intro ⟨_, rfl, And.intro ⟨rfl, .refl _⟩ (And.intro ⟨rfl, .refl _⟩ (And.intro ⟨rfl, .refl _⟩ (And.intro ⟨rfl, .refl _⟩ (And.intro ⟨rfl, .refl _⟩ (And.intro ⟨rfl, .refl _⟩ (True.intro))))))⟩ (And.intro ⟨_, rfl, And.intro ⟨rfl, .refl _⟩ (And.intro ⟨rfl, .refl _⟩ (True.intro))⟩ (And.intro rfl (And.intro ⟨_, rfl, And.intro ⟨rfl, .refl _⟩ (And.intro ⟨rfl, .refl _⟩ (True.intro))⟩ (True.intro))))), rfl⟩ h
            · rintro v236 h
              conv => whnf
              refine .go ?_
              conv => whnf
              revert h; refine sel_if ?_ ?_ <;> intro h
              · conv => whnf
                cases h
                exact ⟨rfl, rfl⟩
              · conv => whnf
                replace h := bind_inv h; obtain ⟨⟨v238, v239⟩, g240, h⟩ := h
                refine ⟨_, _, session_reader_capabilities_ok g240, .inl rfl, ?_⟩
                conv => whnf
                refine .go ?_
                conv => whnf
                revert h; refine sel_if ?_ ?_ <;> intro h
                · conv => whnf
                  cases h
                  exact ⟨rfl, rfl⟩
                · conv => whnf
                  exact hK208 _ (v234, v239) ⟨rfl, And.intro (.refl _) (And.intro (.refl _) (And.intro (.refl _) (And.intro (.refl _) True.intro))), And.intro ⟨_, rfl, And.intro ⟨rfl, .refl _⟩ (And.intro ⟨rfl, .refl _⟩ (And.intro ⟨rfl, .refl _⟩ (And.intro ⟨rfl, .refl _⟩ (And.intro ⟨rfl, .refl _⟩ (And.intro ⟨rfl, .refl _⟩ (True.intro))))))⟩ (And.intro ⟨_, rfl, And.intro ⟨rfl, .refl _⟩ (And.intro ⟨rfl, .refl _⟩ (And.intro ⟨rfl, .refl _⟩ (And.intro ⟨rfl, .refl _⟩ (And.intro ⟨rfl, .refl _⟩ (And.intro ⟨rfl, .refl _⟩ (True.intro))))))⟩ (And.intro ⟨_, rfl, And.intro ⟨rfl, .refl _⟩ (And.intro ⟨rfl, .refl _⟩ (True.intro))⟩ (And.intro rfl (True.intro)))), rfl⟩ h
          · conv => whnf
            exact join_end (v := (v211, v206)) ⟨rfl, And.intro (.refl _) (And.intro (.refl _) (And.intro (.refl _) (And.intro (.refl _) True.intro))), And.intro ⟨_, rfl, And.intro ⟨rfl, .refl _⟩ (And.intro ⟨rfl, .refl _⟩ (And.intro ⟨rfl, .refl _⟩ (And.intro ⟨rfl, .refl _⟩ (And.intro ⟨rfl, .refl _⟩ (And.intro ⟨rfl, .refl _⟩ (True.intro))))))⟩ (And.intro ⟨_, rfl, And.intro ⟨rfl, .refl _⟩ (And.intro ⟨rfl, .refl _⟩ (And.intro ⟨rfl, .refl _⟩ (And.intro ⟨rfl, .refl _⟩ (And.intro ⟨rfl, .refl _⟩ (And.intro ⟨rfl, .refl _⟩ (True.intro))))))⟩ (And.intro ⟨_, rfl, And.intro ⟨rfl, .refl _⟩ (And.intro ⟨rfl, .refl _⟩ (True.intro))⟩ (And.intro rfl (True.intro)))), rfl⟩ h
        · rintro ⟨v138, v139⟩ h
          conv => whnf
          refine .go ?_
          conv => whnf
          revert h; refine sel_if ?_ ?_ <;> intro h
          · conv => whnf
            cases h
            exact ⟨rfl, rfl⟩
          · conv => whnf
            replace h := bind_inv h; obtain ⟨v241, g242, h⟩ := h
            replace h := bind_inv h; obtain ⟨v243, g244, h⟩ := h
            refine ⟨_, mapGet_ok (ek := D.i) (ev := D.i) (l := v139) (k := 65) keyEq_i, D.i v241, mget_dg (z := 0) rfl g242, v243, mget_sg g244, ?_⟩
            conv => whnf
            revert h; refine cut_join (fun v247 => ⟨X :: X :: AV.ref 2 0 :: X :: X :: AV.ref 5 0 :: X :: AV.mp 55 :: dd 128 ([]), N :: N :: some (OB.box [AV.d (D.i 0), AV.d (D.i 0), AV.d (D.i 0), AV.d (D.i 0), AV.d (D.i 0), AV.d (D.b false)]) :: N :: N :: some (OB.box [AV.d (D.i v247), AV.d (D.i v33), AV.d (D.i v30), AV.d (D.i (-1)), AV.d (D.i 0), AV.d (D.b false)]) :: nn 49 (some (OB.map 3 3 (entsD D.i D.i v139)) :: nn 80 ([]))⟩) ?_ ?_
            · intro k248 h
              conv => whnf
              revert h; refine sel_if ?_ ?_ <;> intro h
              · conv => whnf
                revert h; refine cut_join (fun v249 => ⟨X :: X :: AV.ref 2 0 :: X :: X :: AV.ref 5 0 :: X :: AV.mp 55 :: X :: X :: AV.d (D.i v241) :: dd 95 (AV.d (D.b v249) :: dd 29 ([])), N :: N :: some (OB.box [AV.d (D.i 0), AV.d (D.i 0), AV.d (D.i 0), AV.d (D.i 0), AV.d (D.i 0), AV.d (D.b false)]) :: N :: N :: some (OB.box [AV.d (D.i v27), AV.d (D.i v33), AV.d (D.i v30), AV.d (D.i (-1)), AV.d (D.i 0), AV.d (D.b false)]) :: nn 49 (some (OB.map 3 3 (entsD D.i D.i v139)) :: nn 80 ([]))⟩) ?_ ?_
                · intro k250 h
                  conv => whnf
                  revert h; refine sel_if ?_ ?_ <;> intro h
                  · conv => whnf
                    revert h; refine sel_if ?_ ?_ <;> intro h
                    · conv => whnf
                      exact join_end (v := true) ⟨rfl, And.intro (.refl _) (And.intro (.refl _) (And.intro (.refl _) (And.intro (.refl _) (And.intro (.refl _) True.intro)))), And.intro ⟨_, rfl, And.intro ⟨rfl, .refl _⟩ (And.intro ⟨rfl, .refl _⟩ (And.intro ⟨rfl, .refl _⟩ (And.intro ⟨rfl, .refl _⟩ (And.intro ⟨rfl, .refl _⟩ (And.intro ⟨rfl, .refl _⟩ (True.intro))))))⟩ (And.intro ⟨_, rfl, And.intro ⟨rfl, .refl _⟩ (And.intro ⟨rfl, .refl _⟩ (And.intro ⟨rfl, .refl _⟩ (And.intro ⟨rfl, .refl _⟩ (And.intro ⟨rfl, .refl _⟩ (And.intro ⟨rfl, .refl _⟩ (True.intro))))))⟩ (And.intro rfl (True.intro))), rfl⟩ h
                    · conv => whnf
                      exact join_end (v := (decide (v241 ≤ 65535))) ⟨rfl, And.intro (.refl _) (And.intro (.refl _) (And.intro (.refl _) (And.intro (.refl _) (And.intro (.refl _) True.intro)))), And.intro ⟨_, rfl, And.intro ⟨rfl, .refl _⟩ (And.intro ⟨rfl, .refl _⟩ (And.intro ⟨rfl, .refl _⟩ (And.intro ⟨rfl, .refl _⟩ (And.intro ⟨rfl, .refl _⟩ (And.intro ⟨rfl, .refl _⟩ (True.intro))))))⟩ (And.intro ⟨_, rfl, And.intro ⟨rfl, .refl _⟩ (And.intro ⟨rfl, .refl _⟩ (And.intro ⟨rfl, .refl _⟩ (And.intro ⟨rfl, .refl _⟩ (And.intro ⟨rfl, .refl _⟩ (And.intro ⟨rfl, .refl _⟩ (True.intro))))))⟩ (And.intro rfl (True.intro))), rfl⟩ h
                  · conv => whnf
                    exact join_end (v := false) ⟨rfl, And.intro (.refl _) (And.intro (.refl _) (And.intro (.refl _) (And.intro (.refl _) (And.intro (.refl _) True.intro)))), And.intro ⟨_, rfl, And.intro ⟨rfl, .refl _⟩ (And.intro ⟨rfl, .refl _⟩ (And.intro ⟨rfl, .refl _⟩ (And.intro ⟨rfl, .refl _⟩ (And.intro ⟨rfl, .refl _⟩ (And.intro ⟨rfl, .refl _⟩ (True.intro))))))⟩ (And.intro ⟨_, rfl, And.intro ⟨rfl, .refl _⟩ (And.intro ⟨rfl, .refl _⟩ (And.intro ⟨rfl, .refl _⟩ (And.intro ⟨rfl, .refl _⟩ (And.intro ⟨rfl, .refl _⟩ (And.intro ⟨rfl, .refl _⟩ (True.intro))))))⟩ (And.intro rfl (True.intro))), rfl⟩ h
                · rintro v249 h
                  conv => whnf
                  refine .go ?_
                  conv => whnf
                  revert h; refine sel_if ?_ ?_ <;> intro h
                  · conv => whnf
                    cases h
                    exact ⟨rfl, rfl⟩
                  · conv => whnf
                    exact join_end (v := v241) ⟨rfl, And.intro (.refl _) (And.intro (.refl _) (And.intro (.refl _) True.intro)), And.intro ⟨_, rfl, And.intro ⟨rfl, .refl _⟩ (And.intro ⟨rfl, .refl _⟩ (And.intro ⟨rfl, .refl _⟩ (And.intro ⟨rfl, .refl _⟩ (And.intro ⟨rfl, .refl _⟩ (And.intro ⟨rfl, .refl _⟩ (True.intro))))))⟩ (And.intro ⟨_, rfl, And.intro ⟨rfl, .refl _⟩ (And.intro ⟨rfl, .refl _⟩ (And.intro ⟨rfl, .refl _⟩ (And.intro ⟨rfl, .refl _⟩ (And.intro ⟨rfl, .refl _⟩ (And.intro ⟨rfl, .refl _⟩ (True.intro))))))⟩ (And.intro rfl (True.intro))), rfl⟩ h
              · conv => whnf
                exact join_end (v := v27) ⟨rfl, And.intro (.refl _) (And.intro (.refl _) (And.intro (.refl _) True.intro)), And.intro ⟨_, rfl, And.intro ⟨rfl, .refl _⟩ (And.intro ⟨rfl, .refl _⟩ (And.intro ⟨rfl, .refl _⟩ (And.intro ⟨rfl, .refl _⟩ (And.intro ⟨rfl, .refl _⟩ (And.intro ⟨rfl, .refl _⟩ (True.intro))))))⟩ (And.intro ⟨_, rfl, And.intro ⟨rfl, .refl _⟩ (And.intro ⟨rfl, .refl _⟩ (And.intro ⟨rfl, .refl _⟩ (And.intro ⟨rfl, .refl _⟩ (And.intro ⟨rfl, .refl _⟩ (And.intro ⟨rfl, .refl _⟩ (True.intro))))))⟩ (And.intro rfl (True.intro))), rfl⟩ h
            · rintro v247 h
              conv => whnf
              replace h := bind_inv h; obtain ⟨v251, g252, h⟩ := h
              replace h := bind_inv h; obtain ⟨v253, g254, h⟩ := h
              refine ⟨_, mapGet_ok (ek := D.i) (ev := D.i) (l := v139) (k := 9) keyEq_i, D.i v251, mget_dg (z := 0) rfl g252, v253, mget_sg g254, ?_⟩
              conv => whnf
              revert h; refine cut_join (fun v255 => ⟨X :: X :: AV.ref 2 0 :: X :: X :: AV.ref 5 0 :: X :: AV.mp 55 :: dd 128 ([]), N :: N :: some (OB.box [AV.d (D.i 0), AV.d (D.i 0), AV.d (D.i 0), AV.d (D.i 0), AV.d (D.i 0), AV.d (D.b false)]) :: N :: N :: some (OB.box [AV.d (D.i v247), AV.d (D.i v33), AV.d (D.i v30), AV.d (D.i v255), AV.d (D.i 0), AV.d (D.b false)]) :: nn 49 (some (OB.map 3 3 (entsD D.i D.i v139)) :: nn 80 ([]))⟩) ?_ ?_
              · intro k256 h
                conv => whnf
                revert h; refine sel_if ?_ ?_ <;> intro h
                · conv => whnf
                  exact join_end (v := v251) ⟨rfl, And.intro (.refl _) (And.intro (.refl _) (And.intro (.refl _) True.intro)), And.intro ⟨_, rfl, And.intro ⟨rfl, .refl _⟩ (And.intro ⟨rfl, .refl _⟩ (And.intro ⟨rfl, .refl _⟩ (And.intro ⟨rfl, .refl _⟩ (And.intro ⟨rfl, .refl _⟩ (And.intro ⟨rfl, .refl _⟩ (True.intro))))))⟩ (And.intro ⟨_, rfl, And.intro ⟨rfl, .refl _⟩ (And.intro ⟨rfl, .refl _⟩ (And.intro ⟨rfl, .refl _⟩ (And.intro ⟨rfl, .refl _⟩ (And.intro ⟨rfl, .refl _⟩ (And.intro ⟨rfl, .refl _⟩ (True.intro))))))⟩ (And.intro rfl (True.intro))), rfl⟩ h
                · conv => whnf
                  exact join_end (v := (-1)) ⟨rfl, And.intro (.refl _) (And.intro (.refl _) (And.intro (.refl _) True.intro)), And.intro ⟨_, rfl, And.intro ⟨rfl, .refl _⟩ (And.intro ⟨rfl, .refl _⟩ (And.intro ⟨rfl, .refl _⟩ (And.intro ⟨rfl, .refl _⟩ (And.intro ⟨rfl, .refl _⟩ (And.intro ⟨rfl, .refl _⟩ (True.intro))))))⟩ (And.intro ⟨_, rfl, And.intro ⟨rfl, .refl _⟩ (And.intro ⟨rfl, .refl _⟩ (And.intro ⟨rfl, .refl _⟩ (And.intro ⟨rfl, .refl _⟩ (And.intro ⟨rfl, .refl _⟩ (And.intro ⟨rfl, .refl _⟩ (True.intro))))))⟩ (And.intro rfl (True.intro))), rfl⟩ h
              · rintro v255 h
                conv => whnf
                replace h := bind_inv h; obtain ⟨v257, g258, h⟩ := h
                replace h := bind_inv h; obtain ⟨v259, g260, h⟩ := h
                refine ⟨_, mapGet_ok (ek := D.i) (ev := D.i) (l := v139) (k := 64) keyEq_i, D.i v257, mget_dg (z := 0) rfl g258, v259, mget_sg g260, ?_⟩
                conv => whnf
                revert h; refine cut_join (fun v261 => ⟨X :: X :: AV.ref 2 0 :: X :: X :: AV.ref 5 0 :: dd 130 ([]), N :: N :: some (OB.box [AV.d (D.i 0), AV.d (D.i 0), AV.d (D.i 0), AV.d (D.i 0), AV.d (D.i 0), AV.d (D.b false)]) :: N :: N :: some (OB.box [AV.d (D.i v261.ASN), AV.d (D.i v261.ID), AV.d (D.i v261.Hold), AV.d (D.i v261.Role), AV.d (D.i v261.Grace), AV.d (D.b v261.Again)]) :: nn 130 ([])⟩) ?_ ?_
                · intro k262 h
                  conv => whnf
                  revert h; refine sel_if ?_ ?_ <;> intro h
                  · conv => whnf
                    refine ⟨by decide, _, rfl, ?_⟩
                    conv => whnf
                    refine ⟨_, rfl, ?_⟩
                    conv => whnf
                    exact join_end (v := (⟨v247, v33, v30, v255, (i64w ((BitVec.ofInt 64 v257 &&& BitVec.ofInt 64 4095).toNat : Int)), ((Int.fdiv v257 (2 ^ (min (Int.toNat 15) 64))) == 1)⟩ : Open)) ⟨rfl, And.intro (.refl _) (And.intro (.refl _) True.intro), And.intro ⟨_, rfl, And.intro ⟨rfl, .refl _⟩ (And.intro ⟨rfl, .refl _⟩ (And.intro ⟨rfl, .refl _⟩ (And.intro ⟨rfl, .refl _⟩ (And.intro ⟨rfl, .refl _⟩ (And.intro ⟨rfl, .refl _⟩ (True.intro))))))⟩ (And.intro ⟨_, rfl, And.intro ⟨rfl, .refl _⟩ (And.intro ⟨rfl, .refl _⟩ (And.intro ⟨rfl, .refl _⟩ (And.intro ⟨rfl, .refl _⟩ (And.intro ⟨rfl, .refl _⟩ (And.intro ⟨rfl, .refl _⟩ (True.intro))))))⟩ (True.intro)), rfl⟩ h
                  · conv => whnf
                    exact join_end (v := (⟨v247, v33, v30, v255, 0, false⟩ : Open)) ⟨rfl, And.intro (.refl _) (And.intro (.refl _) True.intro), And.intro ⟨_, rfl, And.intro ⟨rfl, .refl _⟩ (And.intro ⟨rfl, .refl _⟩ (And.intro ⟨rfl, .refl _⟩ (And.intro ⟨rfl, .refl _⟩ (And.intro ⟨rfl, .refl _⟩ (And.intro ⟨rfl, .refl _⟩ (True.intro))))))⟩ (And.intro ⟨_, rfl, And.intro ⟨rfl, .refl _⟩ (And.intro ⟨rfl, .refl _⟩ (And.intro ⟨rfl, .refl _⟩ (And.intro ⟨rfl, .refl _⟩ (And.intro ⟨rfl, .refl _⟩ (And.intro ⟨rfl, .refl _⟩ (True.intro))))))⟩ (True.intro)), rfl⟩ h
                · rintro v261 h
                  conv => whnf
                  replace h := bind_inv h; obtain ⟨v263, g264, h⟩ := h
                  refine ⟨_, _, session_Valid_ok g264, .inl rfl, ?_⟩
                  conv => whnf
                  refine .go ?_
                  conv => whnf
                  revert h; refine sel_if ?_ ?_ <;> intro h
                  · conv => whnf
                    cases h
                    exact ⟨rfl, rfl⟩
                  · conv => whnf
                    cases h
                    exact ⟨rfl, rfl⟩

theorem ref32_value_ok {a0 : List UInt8} {r : Int} (h : ref32_value a0 = some r) : CallsOK Try.prog 41 [AV.d (D.l 1 D.u8 a0)] [] (.d (D.i r)) [] := by
  refine ok Try.f41 (by kernel_rfl) (by kernel_rfl) ⟨rfl, ?_⟩
  unfold ref32_value at h
  conv => whnf
  refine ⟨a0.length, List.length_map _, ?_⟩
  conv => whnf
  revert h; refine cut_join (fun v12 => ⟨X :: X :: X :: AV.d (D.i v12) :: dd 15 ([]), nn 19 ([])⟩) ?_ ?_
  · intro k13 h
    conv => whnf
    revert h; refine loop_for 6 1 D.u8 rfl (fun i20 v19 => ⟨X :: X :: X :: AV.d (D.i v19) :: X :: X :: AV.d (D.l 1 D.u8 a0) :: AV.d (D.i (a0.length : Int)) :: AV.d (D.i (i20 : Int)) :: dd 10 ([]), nn 19 ([])⟩) ⟨rfl, And.intro (.refl _) (And.intro (.refl _) (And.intro (.refl _) (And.intro (.refl _) True.intro))), True.intro, rfl⟩ ?_ ?_
    · rintro v19 K22 h
      conv => whnf
      refine .go ?_
      conv => whnf
      refine sel_f lt_f ?_
      conv => whnf
      exact join_end (v := v19) ⟨rfl, And.intro (.refl _) True.intro, True.intro, rfl⟩ h
    · rintro next24 i20 x21 v19 K22 hii20 hxi20 hwi20 h hK23
      conv => whnf
      refine .go ?_
      conv => whnf
      refine sel_t (lt_t hii20) ?_
      conv => whnf
      refine .go ?_
      conv => whnf
      refine ⟨idx_b (f := D.u8) hii20, D.u8 x21, hxi20, rfl, ?_⟩
      conv => whnf
      refine ⟨by decide, _, rfl, ?_⟩
      conv => whnf
      refine ⟨_, i64_of_u8 x21, ?_⟩
      conv => whnf
      refine ⟨_, rfl, ?_⟩
      conv => whnf
      refine ⟨_, hwi20, ?_⟩
      conv => whnf
      exact hK23 _ (i64w ((BitVec.ofInt 64 (i64w (v19 * (2 ^ (min (Int.toNat 8) 64)))) ||| BitVec.ofInt 64 (x21.toNat : Int)).toNat : Int)) ⟨rfl, And.intro (.refl _) (And.intro (.refl _) (And.intro (.refl _) (And.intro (.refl _) True.intro))), True.intro, rfl⟩ h
  · rintro v12 h
    conv => whnf
    cases h
    exact ⟨rfl, rfl⟩

theorem ref32_parts_ok {a0 : List UInt8} {r : (List UInt8) × (List (List UInt8)) × Bool} (h : ref32_parts a0 = some r) : CallsOK Try.prog 50 [AV.d (D.l 1 D.u8 a0)] [] (.tup [.d (D.l 1 D.u8 r.1), .d (D.l 1 (D.l 1 D.u8) r.2.1), .d (D.b r.2.2)]) [] := by
  refine ok Try.f50 (by kernel_rfl) (by kernel_rfl) ⟨rfl, ?_⟩
  unfold ref32_parts at h
  conv => whnf
  revert h; refine cut_join (fun (v130, v131) => ⟨dd 5 (AV.own 5 (List.map D.u8 v130).length :: AV.own 6 (List.map (D.l 1 D.u8) v131).length :: dd 41 ([])), nn 5 (some (OB.row 5 1 (List.map D.u8 v130) false) :: some (OB.row 30 1 (List.map (D.l 1 D.u8) v131) false) :: nn 41 ([]))⟩) ?_ ?_
  · intro k132 h
    conv => whnf
    revert h; refine loop_while (fun (v216, v217, v218) => ⟨AV.d (D.l 1 D.u8 v216) :: dd 4 (AV.own 5 (List.map D.u8 v217).length :: AV.own 6 (List.map (D.l 1 D.u8) v218).length :: dd 41 ([])), nn 5 (some (OB.row 5 1 (List.map D.u8 v217) false) :: some (OB.row 30 1 (List.map (D.l 1 D.u8) v218) false) :: nn 41 ([]))⟩) ⟨rfl, And.intro (.refl _) (And.intro (.refl _) (And.intro (.refl _) True.intro)), And.intro (.inl ⟨_, rfl, id⟩) (And.intro (.inl ⟨_, rfl, id⟩) (True.intro)), rfl⟩ ?_
    rintro next221 ⟨v216, v217, v218⟩ K219 h hK220
    conv => whnf
    refine ⟨v216.length, List.length_map _, ?_⟩
    conv => whnf
    refine .go ?_
    conv => whnf
    revert h; refine sel_if ?_ ?_ <;> intro h
    · conv => whnf
      refine .go ?_
      conv => whnf
      revert h; refine cut_join (fun v244 => ⟨AV.d (D.l 1 D.u8 v216) :: dd 4 (AV.own 5 (List.map D.u8 v217).length :: AV.own 6 (List.map (D.l 1 D.u8) v218).length :: dd 15 (AV.d (D.b v244) :: dd 25 ([]))), nn 5 (some (OB.row 5 1 (List.map D.u8 v217) false) :: some (OB.row 30 1 (List.map (D.l 1 D.u8) v218) false) :: nn 41 ([]))⟩) ?_ ?_
      · intro k245 h
        conv => whnf
        refine ⟨v216.length, List.length_map _, ?_⟩
        conv => whnf
        revert h; refine sel_if ?_ ?_ <;> intro h
        · conv => whnf
          exact join_end (v := true) ⟨rfl, And.intro (.refl _) (And.intro (.refl _) (And.intro (.refl _) (And.intro (.refl _) True.intro))), And.intro (.inl ⟨_, rfl, id⟩) (And.intro (.inl ⟨_, rfl, id⟩) (True.intro)), rfl⟩ h
        · conv => whnf
          refine ⟨v216.length, List.length_map _, ?_⟩
          conv => whnf
          replace h := bind_inv h; obtain ⟨v246, g247, h⟩ := h
          refine ⟨geti_b (f := D.u8) g247, D.u8 v246, geti_d (f := D.u8) g247, rfl, ?_⟩
          conv => whnf
          refine ⟨_, i64_of_u8 v246, ?_⟩
          conv => whnf
          refine ⟨_, rfl, ?_⟩
          conv => whnf
          exact join_end (v := (decide ((v216.length : Int) < (i64w (2 + (v246.toNat : Int)))))) ⟨rfl, And.intro (.refl _) (And.intro (.refl _) (And.intro (.refl _) (And.intro (.refl _) True.intro))), And.intro (.inl ⟨_, rfl, id⟩) (And.intro (.inl ⟨_, rfl, id⟩) (True.intro)), rfl⟩ h
      · rintro v244 h
        conv => whnf
        refine .go ?_
        conv => whnf
        revert h; refine sel_if ?_ ?_ <;> intro h
        · conv => whnf
          refine ⟨rfl, ?_⟩
          conv => whnf
          refine ⟨rfl, ?_⟩
          conv => whnf
          cases h
          exact ⟨rfl, rfl⟩
        · conv => whnf
          refine dOB (by kernel_rfl) ?_
          conv => whnf
          replace h := bind_inv h; obtain ⟨v248, g249, h⟩ := h
          refine ⟨geti_b (f := D.u8) g249, D.u8 v248, geti_d (f := D.u8) g249, rfl, ?_⟩
          conv => whnf
          refine ⟨rfl, ?_⟩
          conv => whnf
          replace h := bind_inv h; obtain ⟨v250, g251, h⟩ := h
          refine ⟨rfl, apnd_b (f := D.u8) (g := D.u8) g251, _, apnd_z (f := D.u8) g251, ?_⟩
          conv => whnf
          replace h := bind_inv h; obtain ⟨v252, g253, h⟩ := h
          refine ⟨geti_b (f := D.u8) g253, D.u8 v252, geti_d (f := D.u8) g253, rfl, ?_⟩
          conv => whnf
          refine ⟨_, i64_of_u8 v252, ?_⟩
          conv => whnf
          refine ⟨_, rfl, ?_⟩
          conv => whnf
          replace h := bind_inv h; obtain ⟨v254, g255, h⟩ := h
          refine ⟨part_b (f := D.u8) g255, _, part_z (f := D.u8) g255, ?_⟩
          conv => whnf
          refine ⟨rfl, ?_⟩
          conv => whnf
          replace h := bind_inv h; obtain ⟨v256, g257, h⟩ := h
          refine ⟨rfl, apnd_b (f := (D.l 1 D.u8)) (g := (D.l 1 D.u8)) g257, _, apnd_z (f := (D.l 1 D.u8)) g257, ?_⟩
          conv => whnf
          refine cOB (by kernel_rfl) ?_
          conv => whnf
          replace h := bind_inv h; obtain ⟨v258, g259, h⟩ := h
          refine ⟨geti_b (f := D.u8) g259, D.u8 v258, geti_d (f := D.u8) g259, rfl, ?_⟩
          conv => whnf
          refine ⟨_, i64_of_u8 v258, ?_⟩
          conv => whnf
          refine ⟨_, rfl, ?_⟩
          conv => whnf
          replace h := bind_inv h; obtain ⟨v260, g261, h⟩ := h
          refine ⟨part_b0 (f := D.u8) g261, _, part_z0 (f := D.u8) g261, ?_⟩
          conv => whnf
          exact hK220 _ (v260, v250, v256) ⟨rfl, And.intro (.refl _) (And.intro (.refl _) (And.intro (.refl _) True.intro)), And.intro (.inl ⟨_, rfl, id⟩) (And.intro (.inl ⟨_, rfl, id⟩) (True.intro)), rfl⟩ h
    · conv => whnf
      exact join_end (v := (v217, v218)) ⟨rfl, And.intro (.refl _) (And.intro (.refl _) True.intro), And.intro (.inl ⟨_, rfl, id⟩) (And.intro (.inl ⟨_, rfl, id⟩) (True.intro)), rfl⟩ h
  · rintro ⟨v130, v131⟩ h
    conv => whnf
    refine ⟨rfl, ?_⟩
    conv => whnf
    refine ⟨rfl, ?_⟩
    conv => whnf
    cases h
    exact ⟨rfl, rfl⟩
end Go.AX.Q32
