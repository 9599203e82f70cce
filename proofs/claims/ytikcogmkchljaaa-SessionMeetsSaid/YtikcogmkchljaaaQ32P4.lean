/-
  The functions do what their plain forms say (proofs written by a program of mine), part 4.
-/
import Derived.Test.YtikcogmkchljaaaQ32P3
namespace Go.AX.Q32
open Go Go.AX Go.Proofs
set_option maxRecDepth 100000
set_option maxHeartbeats 4000000
set_option linter.unusedVariables false
theorem ref32_capabilities_ok {a0 : Open} {a1 : List UInt8} {r : Bool × Bool × Open} (h : ref32_capabilities a0 a1 = some r) : CallsOK Try.prog 42 [.ref 0 0, AV.d (D.l 1 D.u8 a1)] [.box (Open.av a0)] (.tup [.d (D.b r.1), .d (D.b r.2.1)]) [.box (Open.av r.2.2)] := by
  refine ok Try.f42 (by kernel_rfl) (by kernel_rfl) ⟨rfl, ?_⟩
  unfold ref32_capabilities at h
  conv => whnf
  replace h := bind_inv h; obtain ⟨⟨v1, v2, v3⟩, g4, h⟩ := h
  refine ⟨_, _, ref32_parts_ok g4, .inl rfl, ?_⟩
  conv => whnf
  revert h; refine cut_join (fun (v4798, v4799, v4800) => ⟨dd 8 (AV.d (D.b v4798) :: AV.mp 24 :: dd 116 ([])), some (OB.box [AV.d (D.i v4799.ASN), AV.d (D.i v4799.ID), AV.d (D.i v4799.Hold), AV.d (D.i v4799.Role), AV.d (D.i v4799.Grace), AV.d (D.b v4799.Again)]) :: nn 23 (some (OB.map 5 4 (entsD D.u8 D.b v4800)) :: nn 102 ([]))⟩) ?_ ?_
  · intro k4801 h
    conv => whnf
    revert h; refine loop_while (fun (v7994, v7995, v7996, v7997) => ⟨AV.ref 0 0 :: dd 5 (AV.d (D.l 1 D.u8 v1) :: AV.d (D.l 1 (D.l 1 D.u8) v2) :: AV.d (D.b v7994) :: AV.mp 24 :: AV.d (D.i v7995) :: dd 115 ([])), some (OB.box [AV.d (D.i v7996.ASN), AV.d (D.i v7996.ID), AV.d (D.i v7996.Hold), AV.d (D.i v7996.Role), AV.d (D.i v7996.Grace), AV.d (D.b v7996.Again)]) :: nn 23 (some (OB.map 5 4 (entsD D.u8 D.b v7997)) :: nn 102 ([]))⟩) ⟨rfl, And.intro (.refl _) (And.intro (.refl _) (And.intro (.refl _) (And.intro (.refl _) (And.intro (.refl _) (And.intro (.refl _) True.intro))))), And.intro ⟨_, rfl, And.intro ⟨rfl, .refl _⟩ (And.intro ⟨rfl, .refl _⟩ (And.intro ⟨rfl, .refl _⟩ (And.intro ⟨rfl, .refl _⟩ (And.intro ⟨rfl, .refl _⟩ (And.intro ⟨rfl, .refl _⟩ (True.intro))))))⟩ (And.intro rfl (True.intro)), rfl⟩ ?_
    rintro next8000 ⟨v7994, v7995, v7996, v7997⟩ K7998 h hK7999
    conv => whnf
    revert h; refine cut_join (fun v8001 => ⟨AV.ref 0 0 :: dd 5 (AV.d (D.l 1 D.u8 v1) :: AV.d (D.l 1 (D.l 1 D.u8) v2) :: AV.d (D.b v7994) :: AV.mp 24 :: AV.d (D.i v7995) :: dd 19 (AV.d (D.b v8001) :: dd 95 ([]))), some (OB.box [AV.d (D.i v7996.ASN), AV.d (D.i v7996.ID), AV.d (D.i v7996.Hold), AV.d (D.i v7996.Role), AV.d (D.i v7996.Grace), AV.d (D.b v7996.Again)]) :: nn 23 (some (OB.map 5 4 (entsD D.u8 D.b v7997)) :: nn 102 ([]))⟩) ?_ ?_
    · intro k8002 h
      conv => whnf
      refine ⟨v2.length, List.length_map _, ?_⟩
      conv => whnf
      revert h; refine sel_if ?_ ?_ <;> intro h
      · conv => whnf
        exact join_end (v := v7994) ⟨rfl, And.intro (.refl _) (And.intro (.refl _) (And.intro (.refl _) (And.intro (.refl _) (And.intro (.refl _) (And.intro (.refl _) (And.intro (.refl _) True.intro)))))), And.intro ⟨_, rfl, And.intro ⟨rfl, .refl _⟩ (And.intro ⟨rfl, .refl _⟩ (And.intro ⟨rfl, .refl _⟩ (And.intro ⟨rfl, .refl _⟩ (And.intro ⟨rfl, .refl _⟩ (And.intro ⟨rfl, .refl _⟩ (True.intro))))))⟩ (And.intro rfl (True.intro)), rfl⟩ h
      · conv => whnf
        exact join_end (v := false) ⟨rfl, And.intro (.refl _) (And.intro (.refl _) (And.intro (.refl _) (And.intro (.refl _) (And.intro (.refl _) (And.intro (.refl _) (And.intro (.refl _) True.intro)))))), And.intro ⟨_, rfl, And.intro ⟨rfl, .refl _⟩ (And.intro ⟨rfl, .refl _⟩ (And.intro ⟨rfl, .refl _⟩ (And.intro ⟨rfl, .refl _⟩ (And.intro ⟨rfl, .refl _⟩ (And.intro ⟨rfl, .refl _⟩ (True.intro))))))⟩ (And.intro rfl (True.intro)), rfl⟩ h
    · rintro v8001 h
      conv => whnf
      refine .go ?_
      conv => whnf
      revert h; refine sel_if ?_ ?_ <;> intro h
      · conv => whnf
        revert h; refine cut_join (fun (v8797, v8798, v8799) => ⟨AV.ref 0 0 :: dd 5 (AV.d (D.l 1 D.u8 v1) :: AV.d (D.l 1 (D.l 1 D.u8) v2) :: AV.d (D.b v8797) :: AV.mp 24 :: AV.d (D.i v7995) :: dd 115 ([])), some (OB.box [AV.d (D.i v8798.ASN), AV.d (D.i v8798.ID), AV.d (D.i v8798.Hold), AV.d (D.i v8798.Role), AV.d (D.i v8798.Grace), AV.d (D.b v8798.Again)]) :: nn 23 (some (OB.map 5 4 (entsD D.u8 D.b v8799)) :: nn 102 ([]))⟩) ?_ ?_
        · intro k8800 h
          conv => whnf
          replace h := bind_inv h; obtain ⟨v8801, g8802, h⟩ := h
          refine ⟨geti_b (f := (D.l 1 D.u8)) g8802, (D.l 1 D.u8) v8801, geti_d (f := (D.l 1 D.u8)) g8802, rfl, ?_⟩
          conv => whnf
          replace h := bind_inv h; obtain ⟨⟨v8803, v8804, v8805⟩, g8806, h⟩ := h
          refine ⟨_, _, ref32_parts_ok g8806, .inl rfl, ?_⟩
          conv => whnf
          revert h; refine cut_join (fun v8809 => ⟨AV.ref 0 0 :: dd 5 (AV.d (D.l 1 D.u8 v1) :: AV.d (D.l 1 (D.l 1 D.u8) v2) :: AV.d (D.b v8809) :: AV.mp 24 :: AV.d (D.i v7995) :: AV.d (D.l 1 D.u8 v8803) :: AV.d (D.l 1 (D.l 1 D.u8) v8804) :: dd 113 ([])), some (OB.box [AV.d (D.i v7996.ASN), AV.d (D.i v7996.ID), AV.d (D.i v7996.Hold), AV.d (D.i v7996.Role), AV.d (D.i v7996.Grace), AV.d (D.b v7996.Again)]) :: nn 23 (some (OB.map 5 4 (entsD D.u8 D.b v7997)) :: nn 102 ([]))⟩) ?_ ?_
          · intro k8810 h
            conv => whnf
            revert h; refine sel_if ?_ ?_ <;> intro h
            · conv => whnf
              replace h := bind_inv h; obtain ⟨v8811, g8812, h⟩ := h
              refine ⟨geti_b (f := D.u8) g8812, D.u8 v8811, geti_d (f := D.u8) g8812, rfl, ?_⟩
              conv => whnf
              exact join_end (v := ((v8811.toNat : Int) == 2)) ⟨rfl, And.intro (.refl _) (And.intro (.refl _) (And.intro (.refl _) (And.intro (.refl _) (And.intro (.refl _) (And.intro (.refl _) (And.intro (.refl _) (And.intro (.refl _) True.intro))))))), And.intro ⟨_, rfl, And.intro ⟨rfl, .refl _⟩ (And.intro ⟨rfl, .refl _⟩ (And.intro ⟨rfl, .refl _⟩ (And.intro ⟨rfl, .refl _⟩ (And.intro ⟨rfl, .refl _⟩ (And.intro ⟨rfl, .refl _⟩ (True.intro))))))⟩ (And.intro rfl (True.intro)), rfl⟩ h
            · conv => whnf
              exact join_end (v := false) ⟨rfl, And.intro (.refl _) (And.intro (.refl _) (And.intro (.refl _) (And.intro (.refl _) (And.intro (.refl _) (And.intro (.refl _) (And.intro (.refl _) (And.intro (.refl _) True.intro))))))), And.intro ⟨_, rfl, And.intro ⟨rfl, .refl _⟩ (And.intro ⟨rfl, .refl _⟩ (And.intro ⟨rfl, .refl _⟩ (And.intro ⟨rfl, .refl _⟩ (And.intro ⟨rfl, .refl _⟩ (And.intro ⟨rfl, .refl _⟩ (True.intro))))))⟩ (And.intro rfl (True.intro)), rfl⟩ h
          · rintro v8809 h
            conv => whnf
            revert h; refine cut_join (fun (v9202, v9203, v9204) => ⟨AV.ref 0 0 :: dd 5 (AV.d (D.l 1 D.u8 v1) :: AV.d (D.l 1 (D.l 1 D.u8) v2) :: AV.d (D.b v9202) :: AV.mp 24 :: AV.d (D.i v7995) :: dd 115 ([])), some (OB.box [AV.d (D.i v9203.ASN), AV.d (D.i v9203.ID), AV.d (D.i v9203.Hold), AV.d (D.i v9203.Role), AV.d (D.i v9203.Grace), AV.d (D.b v9203.Again)]) :: nn 23 (some (OB.map 5 4 (entsD D.u8 D.b v9204)) :: nn 102 ([]))⟩) ?_ ?_
            · intro k9205 h
              conv => whnf
              revert h; refine loop_while (fun (v9462, v9463, v9464, v9465) => ⟨AV.ref 0 0 :: dd 5 (AV.d (D.l 1 D.u8 v1) :: AV.d (D.l 1 (D.l 1 D.u8) v2) :: AV.d (D.b v9462) :: AV.mp 24 :: AV.d (D.i v7995) :: AV.d (D.l 1 D.u8 v8803) :: AV.d (D.l 1 (D.l 1 D.u8) v8804) :: X :: AV.d (D.i v9463) :: dd 111 ([])), some (OB.box [AV.d (D.i v9464.ASN), AV.d (D.i v9464.ID), AV.d (D.i v9464.Hold), AV.d (D.i v9464.Role), AV.d (D.i v9464.Grace), AV.d (D.b v9464.Again)]) :: nn 23 (some (OB.map 5 4 (entsD D.u8 D.b v9465)) :: nn 102 ([]))⟩) ⟨rfl, And.intro (.refl _) (And.intro (.refl _) (And.intro (.refl _) (And.intro (.refl _) (And.intro (.refl _) (And.intro (.refl _) (And.intro (.refl _) (And.intro (.refl _) (And.intro (.refl _) True.intro)))))))), And.intro ⟨_, rfl, And.intro ⟨rfl, .refl _⟩ (And.intro ⟨rfl, .refl _⟩ (And.intro ⟨rfl, .refl _⟩ (And.intro ⟨rfl, .refl _⟩ (And.intro ⟨rfl, .refl _⟩ (And.intro ⟨rfl, .refl _⟩ (True.intro))))))⟩ (And.intro rfl (True.intro)), rfl⟩ ?_
              rintro next9468 ⟨v9462, v9463, v9464, v9465⟩ K9466 h hK9467
              conv => whnf
              revert h; refine cut_join (fun v9469 => ⟨AV.ref 0 0 :: dd 5 (AV.d (D.l 1 D.u8 v1) :: AV.d (D.l 1 (D.l 1 D.u8) v2) :: AV.d (D.b v9462) :: AV.mp 24 :: AV.d (D.i v7995) :: AV.d (D.l 1 D.u8 v8803) :: AV.d (D.l 1 (D.l 1 D.u8) v8804) :: X :: AV.d (D.i v9463) :: dd 41 (AV.d (D.b v9469) :: dd 69 ([]))), some (OB.box [AV.d (D.i v9464.ASN), AV.d (D.i v9464.ID), AV.d (D.i v9464.Hold), AV.d (D.i v9464.Role), AV.d (D.i v9464.Grace), AV.d (D.b v9464.Again)]) :: nn 23 (some (OB.map 5 4 (entsD D.u8 D.b v9465)) :: nn 102 ([]))⟩) ?_ ?_
              · intro k9470 h
                conv => whnf
                refine ⟨v8804.length, List.length_map _, ?_⟩
                conv => whnf
                revert h; refine sel_if ?_ ?_ <;> intro h
                · conv => whnf
                  exact join_end (v := v9462) ⟨rfl, And.intro (.refl _) (And.intro (.refl _) (And.intro (.refl _) (And.intro (.refl _) (And.intro (.refl _) (And.intro (.refl _) (And.intro (.refl _) (And.intro (.refl _) (And.intro (.refl _) (And.intro (.refl _) True.intro))))))))), And.intro ⟨_, rfl, And.intro ⟨rfl, .refl _⟩ (And.intro ⟨rfl, .refl _⟩ (And.intro ⟨rfl, .refl _⟩ (And.intro ⟨rfl, .refl _⟩ (And.intro ⟨rfl, .refl _⟩ (And.intro ⟨rfl, .refl _⟩ (True.intro))))))⟩ (And.intro rfl (True.intro)), rfl⟩ h
                · conv => whnf
                  exact join_end (v := false) ⟨rfl, And.intro (.refl _) (And.intro (.refl _) (And.intro (.refl _) (And.intro (.refl _) (And.intro (.refl _) (And.intro (.refl _) (And.intro (.refl _) (And.intro (.refl _) (And.intro (.refl _) (And.intro (.refl _) True.intro))))))))), And.intro ⟨_, rfl, And.intro ⟨rfl, .refl _⟩ (And.intro ⟨rfl, .refl _⟩ (And.intro ⟨rfl, .refl _⟩ (And.intro ⟨rfl, .refl _⟩ (And.intro ⟨rfl, .refl _⟩ (And.intro ⟨rfl, .refl _⟩ (True.intro))))))⟩ (And.intro rfl (True.intro)), rfl⟩ h
              · rintro v9469 h
                conv => whnf
                refine .go ?_
                conv => whnf
                revert h; refine sel_if ?_ ?_ <;> intro h
                · conv => whnf
                  revert h; refine cut_join (fun (v9531, v9532, v9533) => ⟨AV.ref 0 0 :: dd 5 (AV.d (D.l 1 D.u8 v1) :: AV.d (D.l 1 (D.l 1 D.u8) v2) :: AV.d (D.b v9531) :: AV.mp 24 :: AV.d (D.i v7995) :: AV.d (D.l 1 D.u8 v8803) :: AV.d (D.l 1 (D.l 1 D.u8) v8804) :: X :: AV.d (D.i v9463) :: dd 111 ([])), some (OB.box [AV.d (D.i v9532.ASN), AV.d (D.i v9532.ID), AV.d (D.i v9532.Hold), AV.d (D.i v9532.Role), AV.d (D.i v9532.Grace), AV.d (D.b v9532.Again)]) :: nn 23 (some (OB.map 5 4 (entsD D.u8 D.b v9533)) :: nn 102 ([]))⟩) ?_ ?_
                  · intro k9534 h
                    conv => whnf
                    refine ⟨_, mapSet_ok (ek := D.u8) (ev := D.i) (l := []) (k := (9 : UInt8)) (v := 1) keyEq_u8, ?_⟩
                    conv => whnf
                    refine ⟨_, mapSet_ok (ek := D.u8) (ev := D.i) (l := (mset [] (9 : UInt8) 1)) (k := (64 : UInt8)) (v := 2) keyEq_u8, ?_⟩
                    conv => whnf
                    refine ⟨_, mapSet_ok (ek := D.u8) (ev := D.i) (l := (mset (mset [] (9 : UInt8) 1) (64 : UInt8) 2)) (k := (65 : UInt8)) (v := 4) keyEq_u8, ?_⟩
                    conv => whnf
                    replace h := bind_inv h; obtain ⟨v9535, g9536, h⟩ := h
                    refine ⟨geti_b (f := D.u8) g9536, D.u8 v9535, geti_d (f := D.u8) g9536, rfl, ?_⟩
                    conv => whnf
                    replace h := bind_inv h; obtain ⟨v9537, g9538, h⟩ := h
                    refine ⟨_, mapGet_ok (ek := D.u8) (ev := D.i) (l := (mset (mset (mset [] (9 : UInt8) 1) (64 : UInt8) 2) (65 : UInt8) 4)) (k := v9535) keyEq_u8, D.i v9537, mget_dg (z := 0) rfl g9538, _, rfl, ?_⟩
                    conv => whnf
                    refine .go ?_
                    conv => whnf
                    revert h; refine sel_if ?_ ?_ <;> intro h
                    · conv => whnf
                      exact join_end (v := (v9462, v9464, v9465)) ⟨rfl, And.intro (.refl _) (And.intro (.refl _) (And.intro (.refl _) (And.intro (.refl _) (And.intro (.refl _) (And.intro (.refl _) (And.intro (.refl _) (And.intro (.refl _) (And.intro (.refl _) True.intro)))))))), And.intro ⟨_, rfl, And.intro ⟨rfl, .refl _⟩ (And.intro ⟨rfl, .refl _⟩ (And.intro ⟨rfl, .refl _⟩ (And.intro ⟨rfl, .refl _⟩ (And.intro ⟨rfl, .refl _⟩ (And.intro ⟨rfl, .refl _⟩ (True.intro))))))⟩ (And.intro rfl (True.intro)), rfl⟩ h
                    · conv => whnf
                      revert h; refine cut_join (fun v9549 => ⟨AV.ref 0 0 :: dd 5 (AV.d (D.l 1 D.u8 v1) :: AV.d (D.l 1 (D.l 1 D.u8) v2) :: AV.d (D.b v9549) :: AV.mp 24 :: AV.d (D.i v7995) :: AV.d (D.l 1 D.u8 v8803) :: AV.d (D.l 1 (D.l 1 D.u8) v8804) :: X :: AV.d (D.i v9463) :: dd 111 ([])), some (OB.box [AV.d (D.i v9464.ASN), AV.d (D.i v9464.ID), AV.d (D.i v9464.Hold), AV.d (D.i v9464.Role), AV.d (D.i v9464.Grace), AV.d (D.b v9464.Again)]) :: nn 23 (some (OB.map 5 4 (entsD D.u8 D.b v9465)) :: nn 102 ([]))⟩) ?_ ?_
                      · intro k9550 h
                        conv => whnf
                        replace h := bind_inv h; obtain ⟨v9551, g9552, h⟩ := h
                        refine ⟨geti_b (f := (D.l 1 D.u8)) g9552, (D.l 1 D.u8) v9551, geti_d (f := (D.l 1 D.u8)) g9552, rfl, ?_⟩
                        conv => whnf
                        refine ⟨v9551.length, List.length_map _, ?_⟩
                        conv => whnf
                        revert h; refine sel_if ?_ ?_ <;> intro h
                        · conv => whnf
                          replace h := bind_inv h; obtain ⟨v9553, g9554, h⟩ := h
                          refine ⟨geti_b (f := D.u8) g9554, D.u8 v9553, geti_d (f := D.u8) g9554, rfl, ?_⟩
                          conv => whnf
                          replace h := bind_inv h; obtain ⟨v9555, g9556, h⟩ := h
                          refine ⟨_, mapGet_ok (ek := D.u8) (ev := D.b) (l := v9465) (k := v9553) keyEq_u8, D.b v9555, mget_dg (z := false) rfl g9556, _, rfl, ?_⟩
                          conv => whnf
                          exact join_end (v := (!v9555)) ⟨rfl, And.intro (.refl _) (And.intro (.refl _) (And.intro (.refl _) (And.intro (.refl _) (And.intro (.refl _) (And.intro (.refl _) (And.intro (.refl _) (And.intro (.refl _) (And.intro (.refl _) True.intro)))))))), And.intro ⟨_, rfl, And.intro ⟨rfl, .refl _⟩ (And.intro ⟨rfl, .refl _⟩ (And.intro ⟨rfl, .refl _⟩ (And.intro ⟨rfl, .refl _⟩ (And.intro ⟨rfl, .refl _⟩ (And.intro ⟨rfl, .refl _⟩ (True.intro))))))⟩ (And.intro rfl (True.intro)), rfl⟩ h
                        · conv => whnf
                          exact join_end (v := false) ⟨rfl, And.intro (.refl _) (And.intro (.refl _) (And.intro (.refl _) (And.intro (.refl _) (And.intro (.refl _) (And.intro (.refl _) (And.intro (.refl _) (And.intro (.refl _) (And.intro (.refl _) True.intro)))))))), And.intro ⟨_, rfl, And.intro ⟨rfl, .refl _⟩ (And.intro ⟨rfl, .refl _⟩ (And.intro ⟨rfl, .refl _⟩ (And.intro ⟨rfl, .refl _⟩ (And.intro ⟨rfl, .refl _⟩ (And.intro ⟨rfl, .refl _⟩ (True.intro))))))⟩ (And.intro rfl (True.intro)), rfl⟩ h
                      · rintro v9549 h
                        conv => whnf
                        replace h := bind_inv h; obtain ⟨v9559, g9560, h⟩ := h
                        refine ⟨geti_b (f := D.u8) g9560, D.u8 v9559, geti_d (f := D.u8) g9560, rfl, ?_⟩
                        conv => whnf
                        refine ⟨_, mapSet_ok (ek := D.u8) (ev := D.b) (l := v9465) (k := v9559) (v := true) keyEq_u8, ?_⟩
                        conv => whnf
                        replace h := bind_inv h; obtain ⟨v9561, g9562, h⟩ := h
                        refine ⟨geti_b (f := (D.l 1 D.u8)) g9562, (D.l 1 D.u8) v9561, geti_d (f := (D.l 1 D.u8)) g9562, rfl, ?_⟩
                        conv => whnf
                        replace h := bind_inv h; obtain ⟨v9563, g9564, h⟩ := h
                        refine ⟨_, _, ref32_value_ok g9564, .inl rfl, ?_⟩
                        conv => whnf
                        replace h := bind_inv h; obtain ⟨v9565, g9566, h⟩ := h
                        refine ⟨geti_b (f := D.u8) g9566, D.u8 v9565, geti_d (f := D.u8) g9566, rfl, ?_⟩
                        conv => whnf
                        refine .go ?_
                        conv => whnf
                        revert h; refine cut_join (fun v9587 => ⟨AV.ref 0 0 :: dd 5 (AV.d (D.l 1 D.u8 v1) :: AV.d (D.l 1 (D.l 1 D.u8) v2) :: AV.d (D.b v9549) :: AV.mp 24 :: AV.d (D.i v7995) :: AV.d (D.l 1 D.u8 v8803) :: AV.d (D.l 1 (D.l 1 D.u8) v8804) :: X :: AV.d (D.i v9463) :: dd 111 ([])), some (OB.box [AV.d (D.i v9587.ASN), AV.d (D.i v9587.ID), AV.d (D.i v9587.Hold), AV.d (D.i v9587.Role), AV.d (D.i v9587.Grace), AV.d (D.b v9587.Again)]) :: nn 23 (some (OB.map 5 4 (entsD D.u8 D.b (mset v9465 v9559 true))) :: nn 102 ([]))⟩) ?_ ?_
                        · intro k9588 h
                          conv => whnf
                          revert h; refine sel_if ?_ ?_ <;> intro h
                          · conv => whnf
                            exact join_end (v := { v9464 with Role := v9563 }) ⟨rfl, And.intro (.refl _) (And.intro (.refl _) (And.intro (.refl _) (And.intro (.refl _) (And.intro (.refl _) (And.intro (.refl _) (And.intro (.refl _) (And.intro (.refl _) (And.intro (.refl _) True.intro)))))))), And.intro ⟨_, rfl, And.intro ⟨rfl, .refl _⟩ (And.intro ⟨rfl, .refl _⟩ (And.intro ⟨rfl, .refl _⟩ (And.intro ⟨rfl, .refl _⟩ (And.intro ⟨rfl, .refl _⟩ (And.intro ⟨rfl, .refl _⟩ (True.intro))))))⟩ (And.intro rfl (True.intro)), rfl⟩ h
                          · conv => whnf
                            revert h; refine cut_join (fun v9591 => ⟨AV.ref 0 0 :: dd 5 (AV.d (D.l 1 D.u8 v1) :: AV.d (D.l 1 (D.l 1 D.u8) v2) :: AV.d (D.b v9549) :: AV.mp 24 :: AV.d (D.i v7995) :: AV.d (D.l 1 D.u8 v8803) :: AV.d (D.l 1 (D.l 1 D.u8) v8804) :: X :: AV.d (D.i v9463) :: dd 111 ([])), some (OB.box [AV.d (D.i v9591.ASN), AV.d (D.i v9591.ID), AV.d (D.i v9591.Hold), AV.d (D.i v9591.Role), AV.d (D.i v9591.Grace), AV.d (D.b v9591.Again)]) :: nn 23 (some (OB.map 5 4 (entsD D.u8 D.b (mset v9465 v9559 true))) :: nn 102 ([]))⟩) ?_ ?_
                            · intro k9592 h
                              conv => whnf
                              revert h; refine sel_if ?_ ?_ <;> intro h
                              · conv => whnf
                                refine ⟨_, rfl, ?_⟩
                                conv => whnf
                                refine ⟨by decide, _, rfl, ?_⟩
                                conv => whnf
                                exact join_end (v := { v9464 with Grace := (i64w ((BitVec.ofInt 64 v9563 &&& BitVec.ofInt 64 4095).toNat : Int)), Again := ((Int.fdiv v9563 (2 ^ (min (Int.toNat 15) 64))) == 1) }) ⟨rfl, And.intro (.refl _) (And.intro (.refl _) (And.intro (.refl _) (And.intro (.refl _) (And.intro (.refl _) (And.intro (.refl _) (And.intro (.refl _) (And.intro (.refl _) (And.intro (.refl _) True.intro)))))))), And.intro ⟨_, rfl, And.intro ⟨rfl, .refl _⟩ (And.intro ⟨rfl, .refl _⟩ (And.intro ⟨rfl, .refl _⟩ (And.intro ⟨rfl, .refl _⟩ (And.intro ⟨rfl, .refl _⟩ (And.intro ⟨rfl, .refl _⟩ (True.intro))))))⟩ (And.intro rfl (True.intro)), rfl⟩ h
                              · conv => whnf
                                revert h; refine cut_join (fun v9593 => ⟨AV.ref 0 0 :: dd 5 (AV.d (D.l 1 D.u8 v1) :: AV.d (D.l 1 (D.l 1 D.u8) v2) :: AV.d (D.b v9549) :: AV.mp 24 :: AV.d (D.i v7995) :: AV.d (D.l 1 D.u8 v8803) :: AV.d (D.l 1 (D.l 1 D.u8) v8804) :: X :: AV.d (D.i v9463) :: dd 111 ([])), some (OB.box [AV.d (D.i v9593), AV.d (D.i v9464.ID), AV.d (D.i v9464.Hold), AV.d (D.i v9464.Role), AV.d (D.i v9464.Grace), AV.d (D.b v9464.Again)]) :: nn 23 (some (OB.map 5 4 (entsD D.u8 D.b (mset v9465 v9559 true))) :: nn 102 ([]))⟩) ?_ ?_
                                · intro k9594 h
                                  conv => whnf
                                  revert h; refine sel_if ?_ ?_ <;> intro h
                                  · conv => whnf
                                    exact join_end (v := v9563) ⟨rfl, And.intro (.refl _) (And.intro (.refl _) (And.intro (.refl _) (And.intro (.refl _) (And.intro (.refl _) (And.intro (.refl _) (And.intro (.refl _) (And.intro (.refl _) (And.intro (.refl _) True.intro)))))))), And.intro ⟨_, rfl, And.intro ⟨rfl, .refl _⟩ (And.intro ⟨rfl, .refl _⟩ (And.intro ⟨rfl, .refl _⟩ (And.intro ⟨rfl, .refl _⟩ (And.intro ⟨rfl, .refl _⟩ (And.intro ⟨rfl, .refl _⟩ (True.intro))))))⟩ (And.intro rfl (True.intro)), rfl⟩ h
                                  · conv => whnf
                                    exact join_end (v := v9464.ASN) ⟨rfl, And.intro (.refl _) (And.intro (.refl _) (And.intro (.refl _) (And.intro (.refl _) (And.intro (.refl _) (And.intro (.refl _) (And.intro (.refl _) (And.intro (.refl _) (And.intro (.refl _) True.intro)))))))), And.intro ⟨_, rfl, And.intro ⟨rfl, .refl _⟩ (And.intro ⟨rfl, .refl _⟩ (And.intro ⟨rfl, .refl _⟩ (And.intro ⟨rfl, .refl _⟩ (And.intro ⟨rfl, .refl _⟩ (And.intro ⟨rfl, .refl _⟩ (True.intro))))))⟩ (And.intro rfl (True.intro)), rfl⟩ h
                                · rintro v9593 h
                                  conv => whnf
                                  exact join_end (v := { v9464 with ASN := v9593 }) ⟨rfl, And.intro (.refl _) (And.intro (.refl _) (And.intro (.refl _) (And.intro (.refl _) (And.intro (.refl _) (And.intro (.refl _) (And.intro (.refl _) (And.intro (.refl _) (And.intro (.refl _) True.intro)))))))), And.intro ⟨_, rfl, And.intro ⟨rfl, .refl _⟩ (And.intro ⟨rfl, .refl _⟩ (And.intro ⟨rfl, .refl _⟩ (And.intro ⟨rfl, .refl _⟩ (And.intro ⟨rfl, .refl _⟩ (And.intro ⟨rfl, .refl _⟩ (True.intro))))))⟩ (And.intro rfl (True.intro)), rfl⟩ h
                            · rintro v9591 h
                              conv => whnf
                              exact join_end (v := v9591) ⟨rfl, And.intro (.refl _) (And.intro (.refl _) (And.intro (.refl _) (And.intro (.refl _) (And.intro (.refl _) (And.intro (.refl _) (And.intro (.refl _) (And.intro (.refl _) (And.intro (.refl _) True.intro)))))))), And.intro ⟨_, rfl, And.intro ⟨rfl, .refl _⟩ (And.intro ⟨rfl, .refl _⟩ (And.intro ⟨rfl, .refl _⟩ (And.intro ⟨rfl, .refl _⟩ (And.intro ⟨rfl, .refl _⟩ (And.intro ⟨rfl, .refl _⟩ (True.intro))))))⟩ (And.intro rfl (True.intro)), rfl⟩ h
                        · rintro v9587 h
                          conv => whnf
                          exact join_end (v := (v9549, v9587, (mset v9465 v9559 true))) ⟨rfl, And.intro (.refl _) (And.intro (.refl _) (And.intro (.refl _) (And.intro (.refl _) (And.intro (.refl _) (And.intro (.refl _) (And.intro (.refl _) (And.intro (.refl _) (And.intro (.refl _) True.intro)))))))), And.intro ⟨_, rfl, And.intro ⟨rfl, .refl _⟩ (And.intro ⟨rfl, .refl _⟩ (And.intro ⟨rfl, .refl _⟩ (And.intro ⟨rfl, .refl _⟩ (And.intro ⟨rfl, .refl _⟩ (And.intro ⟨rfl, .refl _⟩ (True.intro))))))⟩ (And.intro rfl (True.intro)), rfl⟩ h
                  · rintro ⟨v9531, v9532, v9533⟩ h
                    conv => whnf
                    refine ⟨_, rfl, ?_⟩
                    conv => whnf
                    exact hK9467 _ (v9531, (i64w (v9463 + 1)), v9532, v9533) ⟨rfl, And.intro (.refl _) (And.intro (.refl _) (And.intro (.refl _) (And.intro (.refl _) (And.intro (.refl _) (And.intro (.refl _) (And.intro (.refl _) (And.intro (.refl _) (And.intro (.refl _) True.intro)))))))), And.intro ⟨_, rfl, And.intro ⟨rfl, .refl _⟩ (And.intro ⟨rfl, .refl _⟩ (And.intro ⟨rfl, .refl _⟩ (And.intro ⟨rfl, .refl _⟩ (And.intro ⟨rfl, .refl _⟩ (And.intro ⟨rfl, .refl _⟩ (True.intro))))))⟩ (And.intro rfl (True.intro)), rfl⟩ h
                · conv => whnf
                  exact join_end (v := (v9462, v9464, v9465)) ⟨rfl, And.intro (.refl _) (And.intro (.refl _) (And.intro (.refl _) (And.intro (.refl _) (And.intro (.refl _) (And.intro (.refl _) True.intro))))), And.intro ⟨_, rfl, And.intro ⟨rfl, .refl _⟩ (And.intro ⟨rfl, .refl _⟩ (And.intro ⟨rfl, .refl _⟩ (And.intro ⟨rfl, .refl _⟩ (And.intro ⟨rfl, .refl _⟩ (And.intro ⟨rfl, .refl _⟩ (True.intro))))))⟩ (And.intro rfl (True.intro)), rfl⟩ h
            · rintro ⟨v9202, v9203, v9204⟩ h
              conv => whnf
              exact join_end (v := (v9202, v9203, v9204)) ⟨rfl, And.intro (.refl _) (And.intro (.refl _) (And.intro (.refl _) (And.intro (.refl _) (And.intro (.refl _) (And.intro (.refl _) True.intro))))), And.intro ⟨_, rfl, And.intro ⟨rfl, .refl _⟩ (And.intro ⟨rfl, .refl _⟩ (And.intro ⟨rfl, .refl _⟩ (And.intro ⟨rfl, .refl _⟩ (And.intro ⟨rfl, .refl _⟩ (And.intro ⟨rfl, .refl _⟩ (True.intro))))))⟩ (And.intro rfl (True.intro)), rfl⟩ h
        · rintro ⟨v8797, v8798, v8799⟩ h
          conv => whnf
          refine ⟨_, rfl, ?_⟩
          conv => whnf
          exact hK7999 _ (v8797, (i64w (v7995 + 1)), v8798, v8799) ⟨rfl, And.intro (.refl _) (And.intro (.refl _) (And.intro (.refl _) (And.intro (.refl _) (And.intro (.refl _) (And.intro (.refl _) True.intro))))), And.intro ⟨_, rfl, And.intro ⟨rfl, .refl _⟩ (And.intro ⟨rfl, .refl _⟩ (And.intro ⟨rfl, .refl _⟩ (And.intro ⟨rfl, .refl _⟩ (And.intro ⟨rfl, .refl _⟩ (And.intro ⟨rfl, .refl _⟩ (True.intro))))))⟩ (And.intro rfl (True.intro)), rfl⟩ h
      · conv => whnf
        exact join_end (v := (v7994, v7996, v7997)) ⟨rfl, And.intro (.refl _) (And.intro (.refl _) True.intro), And.intro ⟨_, rfl, And.intro ⟨rfl, .refl _⟩ (And.intro ⟨rfl, .refl _⟩ (And.intro ⟨rfl, .refl _⟩ (And.intro ⟨rfl, .refl _⟩ (And.intro ⟨rfl, .refl _⟩ (And.intro ⟨rfl, .refl _⟩ (True.intro))))))⟩ (And.intro rfl (True.intro)), rfl⟩ h
  · rintro ⟨v4798, v4799, v4800⟩ h
    conv => whnf
    refine dOB (by kernel_rfl) ?_
    conv => whnf
    replace h := bind_inv h; obtain ⟨v9595, g9596, h⟩ := h
    refine ⟨_, mapGet_ok (ek := D.u8) (ev := D.b) (l := v4800) (k := (65 : UInt8)) keyEq_u8, D.b v9595, mget_dg (z := false) rfl g9596, _, rfl, ?_⟩
    conv => whnf
    refine cOB (by kernel_rfl) ?_
    conv => whnf
    cases h
    exact ⟨rfl, rfl⟩

theorem ref32_Decode_ok {a0 : List UInt8} {r : Open × Int} (h : ref32_Decode a0 = some r) : CallsOK Try.prog 23 [AV.d (D.l 1 D.u8 a0)] [] (.tup [.d (Open.toD r.1), .d (D.i r.2)]) [] := by
  refine ok Try.f23 (by kernel_rfl) (by kernel_rfl) ⟨rfl, ?_⟩
  unfold ref32_Decode at h
  conv => whnf
  refine .go ?_
  conv => whnf
  refine ⟨a0.length, List.length_map _, ?_⟩
  conv => whnf
  refine .go ?_
  conv => whnf
  revert h; refine sel_if ?_ ?_ <;> intro h
  · conv => whnf
    cases h
    exact ⟨rfl, rfl⟩
  · conv => whnf
    replace h := bind_inv h; obtain ⟨v19, g20, h⟩ := h
    refine ⟨geti_b (f := D.u8) g20, D.u8 v19, geti_d (f := D.u8) g20, rfl, ?_⟩
    conv => whnf
    refine .go ?_
    conv => whnf
    revert h; refine sel_if ?_ ?_ <;> intro h
    · conv => whnf
      cases h
      exact ⟨rfl, rfl⟩
    · conv => whnf
      replace h := bind_inv h; obtain ⟨v23, g24, h⟩ := h
      refine ⟨geti_b (f := D.u8) g24, D.u8 v23, geti_d (f := D.u8) g24, rfl, ?_⟩
      conv => whnf
      refine ⟨_, i64_of_u8 v23, ?_⟩
      conv => whnf
      refine ⟨a0.length, List.length_map _, ?_⟩
      conv => whnf
      refine ⟨_, rfl, ?_⟩
      conv => whnf
      refine .go ?_
      conv => whnf
      revert h; refine sel_if ?_ ?_ <;> intro h
      · conv => whnf
        cases h
        exact ⟨rfl, rfl⟩
      · conv => whnf
        replace h := bind_inv h; obtain ⟨v25, g26, h⟩ := h
        refine ⟨part_b (f := D.u8) g26, _, part_z (f := D.u8) g26, ?_⟩
        conv => whnf
        replace h := bind_inv h; obtain ⟨v27, g28, h⟩ := h
        refine ⟨_, _, ref32_value_ok g28, .inl rfl, ?_⟩
        conv => whnf
        refine dOB (by kernel_rfl) ?_
        conv => whnf
        replace h := bind_inv h; obtain ⟨v29, g30, h⟩ := h
        refine ⟨part_b (f := D.u8) g30, _, part_z (f := D.u8) g30, ?_⟩
        conv => whnf
        replace h := bind_inv h; obtain ⟨v31, g32, h⟩ := h
        refine ⟨_, _, ref32_value_ok g32, .inl rfl, ?_⟩
        conv => whnf
        replace h := bind_inv h; obtain ⟨v33, g34, h⟩ := h
        refine ⟨part_b (f := D.u8) g34, _, part_z (f := D.u8) g34, ?_⟩
        conv => whnf
        replace h := bind_inv h; obtain ⟨v35, g36, h⟩ := h
        refine ⟨_, _, ref32_value_ok g36, .inl rfl, ?_⟩
        conv => whnf
        refine cOB (by kernel_rfl) ?_
        conv => whnf
        replace h := bind_inv h; obtain ⟨v37, g38, h⟩ := h
        refine ⟨part_b0 (f := D.u8) g38, _, part_z0 (f := D.u8) g38, ?_⟩
        conv => whnf
        replace h := bind_inv h; obtain ⟨⟨v39, v40, v41⟩, g42, h⟩ := h
        refine ⟨_, _, ref32_capabilities_ok g42, .inl rfl, ?_⟩
        conv => whnf
        revert h; refine cut_join (fun v43 => ⟨X :: X :: AV.ref 2 0 :: X :: X :: AV.ref 5 0 :: dd 59 (AV.d (D.b v43) :: dd 6 ([])), N :: N :: some (OB.box [AV.d (D.i 0), AV.d (D.i 0), AV.d (D.i 0), AV.d (D.i 0), AV.d (D.i 0), AV.d (D.b false)]) :: N :: N :: some (OB.box [AV.d (D.i v41.ASN), AV.d (D.i v41.ID), AV.d (D.i v41.Hold), AV.d (D.i v41.Role), AV.d (D.i v41.Grace), AV.d (D.b v41.Again)]) :: nn 66 ([])⟩) ?_ ?_
        · intro k44 h
          conv => whnf
          revert h; refine sel_if ?_ ?_ <;> intro h
          · conv => whnf
            exact join_end (v := true) ⟨rfl, And.intro (.refl _) (And.intro (.refl _) (And.intro (.refl _) True.intro)), And.intro ⟨_, rfl, And.intro ⟨rfl, .refl _⟩ (And.intro ⟨rfl, .refl _⟩ (And.intro ⟨rfl, .refl _⟩ (And.intro ⟨rfl, .refl _⟩ (And.intro ⟨rfl, .refl _⟩ (And.intro ⟨rfl, .refl _⟩ (True.intro))))))⟩ (And.intro ⟨_, rfl, And.intro ⟨rfl, .refl _⟩ (And.intro ⟨rfl, .refl _⟩ (And.intro ⟨rfl, .refl _⟩ (And.intro ⟨rfl, .refl _⟩ (And.intro ⟨rfl, .refl _⟩ (And.intro ⟨rfl, .refl _⟩ (True.intro))))))⟩ (True.intro)), rfl⟩ h
          · conv => whnf
            revert h; refine sel_if ?_ ?_ <;> intro h
            · conv => whnf
              revert h; refine sel_if ?_ ?_ <;> intro h
              · conv => whnf
                revert h; refine sel_if ?_ ?_ <;> intro h
                · conv => whnf
                  exact join_end (v := true) ⟨rfl, And.intro (.refl _) (And.intro (.refl _) (And.intro (.refl _) True.intro)), And.intro ⟨_, rfl, And.intro ⟨rfl, .refl _⟩ (And.intro ⟨rfl, .refl _⟩ (And.intro ⟨rfl, .refl _⟩ (And.intro ⟨rfl, .refl _⟩ (And.intro ⟨rfl, .refl _⟩ (And.intro ⟨rfl, .refl _⟩ (True.intro))))))⟩ (And.intro ⟨_, rfl, And.intro ⟨rfl, .refl _⟩ (And.intro ⟨rfl, .refl _⟩ (And.intro ⟨rfl, .refl _⟩ (And.intro ⟨rfl, .refl _⟩ (And.intro ⟨rfl, .refl _⟩ (And.intro ⟨rfl, .refl _⟩ (True.intro))))))⟩ (True.intro)), rfl⟩ h
                · conv => whnf
                  exact join_end (v := (decide (v41.ASN ≤ 65535))) ⟨rfl, And.intro (.refl _) (And.intro (.refl _) (And.intro (.refl _) True.intro)), And.intro ⟨_, rfl, And.intro ⟨rfl, .refl _⟩ (And.intro ⟨rfl, .refl _⟩ (And.intro ⟨rfl, .refl _⟩ (And.intro ⟨rfl, .refl _⟩ (And.intro ⟨rfl, .refl _⟩ (And.intro ⟨rfl, .refl _⟩ (True.intro))))))⟩ (And.intro ⟨_, rfl, And.intro ⟨rfl, .refl _⟩ (And.intro ⟨rfl, .refl _⟩ (And.intro ⟨rfl, .refl _⟩ (And.intro ⟨rfl, .refl _⟩ (And.intro ⟨rfl, .refl _⟩ (And.intro ⟨rfl, .refl _⟩ (True.intro))))))⟩ (True.intro)), rfl⟩ h
              · conv => whnf
                exact join_end (v := false) ⟨rfl, And.intro (.refl _) (And.intro (.refl _) (And.intro (.refl _) True.intro)), And.intro ⟨_, rfl, And.intro ⟨rfl, .refl _⟩ (And.intro ⟨rfl, .refl _⟩ (And.intro ⟨rfl, .refl _⟩ (And.intro ⟨rfl, .refl _⟩ (And.intro ⟨rfl, .refl _⟩ (And.intro ⟨rfl, .refl _⟩ (True.intro))))))⟩ (And.intro ⟨_, rfl, And.intro ⟨rfl, .refl _⟩ (And.intro ⟨rfl, .refl _⟩ (And.intro ⟨rfl, .refl _⟩ (And.intro ⟨rfl, .refl _⟩ (And.intro ⟨rfl, .refl _⟩ (And.intro ⟨rfl, .refl _⟩ (True.intro))))))⟩ (True.intro)), rfl⟩ h
            · conv => whnf
              exact join_end (v := false) ⟨rfl, And.intro (.refl _) (And.intro (.refl _) (And.intro (.refl _) True.intro)), And.intro ⟨_, rfl, And.intro ⟨rfl, .refl _⟩ (And.intro ⟨rfl, .refl _⟩ (And.intro ⟨rfl, .refl _⟩ (And.intro ⟨rfl, .refl _⟩ (And.intro ⟨rfl, .refl _⟩ (And.intro ⟨rfl, .refl _⟩ (True.intro))))))⟩ (And.intro ⟨_, rfl, And.intro ⟨rfl, .refl _⟩ (And.intro ⟨rfl, .refl _⟩ (And.intro ⟨rfl, .refl _⟩ (And.intro ⟨rfl, .refl _⟩ (And.intro ⟨rfl, .refl _⟩ (And.intro ⟨rfl, .refl _⟩ (True.intro))))))⟩ (True.intro)), rfl⟩ h
        · rintro v43 h
          conv => whnf
          refine .go ?_
          conv => whnf
          revert h; refine sel_if ?_ ?_ <;> intro h
          · conv => whnf
            cases h
            exact ⟨rfl, rfl⟩
          · conv => whnf
            replace h := bind_inv h; obtain ⟨v45, g46, h⟩ := h
            refine ⟨_, _, ref32_Valid_ok g46, .inl rfl, ?_⟩
            conv => whnf
            refine .go ?_
            conv => whnf
            revert h; refine sel_if ?_ ?_ <;> intro h
            · conv => whnf
              cases h
              exact ⟨rfl, rfl⟩
            · conv => whnf
              cases h
              exact ⟨rfl, rfl⟩
end Go.AX.Q32
