/-
  Plain laws on roles: the drawn hops; the laws themselves.
-/
import Derived.Test.YtoankoojoeaooaaL23B
namespace Go.AX.Q23
open Go Go.AX

def gomod (v n : Int) : Int := if v.tmod n < 0 then v.tmod n + n else v.tmod n

theorem tmod_bounds (v : Int) {n : Int} (hn : 0 < n) : -n < v.tmod n ∧ v.tmod n < n := by
  have h1 := Int.tmod_lt_of_pos v hn
  refine ⟨?_, h1⟩
  rw [← Int.neg_lt_neg_iff, Int.neg_neg, ← Int.neg_tmod]
  exact Int.tmod_lt_of_pos _ hn

theorem gomod_range (v : Int) {n : Int} (hn : 0 < n) : 0 ≤ gomod v n ∧ gomod v n < n := by
  have := tmod_bounds v hn
  unfold gomod
  split <;> omega

theorem mod_eq (v n : Int) (hn : 0 < n) (hm : n ≤ 9223372036854775807) : mill_Mod v n = some (gomod v n) := by
  have h := tmod_bounds v hn
  have h0 : n ≠ 0 := by omega
  simp only [mill_Mod, chk, h0, ne_eq, not_false_eq_true, if_true, some_bind', joinP_def, gomod, decide_eq_true_eq]
  split
  · rw [i64w_id (by omega)]
  · rfl

structure Dk (l : List Int) (d : Deck) : Prop where
  L : d.L = l
  At : 0 ≤ d.At
  len : l.length ≤ 9223372036854775807

theorem next_ok {l : List Int} {d : Deck} (h : Dk l d) {n : Int} (hn : 0 < n) (hm : n ≤ 9223372036854775807) :
    ∃ v d', mill_Deck_Next d n = some (v, d') ∧ 0 ≤ v ∧ v < n ∧ Dk l d' := by
  obtain ⟨rfl, h2, h3⟩ := h
  unfold mill_Deck_Next
  by_cases c : d.At ≥ (d.L.length : Int)
  · refine ⟨0, d, ?_, by omega, hn, rfl, h2, h3⟩
    simp [c]
  · have e1 : i64w (d.At + 1) = d.At + 1 := i64w_id (by omega)
    have e2 : i64w (d.At + 1 - 1) = d.At := by rw [i64w_id (by omega)]; omega
    obtain ⟨k, hk⟩ : ∃ k : Nat, d.At = (k : Int) := ⟨d.At.toNat, by omega⟩
    have hlt : k < d.L.length := by omega
    refine ⟨gomod d.L[k] n, ⟨d.L, d.At + 1⟩, ?_, (gomod_range _ hn).1, (gomod_range _ hn).2, rfl, by simp; omega, h3⟩
    simp only [c, decide_false, Bool.false_eq_true, if_false, e1, e2]
    rw [hk, geti_nat hlt]
    simp only [some_bind', mod_eq _ _ hn hm]

theorem geti_ok {α : Type} (l : List α) (i : Int) (h : 0 ≤ i) (h2 : i < l.length) : ∃ x, geti l i = some x ∧ x ∈ l := by
  obtain ⟨k, rfl⟩ : ∃ k : Nat, i = (k : Int) := ⟨i.toNat, by omega⟩
  exact ⟨l[k]'(by omega), geti_nat (by omega), List.getElem_mem _⟩

theorem hops_ok {l : List Int} {d : Deck} (h : Dk l d) : ∃ r : List Hop × Deck, law23_hops d = some r ∧ r.1.length ≤ 8 ∧ Dk l r.2 := by
  unfold law23_hops
  obtain ⟨v1, d1, e1, a1, b1, k1⟩ := next_ok h (n := 5) (by decide) (by decide)
  obtain ⟨v2, d2, e2, a2, b2, k2⟩ := next_ok k1 (n := 9) (by decide) (by decide)
  simp only [e1, e2, some_bind', joinP_def]
  refine whileR_ex (fun (s : Int × Int × Int × Deck × List Hop) => 0 ≤ s.2.1 ∧ s.2.1 ≤ 2 ∧ 0 ≤ s.2.2.1 ∧ s.2.2.1 ≤ 8 ∧ Dk l s.2.2.2.1 ∧ (s.2.2.2.2.length : Int) + s.2.2.1 ≤ 8) (fun s => s.2.2.1.toNat) (fun (r : List Hop × Deck) => r.1.length ≤ 8 ∧ Dk l r.2) ?_ fuel _
    ⟨by simp, by simp, a2, by simp; omega, k2, by simp; omega⟩ (lt_fuel (by simp; omega))
  rintro next ⟨at', kind, k, dk, out⟩ ⟨p1, p2, p3, p4, p5, p6⟩ hn
  simp only at p1 p2 p3 p4 p5 p6 hn ⊢
  by_cases c : k > 0
  · simp only [c, decide_true, if_true]
    obtain ⟨w1, q1, f1, _, _, g1⟩ := next_ok p5 (n := 6) (by decide) (by decide)
    obtain ⟨w2, q2, f2, _, _, g2⟩ := next_ok g1 (n := 5) (by decide) (by decide)
    obtain ⟨w3, q3, f3, _, _, g3⟩ := next_ok g2 (n := 2) (by decide) (by decide)
    obtain ⟨w4, q4, f4, _, _, g4⟩ := next_ok g3 (n := 16) (by decide) (by decide)
    obtain ⟨w5, q5, f5, _, _, g5⟩ := next_ok g4 (n := 7) (by decide) (by decide)
    obtain ⟨w6, q6, f6, _, _, g6⟩ := next_ok g4 (n := 4) (by decide) (by decide)
    have ek : ∃ kk : Int, (if i64w (w2 - 2) > kind then i64w (w2 - 2) else kind) = kk ∧ 0 ≤ kk ∧ kk ≤ 2 := by
      refine ⟨_, rfl, ?_⟩
      rw [i64w_id (by omega)]
      split <;> omega
    obtain ⟨kk, ek, ek1, ek2⟩ := ek
    obtain ⟨row, r1, r2⟩ := geti_ok ([[3, 2], [4, 0], [0, 1]] : List (List Int)) kk ek1 (by simp; omega)
    have r3 : row.length = 2 := by simp at r2; rcases r2 with rfl | rfl | rfl <;> rfl
    obtain ⟨ro, s1, s2⟩ := geti_ok row w3 (by omega) (by omega)
    simp only [f1, f2, f3, f4, f5, f6, some_bind', ek, r1, s1]
    have ap : ∀ x : Hop, apnd (α := Hop) 24 out [x] = some (out ++ [x]) := fun x => apnd_some rfl (by simp; omega)
    have ek3 : i64w (k - 1) = k - 1 := i64w_id (by omega)
    simp only [ap, some_bind', ek3]
    have fin : ∀ (to : Int) (x : Hop) (dq : Deck), Dk l dq → ∃ r, next (to, kk, k - 1, dq, out ++ [x]) = some r ∧ r.1.length ≤ 8 ∧ Dk l r.2 :=
      fun to x dq hd => hn _ ⟨ek1, ek2, by simp; omega, by simp; omega, hd, by simp; omega⟩ (by simp; omega)
    split
    · exact fin _ _ _ g5
    · split
      · exact fin _ _ _ g6
      · exact fin _ _ _ g4
  · simp only [c, decide_false, Bool.false_eq_true, if_false]
    exact ⟨_, rfl, by simp; omega, p5⟩

theorem fits_eq (x y : Int) : role_Fits x y = some (isRole x && decide (y = inv x)) := by
  simp only [role_Fits, joinP_def, known_eq, inverse_eq, some_bind']
  cases isRole x <;> simp
  rw [Bool.eq_iff_iff]; simp

theorem awake_eq : law23_awake = some true := by
  simp only [law23_awake, joinP_def]
  rw [travels_eq _ (by simp), travels_eq _ (by simp), valley_eq _ (by simp), valley_eq _ (by simp), fits_eq]
  decide

theorem new_eq (l : List Int) : mill_New l = some ⟨l, 0⟩ := rfl

theorem roleWays (raw : List Hop) (l : List Int) (hl : l.length ≤ 9223372036854775807) : law23_RoleWays raw l = some true := by
  unfold law23_RoleWays
  by_cases c : (raw.length : Int) > 60
  · simp [c, awake_eq]
  · obtain ⟨⟨hs, d⟩, e, e2, _⟩ := hops_ok (l := l) (d := ⟨l, 0⟩) ⟨rfl, by simp, hl⟩
    simp only at e2
    have h1 : raw.length ≤ 9223372036854775806 := by omega
    have h2 : hs.length ≤ 9223372036854775806 := by omega
    simp only [c, decide_false, Bool.false_eq_true, if_false, new_eq, some_bind', e, joinP_def, forR, awake_eq]
    rw [travels_eq _ (by omega), refTravels_eq _ (by omega), valley_eq _ (by omega), refValley_eq _ h1, travels_eq _ (by omega), refTravels_eq _ (by omega), valley_eq _ (by omega), refValley_eq _ h2]
    simp

theorem roleValleys (raw : List Hop) (l : List Int) (hl : l.length ≤ 9223372036854775807) : law23_RoleValleys raw l = some true := by
  unfold law23_RoleValleys
  by_cases c : (raw.length : Int) > 60
  · simp [c, awake_eq]
  · obtain ⟨⟨hs, d⟩, e, e2, _⟩ := hops_ok (l := l) (d := ⟨l, 0⟩) ⟨rfl, by simp, hl⟩
    simp only at e2
    simp only [c, decide_false, Bool.false_eq_true, if_false, new_eq, some_bind', e, joinP_def, forR, awake_eq]
    rw [travels_eq _ (by omega), valley_eq _ (by omega), travels_eq _ (by omega), valley_eq _ (by omega)]
    simp
end Go.AX.Q23
