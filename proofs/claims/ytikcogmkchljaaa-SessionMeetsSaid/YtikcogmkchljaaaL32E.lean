/-
  Plain laws on open messages: the law on reading.
-/
import Derived.Test.YtikcogmkchljaaaL32D
namespace Go.AX.Q32
open Go Go.AX

theorem eqd_refl (o : Open) : Open.eqd o o = true := by simp [Open.eqd]

theorem enc_length (o : Open) : (enc o).length ≤ 25 ∧ 12 ≤ (enc o).length := by
  have := caps_length o
  simp only [enc, List.length_append, be_length, List.length_cons, List.length_nil]
  omega

theorem seti_nat {α : Type} {l : List α} {i : Nat} (x : α) (h : i < l.length) : seti l (i : Int) x = some (l.set i x) := by
  unfold seti
  rw [if_pos (by omega)]
  rfl

theorem seti_ok {α : Type} (l : List α) (i : Int) (x : α) (h : 0 ≤ i) (h2 : i < l.length) : ∃ l', seti l i x = some l' ∧ l'.length = l.length := by
  obtain ⟨k, rfl⟩ : ∃ k : Nat, i = (k : Int) := ⟨i.toNat, by omega⟩
  exact ⟨_, seti_nat x (by omega), by simp⟩

theorem sessionReads (b : List UInt8) (l : List Int) (a c : Int) (hl : l.length ≤ 9223372036854775807) : law32_SessionReads b l a c = some true := by
  unfold law32_SessionReads
  by_cases hb : (b.length : Int) > 600
  · rw [if_pos (by simpa using hb), awake_eq]; rfl
  rw [if_neg (by simpa using hb)]
  have hn : mill_New l = some ⟨l, 0⟩ := rfl
  obtain ⟨v, d1, e1, _, _, k1⟩ := next_ok (l := l) (d := ⟨l, 0⟩) ⟨rfl, by simp, hl⟩ 100000
  obtain ⟨o, d2, e2, k2, _⟩ := open_ok k1 (i64w (1 + v))
  simp only [hn, e1, e2, some_bind', refEncode_eq]
  -- the message that is changed
  obtain ⟨w, n, hw⟩ : ∃ w n, (if okO o = true then (enc o, (0 : Int)) else ([], 1)) = (w, n) := ⟨_, _, rfl⟩
  have hlen : w.length ≤ 25 := by
    have := enc_length o
    split at hw
    · cases hw; omega
    · cases hw; simp
  rw [hw]
  simp only
  have ha : apnd (α := UInt8) 1 [] w = some w := ap (by simp; omega)
  rw [ha, some_bind', joinP_def]
  have hend : ∀ x y : List UInt8, x.length ≤ 1000 → y.length ≤ 1000 → (
    Option.bind (mill_Mod c (i64w ((w.length : Int) + 1))) fun v148 =>
    Option.bind (part w 0 v148) fun v150 =>
    joinP (τ := Unit) (fun k191 =>
      forR (σ := Unit) (fun _ =>
        k191 ()
      ) (fun next214 x211 i210 _ =>
        Option.bind (session_Decode x211) fun (v223, v224) =>
        Option.bind (ref32_Decode x211) fun (v226, v227) =>
        joinP (τ := Bool) (fun k230 =>
          if (!(Open.eqd v223 v226)) then
            k230 true
          else
            k230 (v224 != v227)
        ) fun v229 =>
        if v229 then
          some false
        else
          next214 ()
      ) ([b, w, x, y, v150, ([(4 : UInt8), (toU8 a), (toU8 c), (0 : UInt8), (90 : UInt8), (0 : UInt8), (0 : UInt8), (0 : UInt8), (toU8 a), (0 : UInt8)] : List UInt8)] : List (List UInt8)) 0 ()
    ) fun _ =>
    Option.bind (law32_awake) fun v231 =>
    some v231) = some true := by
    intro x y hx hy
    rw [i64w_id (by omega), mod_eq _ _ (by omega) (by omega), some_bind']
    have hg := gomod_range c (n := (w.length : Int) + 1) (by omega)
    obtain ⟨k, hk⟩ : ∃ k : Nat, gomod c ((w.length : Int) + 1) = (k : Int) := ⟨(gomod c ((w.length : Int) + 1)).toNat, by omega⟩
    rw [hk] at hg ⊢
    have hp := part_nat (l := w) (a := 0) (b := k) (by omega) (by omega)
    rw [show (0 : Int) = ((0 : Nat) : Int) from rfl, hp, some_bind', joinP_def]
    refine forR_eq (fun rest _ _ => ∀ z ∈ rest, z.length ≤ 100000) (fun _ _ _ => some true) ?_ ?_ _ _ _ ?_
    · intro i s _
      rw [awake_eq]; rfl
    · intro next z t i s hz hnx
      have hz1 : z.length ≤ 100000 := hz z (by simp)
      simp only [decode_eq z hz1, refDecode_eq z hz1, some_bind', eqd_refl, joinP_ite, Bool.not_true, Bool.false_eq_true, if_false, bne_self_eq_false]
      exact hnx _ (fun q hq => hz q (by simp [hq]))
    · intro z hz
      simp only [List.mem_cons, List.not_mem_nil, or_false] at hz
      rcases hz with rfl | rfl | rfl | rfl | rfl | rfl
      · omega
      · omega
      · omega
      · omega
      · simp; omega
      · simp
  have hmid : ∀ x : List UInt8, x.length ≤ 1000 → (
    joinP (τ := (List UInt8)) (fun k91 =>
      if (decide ((w.length : Int) > 12)) then
        Option.bind (mill_Mod c 7) fun v92 =>
        Option.bind (geti ([([(2 : UInt8), (0 : UInt8)] : List UInt8), ([(9 : UInt8), (1 : UInt8), (4 : UInt8)] : List UInt8), ([(64 : UInt8), (2 : UInt8), (240 : UInt8), (7 : UInt8)] : List UInt8), ([(64 : UInt8), (2 : UInt8), (15 : UInt8), (255 : UInt8)] : List UInt8), ([(65 : UInt8), (4 : UInt8), (0 : UInt8), (0 : UInt8), (0 : UInt8), (9 : UInt8)] : List UInt8), ([(9 : UInt8), (2 : UInt8), (1 : UInt8), (1 : UInt8)] : List UInt8), ([(65 : UInt8), (4 : UInt8), (0 : UInt8), (1 : UInt8), (0 : UInt8), (0 : UInt8)] : List UInt8)] : List (List UInt8)) v92) fun v94 =>
        Option.bind (mill_Mod a 2) fun v96 =>
        joinP (τ := (List UInt8)) (fun k123 =>
          if (v96 == 0) then
            Option.bind (apnd (α := UInt8) 1 w v94) fun v124 =>
            Option.bind (geti v124 9) fun v126 =>
            Option.bind (geti v124 9) fun v128 =>
            Option.bind (seti v124 9 (toU8 ((v126.toNat : Int) + ((toU8 (v94.length : Int)).toNat : Int)))) fun v130 =>
            Option.bind (geti v130 11) fun v132 =>
            Option.bind (geti v130 11) fun v134 =>
            Option.bind (seti v130 11 (toU8 ((v132.toNat : Int) + ((toU8 (v94.length : Int)).toNat : Int)))) fun v136 =>
            k123 v136
          else
            Option.bind (apnd (α := UInt8) 1 w ([(2 : UInt8), (toU8 (v94.length : Int))] : List UInt8)) fun v138 =>
            Option.bind (apnd (α := UInt8) 1 v138 v94) fun v140 =>
            Option.bind (geti v140 9) fun v142 =>
            Option.bind (geti v140 9) fun v144 =>
            Option.bind (seti v140 9 (toU8 ((v142.toNat : Int) + ((toU8 (i64w ((v94.length : Int) + 2))).toNat : Int)))) fun v146 =>
            k123 v146
        ) fun v122 =>
        k91 v122
      else
        k91 w
    ) fun v90 =>
    Option.bind (mill_Mod c (i64w ((w.length : Int) + 1))) fun v148 =>
    Option.bind (part w 0 v148) fun v150 =>
    joinP (τ := Unit) (fun k191 =>
      forR (σ := Unit) (fun _ =>
        k191 ()
      ) (fun next214 x211 i210 _ =>
        Option.bind (session_Decode x211) fun (v223, v224) =>
        Option.bind (ref32_Decode x211) fun (v226, v227) =>
        joinP (τ := Bool) (fun k230 =>
          if (!(Open.eqd v223 v226)) then
            k230 true
          else
            k230 (v224 != v227)
        ) fun v229 =>
        if v229 then
          some false
        else
          next214 ()
      ) ([b, w, x, v90, v150, ([(4 : UInt8), (toU8 a), (toU8 c), (0 : UInt8), (90 : UInt8), (0 : UInt8), (0 : UInt8), (0 : UInt8), (toU8 a), (0 : UInt8)] : List UInt8)] : List (List UInt8)) 0 ()
    ) fun _ =>
    Option.bind (law32_awake) fun v231 =>
    some v231) = some true := by
    intro x hx
    rw [joinP_def]
    by_cases h12 : (w.length : Int) > 12
    case neg =>
      rw [if_neg (by simpa using h12)]
      exact hend x w hx (by omega)
    rw [if_pos (by simpa using h12), mod_eq _ _ (by decide) (by decide), some_bind']
    have hg := gomod_range c (n := 7) (by decide)
    obtain ⟨p, g1, g2⟩ := geti_ok ([([(2 : UInt8), (0 : UInt8)] : List UInt8), ([(9 : UInt8), (1 : UInt8), (4 : UInt8)] : List UInt8), ([(64 : UInt8), (2 : UInt8), (240 : UInt8), (7 : UInt8)] : List UInt8), ([(64 : UInt8), (2 : UInt8), (15 : UInt8), (255 : UInt8)] : List UInt8), ([(65 : UInt8), (4 : UInt8), (0 : UInt8), (0 : UInt8), (0 : UInt8), (9 : UInt8)] : List UInt8), ([(9 : UInt8), (2 : UInt8), (1 : UInt8), (1 : UInt8)] : List UInt8), ([(65 : UInt8), (4 : UInt8), (0 : UInt8), (1 : UInt8), (0 : UInt8), (0 : UInt8)] : List UInt8)] : List (List UInt8)) (gomod c 7) hg.1 (by simp; omega)
    have hp : p.length ≤ 6 := by
      simp only [List.mem_cons, List.not_mem_nil, or_false] at g2
      rcases g2 with rfl | rfl | rfl | rfl | rfl | rfl | rfl <;> simp
    rw [g1, some_bind', mod_eq _ _ (by decide) (by decide), some_bind', joinP_def]
    split
    · rw [ap (by omega), some_bind']
      obtain ⟨y, i1, _⟩ := geti_ok (w ++ p) 9 (by omega) (by simp; omega)
      rw [i1, some_bind', some_bind']
      obtain ⟨q, s1, s2⟩ := seti_ok (w ++ p) 9 (toU8 ((y.toNat : Int) + ((toU8 (p.length : Int)).toNat : Int))) (by omega) (by simp; omega)
      rw [s1, some_bind']
      obtain ⟨y2, i2, _⟩ := geti_ok q 11 (by omega) (by simp at s2; omega)
      rw [i2, some_bind', some_bind']
      obtain ⟨q2, s3, s4⟩ := seti_ok q 11 (toU8 ((y2.toNat : Int) + ((toU8 (p.length : Int)).toNat : Int))) (by omega) (by simp at s2; omega)
      rw [s3, some_bind']
      exact hend x q2 hx (by simp at s2; omega)
    · rw [ap (by simp; omega), some_bind', ap (by simp; omega), some_bind']
      generalize hm : w ++ [2, toU8 (p.length : Int)] ++ p = m
      have hml : m.length = w.length + 2 + p.length := by rw [← hm]; simp; omega
      obtain ⟨y, i1, _⟩ := geti_ok m 9 (by omega) (by omega)
      rw [i1, some_bind', some_bind']
      obtain ⟨q, s1, s2⟩ := seti_ok m 9 (toU8 ((y.toNat : Int) + ((toU8 (i64w ((p.length : Int) + 2))).toNat : Int))) (by omega) (by omega)
      rw [s1, some_bind']
      exact hend x q hx (by omega)
  by_cases h0 : (w.length : Int) > 0
  · rw [if_pos (by simpa using h0), mod_eq _ _ (by omega) (by omega), some_bind']
    have hg := gomod_range a (n := (w.length : Int)) (by omega)
    obtain ⟨y, i1, _⟩ := geti_ok w (gomod a (w.length : Int)) hg.1 hg.2
    obtain ⟨q, s1, s2⟩ := seti_ok w (gomod a (w.length : Int)) (toU8 c) hg.1 hg.2
    rw [i1, some_bind', s1, some_bind']
    refine (some_bind' w _).trans ?_
    exact hmid q (by omega)
  · rw [if_neg (by simpa using h0)]
    refine (some_bind' w _).trans ?_
    exact hmid w (by omega)
theorem sessionReadsW (b : List UInt8) (l : List Int) (a c : Int) (_ : b.length ≤ maxLen ∧ ∀ a ∈ b, True) (h : l.length ≤ maxLen ∧ ∀ a ∈ l, I64 a) (_ : I64 a) (_ : I64 c) : law32_SessionReads b l a c = some true := sessionReads b l a c h.1
end Go.AX.Q32
