/-
  AX, part 20: plain lemmas on the words of plain forms.
-/
import Derived.Test.YtoankoojoeaooaaAx19
namespace Go.AX

theorem forR_eq {α σ ρ : Type} {done : σ → Option ρ} {body : (σ → Option ρ) → α → Nat → σ → Option ρ} (P : List α → Nat → σ → Prop) (F : List α → Nat → σ → Option ρ)
    (hd : ∀ i s, P [] i s → done s = F [] i s)
    (hs : ∀ (next : σ → Option ρ) x t i s, P (x :: t) i s → (∀ s, P t (i + 1) s → next s = F t (i + 1) s) → body next x i s = F (x :: t) i s) :
    ∀ (l : List α) (i : Nat) (s : σ), P l i s → forR done body l i s = F l i s
  | [], i, s, h => hd i s h
  | x :: t, i, s, h => hs _ x t i s h fun s' h' => forR_eq P F hd hs t (i + 1) s' h'

theorem whileR_eq {σ ρ : Type} {body : (σ → Option ρ) → σ → Option ρ} (P : σ → Prop) (μ : σ → Nat) (F : σ → Option ρ)
    (hs : ∀ (next : σ → Option ρ) s, P s → (∀ s', P s' → μ s' < μ s → next s' = F s') → body next s = F s) :
    ∀ (n : Nat) (s : σ), P s → μ s < n → whileR body n s = F s
  | 0, s, _, h => absurd h (Nat.not_lt_zero _)
  | n + 1, s, h, hm => hs _ s h fun s' h' hlt => whileR_eq P μ F hs n s' h' (by omega)

/-- a loop ends, and what comes out is as wanted -/
theorem whileR_ex {σ ρ : Type} {body : (σ → Option ρ) → σ → Option ρ} (P : σ → Prop) (μ : σ → Nat) (Q : ρ → Prop)
    (hs : ∀ (next : σ → Option ρ) s, P s → (∀ s', P s' → μ s' < μ s → ∃ r, next s' = some r ∧ Q r) → ∃ r, body next s = some r ∧ Q r) :
    ∀ (n : Nat) (s : σ), P s → μ s < n → ∃ r, whileR body n s = some r ∧ Q r
  | 0, s, _, h => absurd h (Nat.not_lt_zero _)
  | n + 1, s, h, hm => hs _ s h fun s' h' hlt => whileR_ex P μ Q hs n s' h' (by omega)

/-- the same, where what is wanted depends on where the loop stands -/
theorem whileR_exQ {σ ρ : Type} {body : (σ → Option ρ) → σ → Option ρ} (P : σ → Prop) (μ : σ → Nat) (Q : σ → ρ → Prop)
    (hs : ∀ (next : σ → Option ρ) s, P s → (∀ s', P s' → μ s' < μ s → ∃ r, next s' = some r ∧ Q s' r) → ∃ r, body next s = some r ∧ Q s r) :
    ∀ (n : Nat) (s : σ), P s → μ s < n → ∃ r, whileR body n s = some r ∧ Q s r
  | 0, s, _, h => absurd h (Nat.not_lt_zero _)
  | n + 1, s, h, hm => hs _ s h fun s' h' hlt => whileR_exQ P μ Q hs n s' h' (by omega)

theorem whileR_exR {σ ρ : Type} {body : (σ → Option ρ) → σ → Option ρ} {n : Nat} {s : σ} {Q' : ρ → Prop} (P : σ → Prop) (μ : σ → Nat) (Q : σ → ρ → Prop)
    (hs : ∀ (next : σ → Option ρ) s, P s → (∀ s', P s' → μ s' < μ s → ∃ r, next s' = some r ∧ Q s' r) → ∃ r, body next s = some r ∧ Q s r)
    (hp : P s) (hm : μ s < n) (hq : ∀ r, Q s r → Q' r) : ∃ r, whileR body n s = some r ∧ Q' r := by
  obtain ⟨r, h1, h2⟩ := whileR_exQ P μ Q hs n s hp hm
  exact ⟨r, h1, hq r h2⟩

theorem part_nat {α : Type} {l : List α} {a b : Nat} (h1 : a ≤ b) (h2 : b ≤ l.length) : part l (a : Int) (b : Int) = some ((l.drop a).take (b - a)) := by
  unfold part
  rw [if_pos (by omega)]
  simp

theorem forR_ex {α σ ρ : Type} {done : σ → Option ρ} {body : (σ → Option ρ) → α → Nat → σ → Option ρ} (P : List α → Nat → σ → Prop) (Q : ρ → Prop)
    (hd : ∀ i s, P [] i s → ∃ r, done s = some r ∧ Q r)
    (hs : ∀ (next : σ → Option ρ) x t i s, P (x :: t) i s → (∀ s, P t (i + 1) s → ∃ r, next s = some r ∧ Q r) → ∃ r, body next x i s = some r ∧ Q r) :
    ∀ (l : List α) (i : Nat) (s : σ), P l i s → ∃ r, forR done body l i s = some r ∧ Q r
  | [], i, s, h => hd i s h
  | x :: t, i, s, h => hs _ x t i s h fun s' h' => forR_ex P Q hd hs t (i + 1) s' h'

theorem joinP_ite {τ ρ : Type} (b : Prop) [Decidable b] (x y : τ) (K : τ → Option ρ) : joinP (fun k => if b then k x else k y) K = K (if b then x else y) := by
  unfold joinP; split <;> rfl
theorem joinP_id {τ ρ : Type} (x : τ) (K : τ → Option ρ) : joinP (fun k => k x) K = K x := Eq.trans rfl rfl

theorem bs_toList (l : List UInt8) : (bs l).toList = l := by rw [ByteArray.toList_eq]; simp [bs]
theorem mk_toList (a : Array UInt8) : (ByteArray.mk a).toList = a.toList := ByteArray.toList_eq _

theorem lt_fuel {n : Nat} (h : n < 18446744073709551616) : n < fuel := h

theorem apnd_some {α : Type} {b : Nat} {l m : List α} (hb : Nat.ble b 65536 = true) (h : l.length + m.length ≤ 1000000000) : apnd b l m = some (l ++ m) := by
  unfold apnd
  have hb := Nat.le_of_ble_eq_true hb
  rw [if_pos]
  refine ⟨?_, by omega⟩
  calc _ ≤ 1000000000 * 65536 := Nat.mul_le_mul h hb
    _ ≤ 2 ^ 47 := by decide

theorem apnd_big {α : Type} {b : Nat} {l m : List α} (hb : 0 < b) (h : (l.length + m.length) * b ≤ 140737488355328) : apnd b l m = some (l ++ m) := by
  unfold apnd
  have : l.length + m.length ≤ (l.length + m.length) * b := Nat.le_mul_of_pos_right _ hb
  rw [if_pos ⟨h, by omega⟩]

theorem geti_nat {α : Type} {l : List α} {i : Nat} (h : i < l.length) : geti l (i : Int) = some l[i] := by
  unfold geti
  rw [if_pos (by omega)]
  simp [h]

theorem geti_at {α : Type} (pre : List α) (x : α) (t : List α) : geti (pre ++ x :: t) (pre.length : Int) = some x := by
  rw [geti_nat (by simp)]; simp

theorem i64w_id {x : Int} (h : -9223372036854775808 ≤ x ∧ x ≤ 9223372036854775807) : i64w x = x := i64_id rfl h

theorem some_bind' {α β : Type} (a : α) (f : α → Option β) : (some a).bind f = f a := Eq.trans rfl rfl
theorem joinP_def {τ ρ : Type} (m : (τ → Option ρ) → Option ρ) (k : τ → Option ρ) : joinP m k = m k := Eq.trans rfl rfl
end Go.AX
