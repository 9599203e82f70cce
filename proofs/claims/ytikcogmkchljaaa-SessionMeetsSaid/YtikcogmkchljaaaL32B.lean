/-
  Plain laws on open messages: reading.
-/
import Derived.Test.YtikcogmkchljaaaL32A
namespace Go.AX.Q32
open Go Go.AX

def vstep (v : Int) (x : UInt8) : Int := i64w ((BitVec.ofInt 64 (i64w (v * (2 ^ (min (Int.toNat 8) 64)))) ||| BitVec.ofInt 64 (x.toNat : Int)).toNat : Int)
/-- the number that bytes are -/
def val (l : List UInt8) : Int := l.foldl vstep 0

theorem value_eq (l : List UInt8) : ref32_value l = some (val l) := by
  simp only [ref32_value, joinP_def]
  exact forR_eq (fun _ _ _ => True) (fun rest _ v => some (rest.foldl vstep v)) (fun _ _ _ => rfl) (fun next x t i s _ hn => by
    show next (vstep s x) = _
    rw [hn _ trivial]; rfl) l 0 0 trivial

theorem val_one (x : UInt8) : val [x] = (x.toNat : Int) := by
  have hx := x.toNat_lt
  have e0 : (0 : Int) * (2 ^ (min (Int.toNat 8) 64)) = 0 := by simp
  have e1 : BitVec.ofInt 64 (i64w (0 : Int)) = 0#64 := by
    have : i64w (0 : Int) = 0 := i64w_id (by omega)
    rw [this]; rfl
  show i64w ((BitVec.ofInt 64 (i64w (0 * (2 ^ (min (Int.toNat 8) 64)))) ||| BitVec.ofInt 64 (x.toNat : Int)).toNat : Int) = _
  rw [e0, e1, BitVec.zero_or, BitVec.ofInt_natCast, BitVec.toNat_ofNat, Nat.mod_eq_of_lt (by omega)]
  exact i64w_id (by omega)

theorem rpart_eq (b : List UInt8) (bad : Bool) (n : Nat) : session_reader_part ⟨b, bad⟩ (n : Int) = some (if bad = true ∨ b.length < n then ([], ⟨b, true⟩) else (b.take n, ⟨b.drop n, false⟩)) := by
  simp only [session_reader_part, joinP_ite]
  cases bad
  · simp only [Bool.false_eq_true, if_false, false_or, decide_eq_true_eq]
    by_cases h : b.length < n
    · have : (n : Int) > (b.length : Int) := by omega
      simp [h, this]
    · have : ¬ (n : Int) > (b.length : Int) := by omega
      simp only [h, this, decide_false, Bool.false_eq_true, if_false]
      have p1 := part_nat (l := b) (a := 0) (b := n) (by omega) (by omega)
      have p2 := part_nat (l := b) (a := n) (b := b.length) (by omega) (by omega)
      simp only [Int.natCast_zero] at p1
      rw [p1, some_bind', p2, some_bind']
      have e : List.take (b.length - n) (List.drop n b) = List.drop n b := List.take_of_length_le (by simp)
      rw [e]
      simp
  · simp

theorem rnumber_eq (b : List UInt8) (bad : Bool) (n : Nat) : session_reader_number ⟨b, bad⟩ (n : Int) = some (if bad = true ∨ b.length < n then (0, ⟨b, true⟩) else (val (b.take n), ⟨b.drop n, false⟩)) := by
  have hv : ∀ l : List UInt8, forR (σ := Int) (ρ := Int) (fun v22 => some v22) (fun next27 x24 i23 v22 => next27 (i64w ((BitVec.ofInt 64 (i64w (v22 * (2 ^ (min (Int.toNat 8) 64)))) ||| BitVec.ofInt 64 (x24.toNat : Int)).toNat : Int))) l 0 0 = some (val l) := fun l =>
    forR_eq (fun _ _ _ => True) (fun rest _ v => some (rest.foldl vstep v)) (fun _ _ _ => rfl) (fun next x t i s _ hn => by
      show next (vstep s x) = _
      rw [hn _ trivial]; rfl) l 0 0 trivial
  have hv2 : ∀ (l : List UInt8) (r : session_reader), forR (σ := Int) (ρ := Int × session_reader) (fun v22 => some (v22, r)) (fun next27 x24 i23 v22 => next27 (i64w ((BitVec.ofInt 64 (i64w (v22 * (2 ^ (min (Int.toNat 8) 64)))) ||| BitVec.ofInt 64 (x24.toNat : Int)).toNat : Int))) l 0 0 = some (val l, r) := fun l r =>
    forR_eq (fun _ _ _ => True) (fun rest _ v => some (rest.foldl vstep v, r)) (fun _ _ _ => rfl) (fun next x t i s _ hn => by
      show next (vstep s x) = _
      rw [hn _ trivial]; rfl) l 0 0 trivial
  simp only [session_reader_number, rpart_eq, some_bind', joinP_def]
  split
  · rw [hv2]; rfl
  · rw [hv2]

theorem more_eq (b : List UInt8) (bad : Bool) : session_reader_more ⟨b, bad⟩ = some (!bad && decide (b ≠ []), ⟨b, bad⟩) := by
  simp only [session_reader_more, joinP_ite]
  cases bad <;> cases b <;> simp

/-! parts with a type and a length -/
def tlv : Nat → List UInt8 → Option (List (UInt8 × List UInt8))
  | 0, _ => none
  | _ + 1, [] => some []
  | _ + 1, [_] => none
  | k + 1, t :: n :: rest => if rest.length < n.toNat then none else (tlv k (rest.drop n.toNat)).map ((t, rest.take n.toNat) :: ·)

/-- the first part is read -/
theorem tlv_read (t n : UInt8) (rest : List UInt8) : ∃ c r1 m r2 p r3, session_reader_number ⟨t :: n :: rest, false⟩ 1 = some (c, r1) ∧ session_reader_number r1 1 = some (m, r2) ∧ session_reader_part r2 m = some (p, r3) ∧ c = (t.toNat : Int) ∧
    r3.b.length ≤ rest.length ∧ (if rest.length < n.toNat then r3.bad = true else p = rest.take n.toNat ∧ r3 = ⟨rest.drop n.toNat, false⟩) := by
  have h1 := rnumber_eq (t :: n :: rest) false 1
  have h2 := rnumber_eq (n :: rest) false 1
  have h3 := rpart_eq rest false n.toNat
  simp only [Int.natCast_one, List.length_cons, List.take_succ_cons, List.take_zero, List.drop_succ_cons, List.drop_zero, Bool.false_eq_true, false_or, val_one] at h1 h2 h3
  rw [if_neg (by omega)] at h1 h2
  by_cases h : rest.length < n.toNat
  · rw [if_pos h] at h3
    exact ⟨_, _, _, _, _, _, h1, h2, h3, rfl, Nat.le_refl _, by rw [if_pos h]⟩
  · rw [if_neg h] at h3
    exact ⟨_, _, _, _, _, _, h1, h2, h3, rfl, by simp, by rw [if_neg h]; exact ⟨rfl, rfl⟩⟩

theorem one_read (t : UInt8) : ∃ c r1 m r2 p r3, session_reader_number ⟨[t], false⟩ 1 = some (c, r1) ∧ session_reader_number r1 1 = some (m, r2) ∧ session_reader_part r2 m = some (p, r3) ∧ r3.b.length = 0 ∧ r3.bad = true := by
  have h1 := rnumber_eq [t] false 1
  have h2 := rnumber_eq [] false 1
  have h3 := rpart_eq [] true 0
  simp at h1 h2 h3
  exact ⟨_, _, _, _, _, _, h1, h2, h3, rfl, rfl⟩

/-! what is found -/
structure St where
  role : Option Int
  rest : Option Int
  num : Option Int

def capStep (s : St) (p : UInt8 × List UInt8) : Option St :=
  if p.1 = 9 then (if s.role.isSome ∨ p.2.length ≠ 1 then none else some { s with role := some (val p.2) })
  else if p.1 = 64 then (if s.rest.isSome ∨ p.2.length ≠ 2 then none else some { s with rest := some (val p.2) })
  else if p.1 = 65 then (if s.num.isSome ∨ p.2.length ≠ 4 then none else some { s with num := some (val p.2) })
  else some s

def inner : St → List (UInt8 × List UInt8) → Option St
  | s, [] => some s
  | s, p :: l => (capStep s p).bind fun s => inner s l

def outer : St → List (UInt8 × List UInt8) → Option St
  | s, [] => some s
  | s, p :: l => if p.1 = 2 then ((tlv (p.2.length + 1) p.2).bind (inner s)).bind fun s => outer s l else none

/-- what the program's map holds -/
def abs (m : List (Int × Int)) : St := ⟨mget m 9, mget m 64, mget m 65⟩

theorem mget_mset {K V : Type} [BEq K] [LawfulBEq K] (m : List (K × V)) (k k' : K) (v : V) : mget (mset m k v) k' = if k' == k then some v else mget m k' := by
  induction m with
  | nil => simp [mset, mget]
  | cons p m ih =>
    simp only [mset, mget]
    by_cases h : k == p.1
    · have := eq_of_beq h
      simp only [h, if_true, mget]
      by_cases h2 : k' == k
      · simp [h2]
      · have : ¬ (k' == p.1) = true := by rw [← this]; exact h2
        simp [h2, this]
    · simp only [h, if_false, mget, ih, Bool.false_eq_true]
      by_cases h2 : k' == p.1
      · have e := eq_of_beq h2
        have : ¬ (k' == k) = true := by
          intro h3
          have := eq_of_beq h3
          rw [← this, ← e] at h
          simp at h
        simp [h2, this]
      · simp [h2]

theorem lengths_eq (c : UInt8) : session_lengths (c.toNat : Int) = some (if c = 9 then 1 else if c = 64 then 2 else if c = 65 then 4 else -1) := by
  have h : ∀ n : UInt8, ((c.toNat : Int) == (n.toNat : Int)) = decide (c = n) := by
    intro n
    rw [Bool.eq_iff_iff]
    simp only [beq_iff_eq, decide_eq_true_eq, Int.natCast_inj]
    exact UInt8.toNat_inj
  have h9 := h 9
  have h64 := h 64
  have h65 := h 65
  simp only [show ((9 : UInt8).toNat : Int) = 9 from rfl, show ((64 : UInt8).toNat : Int) = 64 from rfl, show ((65 : UInt8).toNat : Int) = 65 from rfl] at h9 h64 h65
  simp only [session_lengths, h9, h64, h65, decide_eq_true_eq]
  repeat' split
  all_goals rfl

theorem lengths_some (c : Int) : ∃ L, session_lengths c = some L := by
  simp only [session_lengths]
  repeat' split
  all_goals exact ⟨_, rfl⟩

theorem tlv_fuel {k : Nat} : ∀ (l : List UInt8), l.length < k → tlv k l = tlv (l.length + 1) l := by
  have key : ∀ (k j : Nat) (l : List UInt8), l.length < k → l.length < j → tlv k l = tlv j l := by
    intro k
    induction k with
    | zero => intro j l h; omega
    | succ k ih =>
      intro j l h1 h2
      cases j with
      | zero => omega
      | succ j =>
        match l with
        | [] => rfl
        | [_] => rfl
        | t :: n :: rest =>
          simp only [tlv]
          simp only [List.length_cons] at h1 h2
          split
          · rfl
          · rw [ih j (rest.drop n.toNat) (by simp; omega) (by simp; omega)]
  intro l h
  exact key _ _ l h (by omega)

theorem bind_inner (o : Option (List (UInt8 × List UInt8))) (x : UInt8 × List UInt8) (s : St) : (o.map (x :: ·)).bind (inner s) = o.bind fun l => (capStep s x).bind fun s => inner s l := by
  cases o <;> rfl

/-- the program on the capabilities of one part -/
theorem caps_eq (b : List UInt8) (m : List (Int × Int)) (hb : b.length ≤ 100000) : ∃ r : session_reader × List (Int × Int), session_reader_capabilities ⟨b, false⟩ m = some r ∧
    (match (tlv (b.length + 1) b).bind (inner (abs m)) with
      | none => r.1.bad = true
      | some s => r.1.bad = false ∧ abs r.2 = s) := by
  unfold session_reader_capabilities
  rw [joinP_def]
  refine whileR_exR (fun s => s.1.b.length ≤ 100000) (fun s => if s.1.bad then 0 else s.1.b.length + 1)
    (fun s r => if s.1.bad then r.1.bad = true else match (tlv (s.1.b.length + 1) s.1.b).bind (inner (abs s.2)) with
      | none => r.1.bad = true
      | some q => r.1.bad = false ∧ abs r.2 = q) ?hs hb (lt_fuel (by simp; omega)) ?hq
  case hq =>
    intro r h
    simpa using h
  case hs =>
    rintro next ⟨⟨b, bad⟩, m⟩ hP hn
    simp only at hP hn ⊢
    rw [more_eq, some_bind']
    cases bad
    case true => exact ⟨_, rfl, by simp⟩
    simp only [Bool.not_false, Bool.true_and, Bool.false_eq_true, if_false, decide_eq_true_eq] at hn ⊢
    cases b with
    | nil => exact ⟨_, by simp; rfl, by simp [tlv, inner]⟩
    | cons t b =>
      rw [if_pos (by simp)]
      cases b with
      | nil =>
        obtain ⟨c, r1, k, r2, p, r3, e1, e2, e3, e0, e4⟩ := one_read t
        obtain ⟨L, eL⟩ := lengths_some c
        simp only [joinP_def, e1, e2, e3, eL, some_bind', e4, if_true]
        obtain ⟨r, g1, g2⟩ := hn (r3, m) (by simp only; omega) (by simp [e4])
        refine ⟨r, g1, ?_⟩
        simp only [e4, if_true] at g2
        simpa [tlv] using g2
      | cons n rest =>
        obtain ⟨c, r1, k, r2, p, r3, e1, e2, e3, e4, e0, e5⟩ := tlv_read t n rest
        simp only [List.length_cons] at hP
        subst e4
        rw [joinP_def]
        simp only [joinP_ite, e1, e2, e3, some_bind', lengths_eq]
        by_cases hlt : rest.length < n.toNat
        · rw [if_pos hlt] at e5
          simp only [e5, if_true]
          obtain ⟨r, g1, g2⟩ := hn (r3, m) (by simp only; omega) (by simp [e5])
          refine ⟨r, g1, ?_⟩
          simp only [e5, if_true] at g2
          simpa [tlv, hlt] using g2
        · rw [if_neg hlt] at e5
          obtain ⟨rfl, rfl⟩ := e5
          have htl : tlv ((t :: n :: rest).length + 1) (t :: n :: rest) = (tlv ((rest.drop n.toNat).length + 1) (rest.drop n.toNat)).map ((t, rest.take n.toNat) :: ·) := by
            simp only [List.length_cons, tlv, hlt, if_false]
            rw [tlv_fuel _ (by simp; omega)]
          simp only [htl, bind_inner]
          have go : ∀ m' : List (Int × Int), ∃ r, next (⟨rest.drop n.toNat, false⟩, m') = some r ∧ (match (tlv ((rest.drop n.toNat).length + 1) (rest.drop n.toNat)).bind (inner (abs m')) with
              | none => r.1.bad = true
              | some q => r.1.bad = false ∧ abs r.2 = q) := fun m' => by
            have := hn (⟨rest.drop n.toNat, false⟩, m') (by simp; omega) (by simp; omega)
            simpa using this
          simp only [Bool.false_eq_true, if_false]
          generalize hp : rest.take n.toNat = p
          -- one capability that is known
          have known : ∀ (L : Nat), ∀ (s' : Option St), ((mget m (t.toNat : Int)).isSome = true ∨ p.length ≠ L → s' = none) →
              (¬ ((mget m (t.toNat : Int)).isSome = true ∨ p.length ≠ L) → s' = some (abs (mset m (t.toNat : Int) (val p)))) → capStep (abs m) (t, p) = s' →
              ∃ r, (if (if (mget m (t.toNat : Int)).isSome = true then true else ((p.length : Int) != (L : Int))) = true then some ((⟨rest.drop n.toNat, true⟩ : session_reader), m)
                else (session_reader_number ⟨p, false⟩ (L : Int)).bind fun (v315, v316) => next (⟨rest.drop n.toNat, false⟩, mset m (t.toNat : Int) v315)) = some r ∧
              (match ((tlv ((rest.drop n.toNat).length + 1) (rest.drop n.toNat)).bind fun l => (capStep (abs m) (t, p)).bind fun s => inner s l) with
                | none => r.1.bad = true
                | some q => r.1.bad = false ∧ abs r.2 = q) := by
            intro L s' h1 h2 h3
            rw [h3]
            by_cases hc : (mget m (t.toNat : Int)).isSome = true ∨ p.length ≠ L
            · rw [h1 hc]
              have : (if (mget m (t.toNat : Int)).isSome = true then true else ((p.length : Int) != (L : Int))) = true := by
                rcases hc with hc | hc
                · simp [hc]
                · split
                  · rfl
                  · simp; omega
              rw [if_pos this]
              refine ⟨_, rfl, ?_⟩
              cases tlv ((rest.drop n.toNat).length + 1) (rest.drop n.toNat) <;> simp
            · rw [h2 hc]
              have hc' := hc
              simp only [not_or, ne_eq, Decidable.not_not] at hc'
              have : ¬ (if (mget m (t.toNat : Int)).isSome = true then true else ((p.length : Int) != (L : Int))) = true := by
                rw [if_neg hc'.1]; simp; omega
              rw [if_neg this, rnumber_eq, some_bind', if_neg (by simp; omega)]
              have e : p.take L = p := List.take_of_length_le (by omega)
              rw [e]
              exact go _
          by_cases h9 : t = 9
          · have hn9 : (t.toNat : Int) = 9 := by rw [h9]; rfl
            rw [show (if t = 9 then (1 : Int) else if t = 64 then 2 else if t = 65 then 4 else -1) = ((1 : Nat) : Int) by simp [h9], if_neg (by decide)]
            refine known 1 _ ?_ ?_ rfl
            · intro hc; rw [hn9] at hc; simp only [capStep, h9, if_true, abs]; exact if_pos hc
            · intro hc; rw [hn9] at hc ⊢; simp only [capStep, h9, if_true]; exact (if_neg hc).trans (by simp [abs, mget_mset])
          · by_cases h64 : t = 64
            · have hn64 : (t.toNat : Int) = 64 := by rw [h64]; rfl
              rw [show (if t = 9 then (1 : Int) else if t = 64 then 2 else if t = 65 then 4 else -1) = ((2 : Nat) : Int) by simp [h64], if_neg (by decide)]
              refine known 2 _ ?_ ?_ rfl
              · intro hc; rw [hn64] at hc; simp only [capStep, h64, if_true, show ¬ (64 : UInt8) = 9 by decide, if_false]; exact if_pos hc
              · intro hc; rw [hn64] at hc ⊢; simp only [capStep, h64, if_true, show ¬ (64 : UInt8) = 9 by decide, if_false]; exact (if_neg hc).trans (by simp [abs, mget_mset])
            · by_cases h65 : t = 65
              · have hn65 : (t.toNat : Int) = 65 := by rw [h65]; rfl
                rw [show (if t = 9 then (1 : Int) else if t = 64 then 2 else if t = 65 then 4 else -1) = ((4 : Nat) : Int) by simp [h65], if_neg (by decide)]
                refine known 4 _ ?_ ?_ rfl
                · intro hc; rw [hn65] at hc; simp only [capStep, h65, if_true, show ¬ (65 : UInt8) = 9 by decide, show ¬ (65 : UInt8) = 64 by decide, if_false]; exact if_pos hc
                · intro hc; rw [hn65] at hc ⊢; simp only [capStep, h65, if_true, show ¬ (65 : UInt8) = 9 by decide, show ¬ (65 : UInt8) = 64 by decide, if_false]; exact (if_neg hc).trans (by simp [abs, mget_mset])
              · have hcs : capStep (abs m) (t, p) = some (abs m) := by simp [capStep, h9, h64, h65]
                simp only [h9, h64, h65, if_false, hcs, Option.bind_some]
                simpa using go m

theorem whileR_rel {σ ρ : Type} {body : (σ → Option ρ) → σ → Option ρ} (P : σ → Prop) (μ : σ → Nat) (Q : σ → Option ρ → Prop)
    (hs : ∀ (next : σ → Option ρ) s, P s → (∀ s', P s' → μ s' < μ s → Q s' (next s')) → Q s (body next s)) :
    ∀ (n : Nat) (s : σ), P s → μ s < n → Q s (whileR body n s)
  | 0, s, _, h => absurd h (Nat.not_lt_zero _)
  | n + 1, s, h, hm => hs _ s h fun s' h' hlt => whileR_rel P μ Q hs n s' h' (by omega)

theorem parts_eq (b : List UInt8) (hb : b.length ≤ 100000) : ref32_parts b = some (match tlv (b.length + 1) b with
    | none => ([], [], false)
    | some l => (l.map Prod.fst, l.map Prod.snd, true)) := by
  simp only [ref32_parts, joinP_def]
  refine (whileR_eq (fun s => s.2.1.length + s.1.length ≤ 100000 ∧ s.2.2.length + s.1.length ≤ 100000) (fun s => s.1.length)
    (fun s => some (match tlv (s.1.length + 1) s.1 with
      | none => ([], [], false)
      | some l => (s.2.1 ++ l.map Prod.fst, s.2.2 ++ l.map Prod.snd, true))) ?_ fuel _ (by simp; omega) (lt_fuel (by simp; omega))).trans ?_
  · rintro next ⟨b, ks, ls⟩ ⟨hP1, hP2⟩ hn
    simp only at hP1 hP2 hn ⊢
    match b with
    | [] => simp [tlv]
    | [t] => simp [tlv]
    | t :: n :: rest =>
      simp only [List.length_cons] at hP1 hP2 hn
      have hnn := n.toNat_lt
      have g0 : geti (t :: n :: rest) 0 = some t := geti_nat (l := t :: n :: rest) (i := 0) (by simp)
      have g1 : geti (t :: n :: rest) 1 = some n := geti_nat (l := t :: n :: rest) (i := 1) (by simp)
      have c1 : ((t :: n :: rest).length : Int) > 0 := by simp; omega
      have c2 : ¬ ((t :: n :: rest).length : Int) < 2 := by simp; omega
      have e2 : i64w (2 + (n.toNat : Int)) = ((2 + n.toNat : Nat) : Int) := by rw [i64w_id (by omega)]; omega
      simp only [c1, c2, decide_true, decide_false, if_true, Bool.false_eq_true, if_false, g0, g1, some_bind', e2, decide_eq_true_eq]
      by_cases hlt : rest.length < n.toNat
      · have : ((t :: n :: rest).length : Int) < ((2 + n.toNat : Nat) : Int) := by simp; omega
        rw [if_pos this]
        simp [tlv, hlt]
      · have : ¬ ((t :: n :: rest).length : Int) < ((2 + n.toNat : Nat) : Int) := by simp; omega
        rw [if_neg this]
        have p1 := part_nat (l := t :: n :: rest) (a := 2) (b := 2 + n.toNat) (by omega) (by simp; omega)
        have p2 := part_nat (l := t :: n :: rest) (a := 2 + n.toNat) (b := (t :: n :: rest).length) (by simp; omega) (by omega)
        have d2 : List.drop (2 + n.toNat) (t :: n :: rest) = rest.drop n.toNat := by rw [Nat.add_comm]; rfl
        rw [apnd_some rfl (by simp; omega), some_bind', show (2 : Int) = ((2 : Nat) : Int) from rfl, p1, some_bind', apnd_some rfl (by simp; omega), some_bind', p2, some_bind', d2]
        have d3 : List.take ((t :: n :: rest).length - (2 + n.toNat)) (rest.drop n.toNat) = rest.drop n.toNat := List.take_of_length_le (by simp; omega)
        have d4 : List.take (2 + n.toNat - 2) (List.drop 2 (t :: n :: rest)) = rest.take n.toNat := by
          have : 2 + n.toNat - 2 = n.toNat := by omega
          rw [this]; rfl
        rw [d3, d4, hn _ (by simp; omega) (by simp; omega)]
        simp only [List.length_cons, tlv, hlt, if_false]
        rw [tlv_fuel (k := rest.length + 1 + 1) _ (by simp; omega)]
        cases tlv ((rest.drop n.toNat).length + 1) (rest.drop n.toNat) <;> simp
  · simp
end Go.AX.Q32
