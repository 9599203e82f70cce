/-
  Plain laws on roles: ways.
-/
import Derived.Test.YtoankoojoeaooaaL23A
namespace Go.AX.Q23
open Go Go.AX

theorem take_last (pre : List Hop) (h : Hop) (t : List Hop) : (List.take (pre.length + 1) (pre ++ h :: t)).getLast? = some h := by
  rw [List.take_append]; simp

theorem Jr_cons (p : Option Hop) (h : Hop) (t : List Hop) : Jr p (h :: t) = (one p h && Jr (some h) t) := rfl

theorem valley_eq (l : List Hop) (hl : l.length ≤ 9223372036854775807) : role_Valley l = some (Jr none l && auto false l) := by
  simp only [role_Valley, joinP_def]
  refine (forR_eq (fun rest i _ => ∃ pre, l = pre ++ rest ∧ i = pre.length) (fun rest i d => some (Jr (l.take i).getLast? rest && auto d rest)) ?_ ?_ l 0 false ⟨[], rfl, rfl⟩).trans (by simp)
  · intro i s _; simp [Jr, auto]
  · rintro next h t i d ⟨pre, rfl, rfl⟩ hn
    have hn := fun d => hn d ⟨pre ++ [h], by simp, by simp⟩
    simp only [joined_at _ _ _ hl, some_bind', hn, take_last, Jr_cons, List.take_left']
    cases one pre.getLast? h <;> simp
    simp only [auto]
    by_cases h4 : h.Role = 4
    · cases d <;> simp [h4]
    by_cases h0 : h.Role = 0
    · simp [h0]
    by_cases h1 : h.Role = 1
    · simp [h1]
    cases d <;> simp [h4, h0, h1]

theorem one_ok {p : Option Hop} {h : Hop} (h1 : one p h = true) : isRole h.Role = true ∧ isNum h.From = true := by
  simp only [one, okH, Bool.and_eq_true] at h1
  exact ⟨h1.1.1.1, h1.1.1.2⟩

theorem bare_OTC (o : Int) : (bare o).OTC = o := rfl

theorem isRole_inv {x : Int} (h : isRole x = true) : isRole (inv x) = true := by
  rcases isRole_cases h with rfl | rfl | rfl | rfl | rfl <;> rfl

theorem travels_eq (l : List Hop) (hl : l.length ≤ 9223372036854775807) : role_Travels l = some (Jr none l && auto false l) := by
  simp only [role_Travels, joinP_def]
  refine (forR_eq (fun rest i a => (∃ pre, l = pre ++ rest ∧ i = pre.length) ∧ ∃ o, a = bare o) (fun rest i a => some (Jr (l.take i).getLast? rest && auto (a.OTC != -1) rest)) ?_ ?_ l 0 _ ⟨⟨[], rfl, rfl⟩, -1, rfl⟩).trans (by simp [bare_OTC])
  · intro i s _; simp [Jr, auto]
  · rintro next h t i _ ⟨⟨pre, rfl, rfl⟩, o, rfl⟩ hn
    have hn := fun o => hn (bare o) ⟨⟨pre ++ [h], by simp, by simp⟩, o, rfl⟩
    simp only [joined_at _ _ _ hl, some_bind', take_last, Jr_cons, List.take_left']
    cases h1 : one pre.getLast? h <;> simp only [Bool.not_false, Bool.not_true, Bool.false_and, Bool.true_and, if_true, if_false, Bool.false_eq_true]
    obtain ⟨hr, hf⟩ := one_ok h1
    have hfr : (h.From != -1) = true := by simp [isNum] at hf; simp; omega
    simp only [take_last, bare_OTC] at hn
    rw [send_eq _ _ _ (clone_bare o), refSend_bare]
    simp only [hr, hf, Bool.and_self, if_true, some_bind', bare_OTC]
    by_cases c1 : o ≠ -1 ∧ h.Role ≠ 0 ∧ h.Role ≠ 1
    · simp only [c1, ne_eq, not_false_eq_true, and_self, if_true]
      simp only [auto]
      obtain ⟨c1, c2, c3⟩ := c1
      by_cases h4 : h.Role = 4 <;> simp [c1, c2, c3, h4]
    · simp only [c1, if_false]
      simp only [bne_self_eq_false, Bool.false_eq_true, if_false, inverse_eq, some_bind']
      rw [receive_eq _ _ _ (clone_bare _), refReceive_bare]
      simp only [isRole_inv hr, hf, Bool.and_self, if_true, some_bind']
      simp only [auto]
      by_cases ho : o = -1
      · rcases isRole_cases hr with e | e | e | e | e <;> simp_all [inv, bare_OTC]
        all_goals rw [show (h.From != -1) = true from by simpa using hfr]
      · rcases isRole_cases hr with e | e | e | e | e <;> simp_all [inv, bare_OTC]
        all_goals rw [show (o != -1) = true from by simpa using ho]

theorem Jr_mem : ∀ (l : List Hop) (p : Option Hop), Jr p l = true → ∀ h ∈ l, isRole h.Role = true ∧ isNum h.From = true
  | [], _, _, h, hh => by simp at hh
  | x :: t, p, hj, h, hh => by
    rw [Jr_cons, Bool.and_eq_true] at hj
    rcases List.mem_cons.1 hh with rfl | hh
    · exact one_ok hj.1
    · exact Jr_mem t _ hj.2 h hh

theorem refTravels_eq (l : List Hop) (hl : l.length ≤ 9223372036854775807) : ref23_Travels l = some (Jr none l && auto false l) := by
  simp only [ref23_Travels, joinP_def, refJoined_eq l hl, some_bind']
  refine (forR_eq (fun rest i a => (∃ pre, l = pre ++ rest) ∧ ∃ o, a = bare o) (fun rest i a => some (Jr none l && auto (a.OTC != -1) rest)) ?_ ?_ l 0 _ ⟨⟨[], rfl⟩, -1, rfl⟩).trans (by simp [bare_OTC])
  · intro i s _; simp [auto]
  · rintro next h t i _ ⟨⟨pre, rfl⟩, o, rfl⟩ hn
    have hn := fun o => hn (bare o) ⟨⟨pre ++ [h], by simp⟩, o, rfl⟩
    cases hj : Jr none (pre ++ h :: t)
    · -- not joined: false in any case
      rw [hj] at hn
      simp only [Bool.false_and] at hn ⊢
      rw [refSend_bare]
      simp only [some_bind']
      split
      · split
        · simp
        · simp only [bne_self_eq_false, Bool.false_eq_true, if_false, refInverse_eq, some_bind', refReceive_bare]
          split
          · generalize (if o = -1 ∧ (h.Role = 0 ∨ h.Role = 1 ∨ h.Role = 4) then h.From else o) = q
            split
            · simp
            · simp only [bne_self_eq_false, Bool.false_eq_true, if_false]
              exact hn _
          · simp
      · simp
    · obtain ⟨hr, hf⟩ := Jr_mem _ _ hj h (by simp)
      have hfr : (h.From != -1) = true := by simp [isNum] at hf; simp; omega
      rw [hj] at hn
      simp only [bare_OTC] at hn
      rw [refSend_bare]
      simp only [hr, hf, Bool.and_self, if_true, some_bind', bare_OTC, Bool.true_and]
      by_cases c1 : o ≠ -1 ∧ h.Role ≠ 0 ∧ h.Role ≠ 1
      · simp only [c1, ne_eq, not_false_eq_true, and_self, if_true]
        simp only [auto]
        obtain ⟨c1, c2, c3⟩ := c1
        by_cases h4 : h.Role = 4 <;> simp [c1, c2, c3, h4]
      · simp only [c1, if_false]
        simp only [bne_self_eq_false, Bool.false_eq_true, if_false, refInverse_eq, some_bind', refReceive_bare]
        simp only [isRole_inv hr, hf, Bool.and_self, if_true, some_bind']
        simp only [auto]
        by_cases ho : o = -1
        · rcases isRole_cases hr with e | e | e | e | e <;> simp_all [inv, bare_OTC]
          all_goals rw [show (h.From != -1) = true from by simpa using hfr]
        · rcases isRole_cases hr with e | e | e | e | e <;> simp_all [inv, bare_OTC]
          all_goals rw [show (o != -1) = true from by simpa using ho]

/-! the reference's other form -/
def down1 (h : Hop) : Bool := h.Role == 3 || h.Role == 2
def down2 (h : Hop) : Bool := h.Role == 0 || h.Role == 1

theorem scan_eq (l : List Hop) (hl : l.length ≤ 9223372036854775806) {ρ : Type} (p : Hop → Bool) (body : (Int → Option ρ) → Int → Option ρ) (k : Int → Option ρ)
    (hb : ∀ (next : Int → Option ρ) (n : Nat) (hn : n < l.length), body next (n : Int) = if p l[n] then next ((n + 1 : Nat) : Int) else k (n : Int)) (he : ∀ next : Int → Option ρ, body next (l.length : Int) = k (l.length : Int)) (n : Nat) (hn : n ≤ l.length) :
    whileR body fuel (n : Int) = k ((n + ((l.drop n).takeWhile p).length : Nat) : Int) := by
  refine (whileR_eq (fun s => ∃ m : Nat, s = (m : Int) ∧ m ≤ l.length) (fun s => l.length - s.toNat) (fun s => k ((s.toNat + ((l.drop s.toNat).takeWhile p).length : Nat) : Int)) ?_ fuel (n : Int) ⟨n, rfl, hn⟩ (lt_fuel (by omega))).trans (by simp)
  rintro next _ ⟨m, rfl, hm⟩ hnx
  by_cases e : m = l.length
  · subst e; rw [he]; simp
  · have hlt : m < l.length := by omega
    rw [hb next m hlt]
    simp only [Int.toNat_natCast]
    rw [List.drop_eq_getElem_cons hlt, List.takeWhile_cons]
    split
    · rw [hnx _ ⟨m + 1, rfl, hlt⟩ (by simp; omega)]
      simp only [Int.toNat_natCast, List.length_cons]
      congr 2
      omega
    · simp

theorem auto_true (t : List Hop) (hr : ∀ h ∈ t, isRole h.Role = true) : auto true t = t.all down2 := by
  induction t with
  | nil => rfl
  | cons h t ih =>
    have := ih fun x hx => hr x (by simp [hx])
    simp only [auto, List.all_cons, down2, this]
    rcases isRole_cases (hr h (by simp)) with e | e | e | e | e <;> simp [e]

theorem auto_false (l : List Hop) (hr : ∀ h ∈ l, isRole h.Role = true) : auto false l = auto false (l.dropWhile down1) := by
  induction l with
  | nil => rfl
  | cons h t ih =>
    have := ih fun x hx => hr x (by simp [hx])
    simp only [List.dropWhile_cons, down1]
    rcases isRole_cases (hr h (by simp)) with e | e | e | e | e <;> simp [e, auto, this, down1]

theorem drop_takeWhile (p : Hop → Bool) (l : List Hop) : l.drop (l.takeWhile p).length = l.dropWhile p := by
  induction l with
  | nil => rfl
  | cons h t ih => simp only [List.takeWhile_cons, List.dropWhile_cons]; split <;> simp [ih]

theorem all_takeWhile (p : Hop → Bool) (l : List Hop) : (l.takeWhile p).length = l.length ↔ l.all p = true := by
  induction l with
  | nil => simp
  | cons h t ih => simp only [List.takeWhile_cons, List.all_cons]; split <;> simp_all

theorem join_scan (l : List Hop) (hl : l.length ≤ 9223372036854775806) {ρ : Type} (p : Hop → Bool) (B : (Int → Option ρ) → (Int → Option ρ) → Int → Option ρ) (K : Int → Option ρ) (s : Int) (n : Nat) (hs : s = (n : Int)) (hn : n ≤ l.length)
    (hb : ∀ (k next : Int → Option ρ) (n : Nat) (hn : n < l.length), B k next (n : Int) = if p l[n] then next ((n + 1 : Nat) : Int) else k (n : Int)) (he : ∀ k next : Int → Option ρ, B k next (l.length : Int) = k (l.length : Int)) :
    joinP (fun k => whileR (B k) fuel s) K = K ((n + ((l.drop n).takeWhile p).length : Nat) : Int) := by
  subst hs
  exact scan_eq l hl p (B K) K (hb K) (he K) n hn

theorem refValley_eq (l : List Hop) (hl : l.length ≤ 9223372036854775806) : ref23_Valley l = some (Jr none l && auto false l) := by
  unfold ref23_Valley
  rw [join_scan l hl down1 _ _ 0 0 rfl (by omega) ?hb ?he]
  case hb =>
    intro k next n hn
    have : (n : Int) < l.length := by omega
    simp only [joinP_def, this, decide_true, if_true, geti_nat hn, some_bind', down1]
    rw [i64w_id (by omega)]
    by_cases c3 : l[n].Role = 3 <;> by_cases c2 : l[n].Role = 2 <;> simp [c3, c2]
  case he => intro k next; simp [joinP_def]
  simp only [Nat.zero_add, List.drop_zero]
  have hle := (List.takeWhile_prefix (p := down1) (l := l)).length_le
  have hd := drop_takeWhile down1 l
  generalize (l.takeWhile down1).length = c1 at hle hd
  -- the peer in the middle
  have mid : ∀ (n2 : Nat), n2 ≤ l.length → joinP (τ := Int) (fun k117 =>
      whileR (σ := Int) (fun next142 v139 =>
        joinP (τ := Bool) (fun k148 =>
          if (decide (v139 < (l.length : Int))) then
            Option.bind (geti l v139) fun v149 =>
            if (v149.Role == 0) then
              k148 true
            else
              Option.bind (geti l v139) fun v151 =>
              k148 (v151.Role == 1)
          else
            k148 false
        ) fun v147 =>
        if v147 then
          next142 (i64w (v139 + 1))
        else
          k117 v139
      ) fuel (n2 : Int)) (fun v116 =>
      joinP (τ := Bool) (fun k156 =>
        if (v116 == (l.length : Int)) then
          Option.bind (ref23_joined l) fun v157 =>
          k156 v157
        else
          k156 false
      ) fun v155 =>
      some v155) = some (Jr none l && (l.drop n2).all down2) := by
    intro n2 h2
    rw [join_scan l hl down2 _ _ (n2 : Int) n2 rfl h2 ?hb ?he]
    case hb =>
      intro k next n hn
      have : (n : Int) < l.length := by omega
      simp only [joinP_def, this, decide_true, if_true, geti_nat hn, some_bind', down2]
      rw [i64w_id (by omega)]
      by_cases c3 : l[n].Role = 0 <;> by_cases c2 : l[n].Role = 1 <;> simp [c3, c2]
    case he => intro k next; simp [joinP_def]
    have e := all_takeWhile down2 (l.drop n2)
    simp only [List.length_drop] at e
    simp only [joinP_def, refJoined_eq l (by omega), some_bind']
    cases ha : (l.drop n2).all down2
    · have : ¬ ((n2 + ((l.drop n2).takeWhile down2).length : Nat) : Int) = (l.length : Int) := by
        intro h
        rw [ha] at e
        have := e.1 (by omega)
        simp at this
      simp only [beq_eq_false_iff_ne.2 this, Bool.false_eq_true, if_false, Bool.and_false]
    · have := e.2 ha
      have : ((n2 + ((l.drop n2).takeWhile down2).length : Nat) : Int) = (l.length : Int) := by omega
      simp [this]
  rw [joinP_def]
  cases hJ : Jr none l
  · -- not joined: false whatever comes
    simp only [hJ, Bool.false_and] at mid ⊢
    by_cases hlt : c1 < l.length
    · have : (c1 : Int) < l.length := by omega
      simp only [this, decide_true, if_true, geti_nat hlt, some_bind']
      rw [joinP_def]
      split
      · rw [i64w_id (by omega)]
        exact mid (c1 + 1) (by omega)
      · exact mid c1 hle
    · have : ¬ (c1 : Int) < l.length := by omega
      simp only [this, decide_false, if_false, Bool.false_eq_true]
      rw [joinP_def]
      exact mid c1 hle
  · have hr : ∀ h ∈ l, isRole h.Role = true := fun h hh => (Jr_mem l none hJ h hh).1
    rw [auto_false l hr, ← hd]
    simp only [hJ, Bool.true_and] at mid ⊢
    by_cases hlt : c1 < l.length
    · have : (c1 : Int) < l.length := by omega
      have hdr := List.drop_eq_getElem_cons hlt
      have hrd : ∀ h ∈ l.drop (c1 + 1), isRole h.Role = true := fun h hh => hr h (List.mem_of_mem_drop hh)
      have hx := hr l[c1] (List.getElem_mem hlt)
      have hnd : down1 l[c1] = false := by
        have := List.head?_dropWhile_not down1 l
        rw [← hd, hdr] at this
        simp only [List.head?_cons] at this
        exact this
      simp only [this, decide_true, if_true, geti_nat hlt, some_bind']
      rw [joinP_def, hdr]
      simp only [down1] at hnd
      split
      · rename_i h4
        have h4 : l[c1].Role = 4 := by simpa using h4
        rw [i64w_id (by omega)]
        refine (mid (c1 + 1) (by omega)).trans ?_
        simp [auto, h4, auto_true _ hrd]
      · rename_i h4
        refine (mid c1 hle).trans ?_
        rw [hdr]
        have hat := auto_true _ hrd
        clear hr hrd hd hdr mid hJ
        simp only [auto, List.all_cons, down2, hat]
        rcases isRole_cases hx with e | e | e | e | e <;> simp [e] at h4 hnd ⊢
    · have : ¬ (c1 : Int) < l.length := by omega
      simp only [this, decide_false, if_false, Bool.false_eq_true]
      rw [joinP_def]
      refine (mid c1 hle).trans ?_
      have : l.drop c1 = [] := List.drop_eq_nil_of_le (by omega)
      simp [this, auto]
end Go.AX.Q23
