/-
  Plain laws on open messages: two sides that meet.
-/
import Derived.Test.YtikcogmkchljaaaL32I
namespace Go.AX.Q32
open Go Go.AX

def ka : Message := ⟨4, []⟩
def after (s : Session) (ms : List Message) (t : Int) : Session := if ms = [] then s else { s with State := 3, Heard := t }

def recvBody (t : Int) (next : Session × List Message → Option Bool) (x : Message) (_ : Nat) (st : Session × List Message) : Option Bool :=
  (session_Receive st.1 x t).bind fun r => if (r.2.2 != 0) = true then some false else (apnd (α := Message) 32 st.2 r.2.1).bind fun q => next (r.1, q)

theorem procKA (done : Session × List Message → Option Bool) (s : Session) (ms : List Message) (t : Int) (hm : ∀ m ∈ ms, m = ka) (hs : s.State = 2 ∨ s.State = 3) (h0 : 0 ≤ t ∧ t ≤ 1073741824) (hh : s.Heard ≤ t) :
    forR done (recvBody t) ms 0 (s, []) = done (after s ms t, []) := by
  refine forR_eq (fun (rest : List Message) (_ : Nat) (st : Session × List Message) => (∀ m ∈ rest, m = ka) ∧ st.2 = [] ∧ (st.1.State = 2 ∨ st.1.State = 3) ∧ st.1.Heard ≤ t) (fun (rest : List Message) (_ : Nat) (st : Session × List Message) => done (after st.1 rest t, [])) ?_ ?_ ms 0 (s, []) ⟨hm, rfl, hs, hh⟩
  · rintro i ⟨s, q⟩ ⟨_, h2, _⟩
    simp only at h2
    subst h2; rfl
  · rintro next x rest i ⟨s, q⟩ ⟨h1, h2, h3, h4⟩ hn
    simp only at h2 h3 h4
    subst h2
    have hx : x = ⟨4, []⟩ := h1 x (by simp)
    subst hx
    have ha : apnd (α := Message) 32 [] [] = some [] := rfl
    simp only [recvBody, recvKA s t h3 h0 h4, some_bind', bne_self_eq_false, Bool.false_eq_true, if_false, ha]
    rw [hn _ ⟨fun m hm => h1 m (by simp [hm]), rfl, Or.inr rfl, Int.le_refl _⟩]
    simp only [after]
    by_cases hr : rest = [] <;> simp [hr]

theorem procOpen (done : Session × List Message → Option Bool) (s : Session) (o : Open) (t : Int) (hs : s.State = 1) (h0 : 0 ≤ t ∧ t ≤ 1073741824) (hh : s.Heard ≤ t) (ho : okO o = true) (ha : o.ASN = s.ASN) (hr : s.Mine.Role = -1 ∨ o.Role = -1 ∨ fits s.Mine.Role o.Role = true) :
    forR done (recvBody t) [⟨1, enc o⟩] 0 (s, []) = done (⟨2, s.Mine, s.ASN, o, t, t⟩, [ka]) := by
  have hp : apnd (α := Message) 32 [] [⟨4, []⟩] = some [ka] := rfl
  simp only [forR, recvBody, recvOpen s o t hs h0 hh ho ha hr, some_bind', bne_self_eq_false, Bool.false_eq_true, if_false, hp]

def holdf (a b : Int) : Int := if a = 0 ∨ (b ≠ 0 ∧ b < a) then b else a
theorem hold_f (s : Session) : hold s = holdf s.Mine.Hold s.Theirs.Hold := rfl
theorem holdf_comm (a b : Int) : holdf a b = holdf b a := by
  unfold holdf
  split <;> split <;> omega

structure Inv (oa ob : Open) (H : Int) (AB BA : List Message) (t i : Int) (A B : Session) : Prop where
  i1 : 1 ≤ i
  t1 : t = 3 + i
  ab : ∀ m ∈ AB, m = ka
  ba : ∀ m ∈ BA, m = ka
  am : A.Mine = oa
  at_ : A.Theirs = ob
  bm : B.Mine = ob
  bt : B.Theirs = oa
  sa : A.State = 2 ∨ A.State = 3
  sb : B.State = 2 ∨ B.State = 3
  one : i = 1 → AB ≠ [] ∧ BA ≠ []
  two : 2 ≤ i → A.State = 3 ∧ B.State = 3
  ha : 0 ≤ A.Heard ∧ A.Heard ≤ t
  hb : 0 ≤ B.Heard ∧ B.Heard ≤ t
  na : 0 ≤ A.Sent ∧ A.Sent ≤ t
  nb : 0 ≤ B.Sent ∧ B.Sent ≤ t
  cab : AB ≠ [] ∨ A.Sent ≤ B.Heard
  cba : BA ≠ [] ∨ B.Sent ≤ A.Heard
  ta : H = 0 ∨ A.Sent = t ∨ t - A.Sent < H / 3
  tb : H = 0 ∨ B.Sent = t ∨ t - B.Sent < H / 3

def round (N : Int) (next : (List Message) × (List Message) × Int × Int × Session × Session → Option Bool) (t i : Int) (A B : Session) (oA oB : List Message) : Option Bool :=
  (session_Tick A (i64w (t + 1))).bind fun x =>
  (apnd (α := Message) 32 oA x.2).bind fun p =>
  (session_Tick B (i64w (t + 1))).bind fun y =>
  (apnd (α := Message) 32 oB y.2).bind fun q =>
  joinP (τ := Bool) (fun k2765 =>
              if (decide (i ≥ 2)) then
                if (x.1.State != 3) then
                  k2765 true
                else
                  if (y.1.State != 3) then
                    k2765 true
                  else
                    Option.bind (session_Hold x.1) fun v2766 =>
                    Option.bind (session_Hold y.1) fun v2768 =>
                    k2765 (v2766 != v2768)
              else
                k2765 false
            ) fun v2764 =>
            if v2764 then
              some false
            else next (p, q, i64w (t + 1), i64w (i + 1), x.1, y.1)

/-- the second half of a round -/
theorem round_ok {oa ob : Open} {H : Int} (eH : holdf oa.Hold ob.Hold = H) (hH : H = 0 ∨ 3 ≤ H ∧ H ≤ 65535) (N : Int) (next : (List Message) × (List Message) × Int × Int × Session × Session → Option Bool)
    (t i : Int) (A B : Session) (oA oB : List Message) (i0 : 0 ≤ i) (i9 : i ≤ 1000) (ht : t = 3 + i) (am : A.Mine = oa) (at_ : A.Theirs = ob) (bm : B.Mine = ob) (bt : B.Theirs = oa)
    (sa : A.State = 2 ∨ A.State = 3) (sb : B.State = 2 ∨ B.State = 3) (s1 : 1 ≤ i → A.State = 3 ∧ B.State = 3) (ha : 0 ≤ A.Heard ∧ A.Heard ≤ t) (hb : 0 ≤ B.Heard ∧ B.Heard ≤ t) (na : 0 ≤ A.Sent ∧ A.Sent ≤ t) (nb : 0 ≤ B.Sent ∧ B.Sent ≤ t)
    (la : oA = [] ∨ oA = [ka]) (lb : oB = [] ∨ oB = [ka]) (l0 : i = 0 → oA = [ka] ∧ oB = [ka]) (cab : oA ≠ [] ∨ A.Sent ≤ B.Heard) (cba : oB ≠ [] ∨ B.Sent ≤ A.Heard)
    (da : H = 0 ∨ t + 1 - A.Heard < H) (db : H = 0 ∨ t + 1 - B.Heard < H)
    (hn : ∀ AB BA A' B', Inv oa ob H AB BA (t + 1) (i + 1) A' B' → next (AB, BA, t + 1, i + 1, A', B') = some true) : round N next t i A B oA oB = some true := by
  have e1 : i64w (t + 1) = t + 1 := i64w_id (by omega)
  have e2 : i64w (i + 1) = i + 1 := i64w_id (by omega)
  have hA : hold A = H := by rw [hold_f, am, at_, eH]
  have hB : hold B = H := by rw [hold_f, bm, bt, holdf_comm, eH]
  have tA := tickL A (t + 1) sa (by omega) (by omega) (by omega) (by omega) (by omega) (by rw [hA]; omega)
  have tB := tickL B (t + 1) sb (by omega) (by omega) (by omega) (by omega) (by omega) (by rw [hB]; omega)
  rw [hA] at tA
  rw [hB] at tB
  have a0 : ∀ x y : List Message, (x = [] ∨ x = [ka]) → (y = [] ∨ y = [ka]) → apnd (α := Message) 32 x y = some (x ++ y) := by
    intro x y hx hy
    apply apnd_some rfl
    rcases hx with rfl | rfl <;> rcases hy with rfl | rfl <;> simp
  obtain ⟨A', mA, eA, pA⟩ : ∃ A' mA, (if H ≠ 0 ∧ t + 1 - A.Sent ≥ H / 3 then (({ A with Sent := t + 1 } : Session), [(⟨4, []⟩ : Message)]) else (A, [])) = (A', mA) ∧
      ((mA = [ka] ∧ A' = { A with Sent := t + 1 }) ∨ (mA = [] ∧ A' = A ∧ (H = 0 ∨ t + 1 - A.Sent < H / 3))) := by
    split
    · exact ⟨_, _, rfl, Or.inl ⟨rfl, rfl⟩⟩
    · exact ⟨_, _, rfl, Or.inr ⟨rfl, rfl, by omega⟩⟩
  obtain ⟨B', mB, eB, pB⟩ : ∃ B' mB, (if H ≠ 0 ∧ t + 1 - B.Sent ≥ H / 3 then (({ B with Sent := t + 1 } : Session), [(⟨4, []⟩ : Message)]) else (B, [])) = (B', mB) ∧
      ((mB = [ka] ∧ B' = { B with Sent := t + 1 }) ∨ (mB = [] ∧ B' = B ∧ (H = 0 ∨ t + 1 - B.Sent < H / 3))) := by
    split
    · exact ⟨_, _, rfl, Or.inl ⟨rfl, rfl⟩⟩
    · exact ⟨_, _, rfl, Or.inr ⟨rfl, rfl, by omega⟩⟩
  have qA : mA = [] ∨ mA = [ka] := by rcases pA with ⟨h, _⟩ | ⟨h, _⟩ <;> simp [h]
  have qB : mB = [] ∨ mB = [ka] := by rcases pB with ⟨h, _⟩ | ⟨h, _⟩ <;> simp [h]
  have fA : A'.Mine = oa ∧ A'.Theirs = ob ∧ A'.State = A.State ∧ A'.Heard = A.Heard ∧ 0 ≤ A'.Sent ∧ A'.Sent ≤ t + 1 ∧ (oA ++ mA ≠ [] ∨ A'.Sent ≤ B.Heard) ∧ (H = 0 ∨ A'.Sent = t + 1 ∨ t + 1 - A'.Sent < H / 3) := by
    rcases pA with ⟨h1, h2⟩ | ⟨h1, h2, h3⟩
    · subst h2; subst h1
      exact ⟨am, at_, rfl, rfl, by simp only; omega, by simp only; omega, Or.inl (by simp), Or.inr (Or.inl rfl)⟩
    · subst h2; subst h1
      exact ⟨am, at_, rfl, rfl, by omega, by omega, by rw [List.append_nil]; exact cab, by omega⟩
  have fB : B'.Mine = ob ∧ B'.Theirs = oa ∧ B'.State = B.State ∧ B'.Heard = B.Heard ∧ 0 ≤ B'.Sent ∧ B'.Sent ≤ t + 1 ∧ (oB ++ mB ≠ [] ∨ B'.Sent ≤ A.Heard) ∧ (H = 0 ∨ B'.Sent = t + 1 ∨ t + 1 - B'.Sent < H / 3) := by
    rcases pB with ⟨h1, h2⟩ | ⟨h1, h2, h3⟩
    · subst h2; subst h1
      exact ⟨bm, bt, rfl, rfl, by simp only; omega, by simp only; omega, Or.inl (by simp), Or.inr (Or.inl rfl)⟩
    · subst h2; subst h1
      exact ⟨bm, bt, rfl, rfl, by omega, by omega, by rw [List.append_nil]; exact cba, by omega⟩
  obtain ⟨g1, g2, g3, g4, g5, g6, g7, g8⟩ := fA
  obtain ⟨w1, w2, w3, w4, w5, w6, w7, w8⟩ := fB
  have hA' : hold A' = H := by rw [hold_f, g1, g2, eH]
  have hB' : hold B' = H := by rw [hold_f, w1, w2, holdf_comm, eH]
  have kas : ∀ x y : List Message, (x = [] ∨ x = [ka]) → (y = [] ∨ y = [ka]) → ∀ m ∈ x ++ y, m = ka := by
    intro x y hx hy m hm
    rcases hx with rfl | rfl <;> rcases hy with rfl | rfl <;> simp at hm <;> exact hm
  simp only [round, e1, e2, tA, tB, eA, eB, some_bind', a0 _ _ la qA, a0 _ _ lb qB, hold_eq, hA', hB', joinP_def, bne_self_eq_false, Bool.false_eq_true, if_false]
  have hnx := hn (oA ++ mA) (oB ++ mB) A' B' ⟨by omega, by omega, kas _ _ la qA, kas _ _ lb qB, g1, g2, w1, w2, by rw [g3]; exact sa, by rw [w3]; exact sb,
    fun h => by have := l0 (by omega); rw [this.1, this.2]; simp, fun h => by rw [g3, w3]; exact s1 (by omega), by rw [g4]; omega, by rw [w4]; omega, ⟨g5, g6⟩, ⟨w5, w6⟩, by rw [w4]; exact g7, by rw [g4]; exact w7, g8, w8⟩
  by_cases h2 : i ≥ 2
  · have := s1 (by omega)
    simp [h2, g3, w3, this.1, this.2, hnx]
  · simp [h2, hnx]

theorem meets_core (oa ob : Open) (a2 : Int) (ha : okO oa = true) (hb : okO ob = true) (ea : oa.ASN = 101) (eb : ob.ASN = 102)
    (f1 : oa.Role = -1 ∨ ob.Role = -1 ∨ fits oa.Role ob.Role = true) (f2 : ob.Role = -1 ∨ oa.Role = -1 ∨ fits ob.Role oa.Role = true) :
  (Option.bind (session_Start (⟨0, oa, 102, (⟨0, 0, 0, 0, 0, false⟩ : Open), 0, 0⟩ : Session) 3) fun (v23, v24, v25) =>
  Option.bind (session_Start (⟨0, ob, 101, (⟨0, 0, 0, 0, 0, false⟩ : Open), 0, 0⟩ : Session) 3) fun (v27, v28, v29) =>
  joinP (τ := Bool) (fun k32 =>
    if (v25 != 0) then
      k32 true
    else
      k32 (v29 != 0)
  ) fun v31 =>
  if v31 then
    some false
  else
    joinP (τ := Unit) (fun k1401 =>
      whileR (σ := (List Message) × (List Message) × Int × Int × Session × Session) (fun next2318 (v2310, v2311, v2312, v2313, v2314, v2315) =>
        Option.bind (mill_Mod a2 40) fun v2319 =>
        if (decide (v2313 < (i64w (6 + v2319)))) then
          joinP (τ := Session × (List Message) × Session × (List Message)) (fun k2547 =>
            joinP (τ := Session × (List Message)) (fun k2599 =>
              forR (σ := Session × (List Message)) (fun (v2630, v2631) =>
                k2599 (v2630, v2631)
              ) (fun next2636 x2633 i2632 (v2630, v2631) =>
                Option.bind (session_Receive v2630 x2633 v2312) fun (v2643, v2644, v2645) =>
                if (v2645 != 0) then
                  some false
                else
                  Option.bind (apnd (α := Message) 32 v2631 v2644) fun v2647 =>
                  next2636 (v2643, v2647)
              ) v2310 0 (v2315, [])
            ) fun (v2597, v2598) =>
            joinP (τ := Session × (List Message)) (fun k2700 =>
              forR (σ := Session × (List Message)) (fun (v2731, v2732) =>
                k2700 (v2731, v2732)
              ) (fun next2737 x2734 i2733 (v2731, v2732) =>
                Option.bind (session_Receive v2731 x2734 v2312) fun (v2744, v2745, v2746) =>
                if (v2746 != 0) then
                  some false
                else
                  Option.bind (apnd (α := Message) 32 v2732 v2745) fun v2748 =>
                  next2737 (v2744, v2748)
              ) v2311 0 (v2314, [])
            ) fun (v2698, v2699) =>
            Option.bind (session_Tick v2698 (i64w (v2312 + 1))) fun (v2750, v2751) =>
            Option.bind (apnd (α := Message) 32 v2699 v2751) fun v2753 =>
            Option.bind (session_Tick v2597 (i64w (v2312 + 1))) fun (v2755, v2756) =>
            Option.bind (apnd (α := Message) 32 v2598 v2756) fun v2758 =>
            joinP (τ := Bool) (fun k2765 =>
              if (decide (v2313 ≥ 2)) then
                if (v2750.State != 3) then
                  k2765 true
                else
                  if (v2755.State != 3) then
                    k2765 true
                  else
                    Option.bind (session_Hold v2750) fun v2766 =>
                    Option.bind (session_Hold v2755) fun v2768 =>
                    k2765 (v2766 != v2768)
              else
                k2765 false
            ) fun v2764 =>
            if v2764 then
              some false
            else
              k2547 (v2750, v2753, v2755, v2758)
          ) fun (v2543, v2544, v2545, v2546) =>
          next2318 (v2544, v2546, (i64w (v2312 + 1)), (i64w (v2313 + 1)), v2543, v2545)
        else
          k1401 ()
      ) fuel (v24, v28, 3, 0, v23, v27)
    ) fun _ =>
    Option.bind (law32_awake) fun v2770 =>
    some v2770) = some true := by
  have sA : start (⟨0, oa, 102, (⟨0, 0, 0, 0, 0, false⟩ : Open), 0, 0⟩ : Session) 3 = (⟨1, oa, 102, noOpen, 3, 3⟩, [⟨1, enc oa⟩], 0) := by simp [start, ha]
  have sB : start (⟨0, ob, 101, (⟨0, 0, 0, 0, 0, false⟩ : Open), 0, 0⟩ : Session) 3 = (⟨1, ob, 101, noOpen, 3, 3⟩, [⟨1, enc ob⟩], 0) := by simp [start, hb]
  have hva := of_decide_eq_true ha
  have hvb := of_decide_eq_true hb
  have hg := gomod_range a2 (n := 40) (by decide)
  have eN : i64w (6 + gomod a2 40) = 6 + gomod a2 40 := i64w_id (by omega)
  have hH : holdf oa.Hold ob.Hold = 0 ∨ 3 ≤ holdf oa.Hold ob.Hold ∧ holdf oa.Hold ob.Hold ≤ 65535 := by
    unfold holdf
    split <;> omega
  generalize eH : holdf oa.Hold ob.Hold = H at hH
  simp only [start_eq, sA, sB, some_bind', joinP_ite, joinP_id, bne_self_eq_false, Bool.false_eq_true, if_false]
  rw [joinP_def]
  refine whileR_eq (fun st : (List Message) × (List Message) × Int × Int × Session × Session => st = ([⟨1, enc oa⟩], [⟨1, enc ob⟩], 3, 0, ⟨1, oa, 102, noOpen, 3, 3⟩, ⟨1, ob, 101, noOpen, 3, 3⟩) ∨ (st.2.2.2.1 ≤ 6 + gomod a2 40 ∧ Inv oa ob H st.1 st.2.1 st.2.2.1 st.2.2.2.1 st.2.2.2.2.1 st.2.2.2.2.2))
    (fun st => (6 + gomod a2 40 - st.2.2.2.1).toNat) (fun _ => some true) ?_ fuel _ (Or.inl rfl) (lt_fuel (by simp only; omega))
  rintro next ⟨AB, BA, t, i, A, B⟩ hP hn
  simp only at hP hn ⊢
  simp only [mod_eq _ _ (show (0 : Int) < 40 by decide) (show (40 : Int) ≤ 9223372036854775807 by decide), some_bind', eN]
  have hn2 : 0 ≤ i → i < 6 + gomod a2 40 → ∀ AB BA A' B', Inv oa ob H AB BA (t + 1) (i + 1) A' B' → next (AB, BA, t + 1, i + 1, A', B') = some true := by
    intro h0 h1 AB BA A' B' h
    exact hn _ (Or.inr ⟨by simp only; omega, h⟩) (by simp only; omega)
  by_cases hi : i < 6 + gomod a2 40
  case neg =>
    rw [if_neg (by simpa using hi), awake_eq]; rfl
  rw [if_pos (by simpa using hi)]
  rcases hP with hP | ⟨_, hI⟩
  · simp only [Prod.mk.injEq] at hP
    obtain ⟨rfl, rfl, rfl, rfl, rfl, rfl⟩ := hP
    have pB := fun done => procOpen done (⟨1, ob, 101, noOpen, 3, 3⟩ : Session) oa 3 rfl (by decide) (Int.le_refl _) ha (by simp only; omega) f2
    have pA := fun done => procOpen done (⟨1, oa, 102, noOpen, 3, 3⟩ : Session) ob 3 rfl (by decide) (Int.le_refl _) hb (by simp only; omega) f1
    simp only at pA pB
    have hr := round_ok eH hH (6 + gomod a2 40) next 3 0 (⟨2, oa, 102, ob, 3, 3⟩ : Session) (⟨2, ob, 101, oa, 3, 3⟩ : Session) [ka] [ka] (by decide) (by decide) rfl rfl rfl rfl rfl (Or.inl rfl) (Or.inl rfl) (fun h => absurd h (by decide)) ⟨by simp, Int.le_refl _⟩ ⟨by simp, Int.le_refl _⟩ ⟨by simp, Int.le_refl _⟩ ⟨by simp, Int.le_refl _⟩ (Or.inr rfl) (Or.inr rfl) (fun _ => ⟨rfl, rfl⟩) (Or.inl (by simp)) (Or.inl (by simp)) (by simp only; omega) (by simp only; omega) (hn2 (by decide) hi)
    refine Eq.trans ?_ hr
    refine (pB _).trans ?_
    refine (pA _).trans ?_
    rfl
  · have h1 := hI.i1
    have ht := hI.t1
    have pB := fun done => procKA done B AB t hI.ab hI.sb (by omega) hI.hb.2
    have pA := fun done => procKA done A BA t hI.ba hI.sa (by omega) hI.ha.2
    have aA : (after A BA t).Mine = A.Mine ∧ (after A BA t).Theirs = A.Theirs ∧ (after A BA t).Sent = A.Sent ∧ ((after A BA t).State = 2 ∨ (after A BA t).State = 3) ∧ (BA ≠ [] → (after A BA t).State = 3 ∧ (after A BA t).Heard = t) ∧ (BA = [] → (after A BA t).State = A.State ∧ (after A BA t).Heard = A.Heard) := by
      have := hI.sa
      unfold after
      split
      · rename_i h; exact ⟨rfl, rfl, rfl, this, fun c => absurd h c, fun _ => ⟨rfl, rfl⟩⟩
      · rename_i h; exact ⟨rfl, rfl, rfl, Or.inr rfl, fun _ => ⟨rfl, rfl⟩, fun c => absurd c h⟩
    have aB : (after B AB t).Mine = B.Mine ∧ (after B AB t).Theirs = B.Theirs ∧ (after B AB t).Sent = B.Sent ∧ ((after B AB t).State = 2 ∨ (after B AB t).State = 3) ∧ (AB ≠ [] → (after B AB t).State = 3 ∧ (after B AB t).Heard = t) ∧ (AB = [] → (after B AB t).State = B.State ∧ (after B AB t).Heard = B.Heard) := by
      have := hI.sb
      unfold after
      split
      · rename_i h; exact ⟨rfl, rfl, rfl, this, fun c => absurd h c, fun _ => ⟨rfl, rfl⟩⟩
      · rename_i h; exact ⟨rfl, rfl, rfl, Or.inr rfl, fun _ => ⟨rfl, rfl⟩, fun c => absurd c h⟩
    obtain ⟨a1, a2', a3, a4, a5, a6⟩ := aA
    obtain ⟨b1, b2, b3, b4, b5, b6⟩ := aB
    have hHa := hI.ha
    have hHb := hI.hb
    have hNa := hI.na
    have hNb := hI.nb
    have hTa := hI.ta
    have hTb := hI.tb
    have cA : 0 ≤ (after A BA t).Heard ∧ (after A BA t).Heard ≤ t ∧ B.Sent ≤ (after A BA t).Heard := by
      by_cases c : BA = []
      · rw [(a6 c).2]
        have := hI.cba
        rcases this with h | h
        · exact absurd c h
        · omega
      · rw [(a5 c).2]; omega
    have cB : 0 ≤ (after B AB t).Heard ∧ (after B AB t).Heard ≤ t ∧ A.Sent ≤ (after B AB t).Heard := by
      by_cases c : AB = []
      · rw [(b6 c).2]
        have := hI.cab
        rcases this with h | h
        · exact absurd c h
        · omega
      · rw [(b5 c).2]; omega
    have st3 : (after A BA t).State = 3 ∧ (after B AB t).State = 3 := by
      by_cases c : i = 1
      · have := hI.one c
        exact ⟨(a5 this.2).1, (b5 this.1).1⟩
      · have := hI.two (by omega)
        constructor
        · by_cases c : BA = []
          · rw [(a6 c).1]; exact this.1
          · exact (a5 c).1
        · by_cases c : AB = []
          · rw [(b6 c).1]; exact this.2
          · exact (b5 c).1
    have hr := round_ok eH hH (6 + gomod a2 40) next t i (after A BA t) (after B AB t) [] [] (by omega) (by omega) ht (by rw [a1, hI.am]) (by rw [a2', hI.at_]) (by rw [b1, hI.bm]) (by rw [b2, hI.bt]) a4 b4 (fun _ => st3) ⟨cA.1, cA.2.1⟩ ⟨cB.1, cB.2.1⟩ (by rw [a3]; exact hNa) (by rw [b3]; exact hNb) (Or.inl rfl) (Or.inl rfl) (fun h => by omega) (Or.inr (by rw [a3]; exact cB.2.2)) (Or.inr (by rw [b3]; exact cA.2.2)) (by omega) (by omega) (hn2 (by omega) hi)
    refine Eq.trans ?_ hr
    refine (pB _).trans ?_
    refine (pA _).trans ?_
    rfl

theorem sessionMeets (l : List Int) (a b : Int) (hl : l.length ≤ 9223372036854775807) : law32_SessionMeets l a b = some true := by
  unfold law32_SessionMeets
  have hn : mill_New l = some ⟨l, 0⟩ := rfl
  obtain ⟨o, d1, e1, k1, x1⟩ := open_ok (l := l) (d := ⟨l, 0⟩) ⟨rfl, by simp, hl⟩ 101
  obtain ⟨p, d2, e2, k2, x2⟩ := open_ok k1 102
  obtain ⟨c, d3, e3, c1, c2, k3⟩ := next_ok k2 6
  have hg := gomod_range a (n := 6) (by decide)
  have er : i64w (gomod a 6 - 1) = gomod a 6 - 1 := i64w_id (by omega)
  have ec : i64w (c - 1) = c - 1 := i64w_id (by omega)
  simp only [hn, e1, e2, some_bind', mod_eq _ _ (show (0 : Int) < 6 by decide) (show (6 : Int) ≤ 9223372036854775807 by decide), er]
  generalize hr : gomod a 6 - 1 = r
  have hr6 : r = -1 ∨ r = 0 ∨ r = 1 ∨ r = 2 ∨ r = 3 ∨ r = 4 := by omega
  have core : ∀ rB : Int, -1 ≤ rB → rB ≤ 4 → (r = -1 ∨ rB = -1 ∨ fits r rB = true) → (rB = -1 ∨ r = -1 ∨ fits rB r = true) → _ = some true := fun rB h1 h2 f1 f2 =>
    meets_core { o with Role := r } { p with Role := rB } b (decide_eq_true (by simp only; omega)) (decide_eq_true (by simp only; omega)) (by simp only; omega) (by simp only; omega) f1 f2
  have hz : ∃ z, law32_ref0 (gomod r 6) = some z ∧ (r ≠ -1 → z = inv r) := by
    rcases hr6 with h | h | h | h | h | h <;> subst h <;> exact ⟨_, rfl, by decide⟩
  obtain ⟨z, z1, z2⟩ := hz
  rw [z1, some_bind', joinP_def]
  split
  · rename_i h
    have hr1 : r = -1 := by simpa using h
    rw [e3, some_bind']
    simp only [ec]
    exact core (c - 1) (by omega) (by omega) (Or.inl hr1) (Or.inr (Or.inl hr1))
  · rename_i h
    have hr1 : r ≠ -1 := by simpa using h
    have hz := z2 hr1
    refine core z ?_ ?_ ?_ ?_
    all_goals (rcases hr6 with h | h | h | h | h | h <;> first | exact absurd h hr1 | (subst h; subst hz; decide))

theorem sessionMeetsW (l : List Int) (a b : Int) (h : l.length ≤ maxLen ∧ ∀ a ∈ l, I64 a) (_ : I64 a) (_ : I64 b) : law32_SessionMeets l a b = some true := sessionMeets l a b h.1
end Go.AX.Q32
