/-
  Plain laws on open messages: reading, the reference's capabilities.
-/
import Derived.Test.YtikcogmkchljaaaL32B
namespace Go.AX.Q32
open Go Go.AX

/-- an open with what was found -/
def mk (o : Open) (s : St) : Open := ⟨s.num.getD o.ASN, o.ID, o.Hold, s.role.getD o.Role,
  (match s.rest with | none => o.Grace | some r => i64w ((BitVec.ofInt 64 r &&& BitVec.ofInt 64 4095).toNat : Int)),
  (match s.rest with | none => o.Again | some r => (Int.fdiv r (2 ^ (min (Int.toNat 15) 64))) == 1)⟩

structure Rel (o0 : Open) (s : St) (o : Open) (m : List (UInt8 × Bool)) : Prop where
  eo : o = mk o0 s
  e9 : (mget m 9).getD false = s.role.isSome
  e64 : (mget m 64).getD false = s.rest.isSome
  e65 : (mget m 65).getD false = s.num.isSome

theorem step9 {o0 o : Open} {s : St} {m : List (UInt8 × Bool)} (h : Rel o0 s o m) (p : List UInt8) :
    (((p.length : Int) == 1) = true ∧ (mget m 9).getD false = false ∧ ∃ s', capStep s (9, p) = some s' ∧ Rel o0 s' { o with Role := val p } (mset m 9 true)) ∨
    (¬ (((p.length : Int) == 1) = true ∧ (mget m 9).getD false = false) ∧ capStep s (9, p) = none) := by
  obtain ⟨rfl, h9, h64, h65⟩ := h
  rw [h9]
  by_cases c : s.role.isSome = true ∨ p.length ≠ 1
  · right
    refine ⟨?_, by simp only [capStep, if_true]; exact if_pos c⟩
    rintro ⟨c1, c2⟩
    simp only [beq_iff_eq] at c1
    rcases c with c | c
    · rw [c2] at c; cases c
    · omega
  · left
    have c' := c
    simp only [not_or, ne_eq, Decidable.not_not, Bool.not_eq_true] at c'
    refine ⟨by simp; omega, c'.1, { s with role := some (val p) }, by simp only [capStep, if_true]; exact if_neg c, ?_⟩
    exact ⟨rfl, by simp [mget_mset], by simp [mget_mset, h64], by simp [mget_mset, h65]⟩

theorem step64 {o0 o : Open} {s : St} {m : List (UInt8 × Bool)} (h : Rel o0 s o m) (p : List UInt8) :
    (((p.length : Int) == 2) = true ∧ (mget m 64).getD false = false ∧ ∃ s', capStep s (64, p) = some s' ∧ Rel o0 s' { o with Grace := (i64w ((BitVec.ofInt 64 (val p) &&& BitVec.ofInt 64 4095).toNat : Int)), Again := ((Int.fdiv (val p) (2 ^ (min (Int.toNat 15) 64))) == 1) } (mset m 64 true)) ∨
    (¬ (((p.length : Int) == 2) = true ∧ (mget m 64).getD false = false) ∧ capStep s (64, p) = none) := by
  obtain ⟨rfl, h9, h64, h65⟩ := h
  rw [h64]
  have n9 : ¬ (64 : UInt8) = 9 := by decide
  by_cases c : s.rest.isSome = true ∨ p.length ≠ 2
  · right
    refine ⟨?_, by simp only [capStep, n9, if_true, if_false]; exact if_pos c⟩
    rintro ⟨c1, c2⟩
    simp only [beq_iff_eq] at c1
    rcases c with c | c
    · rw [c2] at c; cases c
    · omega
  · left
    have c' := c
    simp only [not_or, ne_eq, Decidable.not_not, Bool.not_eq_true] at c'
    refine ⟨by simp; omega, c'.1, { s with rest := some (val p) }, by simp only [capStep, n9, if_true, if_false]; exact if_neg c, ?_⟩
    exact ⟨rfl, by simp [mget_mset, h9], by simp [mget_mset], by simp [mget_mset, h65]⟩

theorem step65 {o0 o : Open} {s : St} {m : List (UInt8 × Bool)} (h : Rel o0 s o m) (p : List UInt8) :
    (((p.length : Int) == 4) = true ∧ (mget m 65).getD false = false ∧ ∃ s', capStep s (65, p) = some s' ∧ Rel o0 s' { o with ASN := val p } (mset m 65 true)) ∨
    (¬ (((p.length : Int) == 4) = true ∧ (mget m 65).getD false = false) ∧ capStep s (65, p) = none) := by
  obtain ⟨rfl, h9, h64, h65⟩ := h
  rw [h65]
  have n9 : ¬ (65 : UInt8) = 9 := by decide
  have n64 : ¬ (65 : UInt8) = 64 := by decide
  by_cases c : s.num.isSome = true ∨ p.length ≠ 4
  · right
    refine ⟨?_, by simp only [capStep, n9, n64, if_true, if_false]; exact if_pos c⟩
    rintro ⟨c1, c2⟩
    simp only [beq_iff_eq] at c1
    rcases c with c | c
    · rw [c2] at c; cases c
    · omega
  · left
    have c' := c
    simp only [not_or, ne_eq, Decidable.not_not, Bool.not_eq_true] at c'
    refine ⟨by simp; omega, c'.1, { s with num := some (val p) }, by simp only [capStep, n9, n64, if_true, if_false]; exact if_neg c, ?_⟩
    exact ⟨rfl, by simp [mget_mset, h9], by simp [mget_mset, h64], by simp [mget_mset]⟩

theorem tlv_length {k : Nat} : ∀ {b : List UInt8} {l : List (UInt8 × List UInt8)}, tlv k b = some l → l.length ≤ b.length := by
  induction k with
  | zero => intro b l h; cases h
  | succ k ih =>
    intro b l h
    match b with
    | [] => simp only [tlv, Option.some.injEq] at h; subst h; simp
    | [_] => cases h
    | t :: n :: rest =>
      simp only [tlv] at h
      split at h
      · cases h
      · cases ht : tlv k (rest.drop n.toNat) with
        | none => rw [ht] at h; cases h
        | some l' =>
          rw [ht] at h
          simp only [Option.map_some, Option.some.injEq] at h
          subst h
          have := ih ht
          simp at this ⊢
          omega
theorem tlv_parts {k : Nat} : ∀ {b : List UInt8} {l : List (UInt8 × List UInt8)}, tlv k b = some l → ∀ p ∈ l, p.2.length ≤ b.length := by
  induction k with
  | zero => intro b l h; cases h
  | succ k ih =>
    intro b l h
    match b with
    | [] => simp only [tlv, Option.some.injEq] at h; subst h; simp
    | [_] => cases h
    | t :: n :: rest =>
      simp only [tlv] at h
      split at h
      · cases h
      · cases ht : tlv k (rest.drop n.toNat) with
        | none => rw [ht] at h; cases h
        | some l' =>
          rw [ht] at h
          simp only [Option.map_some, Option.some.injEq] at h
          subst h
          intro p hp
          rcases List.mem_cons.1 hp with rfl | hp
          · simp; omega
          · have := ih ht p hp
            simp at this ⊢
            omega

/-- what the reference's inner loop leaves -/
def InQ {ρ : Type} (K : Bool × Open × List (UInt8 × Bool) → Option ρ) (o0 : Open) (pl : List (UInt8 × List UInt8)) (st : Bool × Int × Open × List (UInt8 × Bool)) (r : Option ρ) : Prop :=
  ∃ (ok' : Bool) (o' : Open) (m' : List (UInt8 × Bool)), r = K (ok', o', m') ∧
    (st.1 = false → ok' = false) ∧ (st.1 = true → ∀ s, Rel o0 s st.2.2.1 st.2.2.2 → match inner s (pl.drop st.2.1.toNat) with
      | none => ok' = false
      | some s' => ok' = true ∧ Rel o0 s' o' m')

theorem getD_known (t : UInt8) : (mget (mset (mset (mset [] (9 : UInt8) (1 : Int)) (64 : UInt8) 2) (65 : UInt8) 4) t).getD 0 = if t = 65 then 4 else if t = 64 then 2 else if t = 9 then 1 else 0 := by
  simp only [mget_mset, beq_iff_eq]
  repeat' split
  all_goals rfl

theorem innerBody {ρ : Type} (K : Bool × Open × List (UInt8 × Bool) → Option ρ) (o0 : Open) (pl : List (UInt8 × List UInt8)) (hl : pl.length ≤ 100000) (st : Bool × Int × Open × List (UInt8 × Bool)) (h0 : 0 ≤ st.2.1) (h1 : st.2.1 ≤ pl.length) :
    InQ K o0 pl st (whileR (σ := Bool × Int × Open × (List (UInt8 × Bool))) (fun next9468 (v9462, v9463, v9464, v9465) =>
              joinP (τ := Bool) (fun k9470 =>
                if (decide (v9463 < ((pl.map Prod.snd).length : Int))) then
                  k9470 v9462
                else
                  k9470 false
              ) fun v9469 =>
              if v9469 then
                joinP (τ := Bool × Open × (List (UInt8 × Bool))) (fun k9534 =>
                  Option.bind (geti (pl.map Prod.fst) v9463) fun v9535 =>
                  Option.bind (some (Option.getD (mget (mset (mset (mset [] (9 : UInt8) 1) (64 : UInt8) 2) (65 : UInt8) 4) v9535) 0)) fun v9537 =>
                  if (v9537 == 0) then
                    k9534 (v9462, v9464, v9465)
                  else
                    joinP (τ := Bool) (fun k9550 =>
                      Option.bind (geti (pl.map Prod.snd) v9463) fun v9551 =>
                      if ((v9551.length : Int) == v9537) then
                        Option.bind (geti (pl.map Prod.fst) v9463) fun v9553 =>
                        Option.bind (some (Option.getD (mget v9465 v9553) false)) fun v9555 =>
                        k9550 (!v9555)
                      else
                        k9550 false
                    ) fun v9549 =>
                    Option.bind (geti (pl.map Prod.fst) v9463) fun v9559 =>
                    Option.bind (geti (pl.map Prod.snd) v9463) fun v9561 =>
                    Option.bind (ref32_value v9561) fun v9563 =>
                    Option.bind (geti (pl.map Prod.fst) v9463) fun v9565 =>
                    joinP (τ := Open) (fun k9588 =>
                      if ((v9565.toNat : Int) == 9) then
                        k9588 ({ v9464 with Role := v9563 })
                      else
                        joinP (τ := Open) (fun k9592 =>
                          if ((v9565.toNat : Int) == 64) then
                            k9592 ({ v9464 with Grace := (i64w ((BitVec.ofInt 64 v9563 &&& BitVec.ofInt 64 4095).toNat : Int)), Again := ((Int.fdiv v9563 (2 ^ (min (Int.toNat 15) 64))) == 1) })
                          else
                            joinP (τ := Int) (fun k9594 =>
                              if ((v9565.toNat : Int) == 65) then
                                k9594 v9563
                              else
                                k9594 v9464.ASN
                            ) fun v9593 =>
                            k9592 ({ v9464 with ASN := v9593 })
                        ) fun v9591 =>
                        k9588 v9591
                    ) fun v9587 =>
                    k9534 (v9549, v9587, (mset v9465 v9559 true))
                ) fun (v9531, v9532, v9533) =>
                next9468 (v9531, (i64w (v9463 + 1)), v9532, v9533)
              else
                K (v9462, v9464, v9465)
            ) fuel st) := by
  refine whileR_rel (fun st => 0 ≤ st.2.1 ∧ st.2.1 ≤ (pl.length : Int)) (fun st => pl.length - st.2.1.toNat) (InQ K o0 pl) ?_ fuel st ⟨h0, h1⟩ (lt_fuel (by omega))
  rintro next ⟨ok, j, o, m⟩ ⟨hj0, hj1⟩ hn
  simp only at hj0 hj1 hn
  obtain ⟨j, rfl⟩ : ∃ k : Nat, j = (k : Int) := ⟨j.toNat, by omega⟩
  simp only [joinP_def, joinP_ite, List.length_map, decide_eq_true_eq]
  by_cases hj : (j : Int) < (pl.length : Int)
  case neg =>
    simp only [hj, if_false, Bool.false_eq_true]
    refine ⟨ok, o, m, rfl, fun h => h, fun h s hs => ?_⟩
    simp only at h hs ⊢
    have : List.drop (j : Int).toNat pl = [] := List.drop_of_length_le (by simp; omega)
    rw [this]
    exact ⟨h, hs⟩
  simp only [hj, if_true]
  cases ok
  case false =>
    refine ⟨false, o, m, by simp, fun h => h, fun h => by simp at h⟩
  have hj' : j < pl.length := by omega
  have gf : geti (pl.map Prod.fst) (j : Int) = some pl[j].1 := by rw [geti_nat (by simp; omega)]; simp
  have gs : geti (pl.map Prod.snd) (j : Int) = some pl[j].2 := by rw [geti_nat (by simp; omega)]; simp
  have ej : i64w ((j : Int) + 1) = ((j + 1 : Nat) : Int) := by rw [i64w_id (by omega)]; omega
  have hd : pl.drop j = pl[j] :: pl.drop (j + 1) := (List.drop_eq_getElem_cons hj')
  simp only [if_true, gf, gs, some_bind', value_eq, getD_known, ej]
  generalize pl[j] = x at hd
  obtain ⟨t, p⟩ := x
  have hnx : ∀ (ok2 : Bool) (o2 : Open) (m2 : List (UInt8 × Bool)), (ok2 = true → ∀ s, Rel o0 s o m → ∃ s', capStep s (t, p) = some s' ∧ Rel o0 s' o2 m2) → (ok2 = false → ∀ s, Rel o0 s o m → capStep s (t, p) = none) →
      InQ K o0 pl (true, (j : Int), o, m) (next (ok2, ((j + 1 : Nat) : Int), o2, m2)) := by
    intro ok2 o2 m2 k1 k2
    obtain ⟨ok', o', m', q1, q2, q3⟩ := hn (ok2, ((j + 1 : Nat) : Int), o2, m2) ⟨by simp only; omega, by simp only; omega⟩ (by simp only; omega)
    refine ⟨ok', o', m', q1, fun h => absurd (show true = false from h) (by decide), fun _ s hs => ?_⟩
    simp only [Int.toNat_natCast, hd, inner] at q2 q3 ⊢
    cases hok : ok2
    · rw [k2 hok s hs]
      exact q2 hok
    · obtain ⟨s', e1, e2⟩ := k1 hok s hs
      rw [e1]
      exact q3 hok s' e2
  have ht : ∀ n : UInt8, ((t.toNat : Int) == (n.toNat : Int)) = decide (t = n) := by
    intro n
    rw [Bool.eq_iff_iff]
    simp only [beq_iff_eq, decide_eq_true_eq, Int.natCast_inj]
    exact UInt8.toNat_inj
  have t9 := ht 9
  have t64 := ht 64
  have t65 := ht 65
  simp only [show ((9 : UInt8).toNat : Int) = 9 from rfl, show ((64 : UInt8).toNat : Int) = 64 from rfl, show ((65 : UInt8).toNat : Int) = 65 from rfl] at t9 t64 t65
  simp only [t9, t64, t65, decide_eq_true_eq]
  by_cases c9 : t = 9
  · subst c9
    simp only [show ¬ (9 : UInt8) = 65 by decide, show ¬ (9 : UInt8) = 64 by decide, if_true, if_false, show ((1 : Int) == 0) = false by decide, Bool.false_eq_true]
    split
    · rename_i hc
      refine hnx _ _ _ (fun h s hs => ?_) (fun h s hs => ?_)
      · rcases step9 hs p with ⟨_, _, q⟩ | ⟨q, _⟩
        · exact q
        · exact absurd ⟨hc, by simpa using h⟩ q
      · rcases step9 hs p with ⟨_, q, _⟩ | ⟨_, q⟩
        · rw [q] at h; cases h
        · exact q
    · rename_i hc
      refine hnx _ _ _ (fun h => by cases h) (fun h s hs => ?_)
      rcases step9 hs p with ⟨q, _, _⟩ | ⟨_, q⟩
      · exact absurd q hc
      · exact q
  · by_cases c64 : t = 64
    · subst c64
      simp only [show ¬ (64 : UInt8) = 65 by decide, show ¬ (64 : UInt8) = 9 by decide, if_true, if_false, show ((2 : Int) == 0) = false by decide, Bool.false_eq_true]
      split
      · rename_i hc
        refine hnx _ _ _ (fun h s hs => ?_) (fun h s hs => ?_)
        · rcases step64 hs p with ⟨_, _, q⟩ | ⟨q, _⟩
          · exact q
          · exact absurd ⟨hc, by simpa using h⟩ q
        · rcases step64 hs p with ⟨_, q, _⟩ | ⟨_, q⟩
          · rw [q] at h; cases h
          · exact q
      · rename_i hc
        refine hnx _ _ _ (fun h => by cases h) (fun h s hs => ?_)
        rcases step64 hs p with ⟨q, _, _⟩ | ⟨_, q⟩
        · exact absurd q hc
        · exact q
    · by_cases c65 : t = 65
      · subst c65
        simp only [show ¬ (65 : UInt8) = 64 by decide, show ¬ (65 : UInt8) = 9 by decide, if_true, if_false, show ((4 : Int) == 0) = false by decide, Bool.false_eq_true]
        split
        · rename_i hc
          refine hnx _ _ _ (fun h s hs => ?_) (fun h s hs => ?_)
          · rcases step65 hs p with ⟨_, _, q⟩ | ⟨q, _⟩
            · exact q
            · exact absurd ⟨hc, by simpa using h⟩ q
          · rcases step65 hs p with ⟨_, q, _⟩ | ⟨_, q⟩
            · rw [q] at h; cases h
            · exact q
        · rename_i hc
          refine hnx _ _ _ (fun h => by cases h) (fun h s hs => ?_)
          rcases step65 hs p with ⟨q, _, _⟩ | ⟨_, q⟩
          · exact absurd q hc
          · exact q
      · simp only [c9, c64, c65, if_false, BEq.rfl, if_true]
        refine hnx _ _ _ (fun h s hs => ⟨s, by simp [capStep, c9, c64, c65], hs⟩) (fun h => by cases h)

def OutQ {ρ : Type} (K : Bool × Open × List (UInt8 × Bool) → Option ρ) (o0 : Open) (ol : List (UInt8 × List UInt8)) (st : Bool × Int × Open × List (UInt8 × Bool)) (r : Option ρ) : Prop :=
  ∃ (ok' : Bool) (o' : Open) (m' : List (UInt8 × Bool)), r = K (ok', o', m') ∧
    (st.1 = false → ok' = false) ∧ (st.1 = true → ∀ s, Rel o0 s st.2.2.1 st.2.2.2 → match outer s (ol.drop st.2.1.toNat) with
      | none => ok' = false
      | some s' => ok' = true ∧ Rel o0 s' o' m')

theorem outerBody {ρ : Type} (K : Bool × Open × List (UInt8 × Bool) → Option ρ) (o0 : Open) (ol : List (UInt8 × List UInt8)) (hl : ol.length ≤ 100000) (hp : ∀ p ∈ ol, p.2.length ≤ 100000) (st : Bool × Int × Open × List (UInt8 × Bool)) (h0 : 0 ≤ st.2.1) (h1 : st.2.1 ≤ ol.length) :
    OutQ K o0 ol st (whileR (σ := Bool × Int × Open × (List (UInt8 × Bool))) (fun next8000 (v7994, v7995, v7996, v7997) =>
      joinP (τ := Bool) (fun k8002 =>
        if (decide (v7995 < ((ol.map Prod.snd).length : Int))) then
          k8002 v7994
        else
          k8002 false
      ) fun v8001 =>
      if v8001 then
        joinP (τ := Bool × Open × (List (UInt8 × Bool))) (fun k8800 =>
          Option.bind (geti (ol.map Prod.snd) v7995) fun v8801 =>
          Option.bind (ref32_parts v8801) fun (v8803, v8804, v8805) =>
          joinP (τ := Bool) (fun k8810 =>
            if v8805 then
              Option.bind (geti (ol.map Prod.fst) v7995) fun v8811 =>
              k8810 ((v8811.toNat : Int) == 2)
            else
              k8810 false
          ) fun v8809 =>
          joinP (τ := Bool × Open × (List (UInt8 × Bool))) (fun k9205 =>
            whileR (σ := Bool × Int × Open × (List (UInt8 × Bool))) (fun next9468 (v9462, v9463, v9464, v9465) =>
              joinP (τ := Bool) (fun k9470 =>
                if (decide (v9463 < (v8804.length : Int))) then
                  k9470 v9462
                else
                  k9470 false
              ) fun v9469 =>
              if v9469 then
                joinP (τ := Bool × Open × (List (UInt8 × Bool))) (fun k9534 =>
                  Option.bind (geti v8803 v9463) fun v9535 =>
                  Option.bind (some (Option.getD (mget (mset (mset (mset [] (9 : UInt8) 1) (64 : UInt8) 2) (65 : UInt8) 4) v9535) 0)) fun v9537 =>
                  if (v9537 == 0) then
                    k9534 (v9462, v9464, v9465)
                  else
                    joinP (τ := Bool) (fun k9550 =>
                      Option.bind (geti v8804 v9463) fun v9551 =>
                      if ((v9551.length : Int) == v9537) then
                        Option.bind (geti v8803 v9463) fun v9553 =>
                        Option.bind (some (Option.getD (mget v9465 v9553) false)) fun v9555 =>
                        k9550 (!v9555)
                      else
                        k9550 false
                    ) fun v9549 =>
                    Option.bind (geti v8803 v9463) fun v9559 =>
                    Option.bind (geti v8804 v9463) fun v9561 =>
                    Option.bind (ref32_value v9561) fun v9563 =>
                    Option.bind (geti v8803 v9463) fun v9565 =>
                    joinP (τ := Open) (fun k9588 =>
                      if ((v9565.toNat : Int) == 9) then
                        k9588 ({ v9464 with Role := v9563 })
                      else
                        joinP (τ := Open) (fun k9592 =>
                          if ((v9565.toNat : Int) == 64) then
                            k9592 ({ v9464 with Grace := (i64w ((BitVec.ofInt 64 v9563 &&& BitVec.ofInt 64 4095).toNat : Int)), Again := ((Int.fdiv v9563 (2 ^ (min (Int.toNat 15) 64))) == 1) })
                          else
                            joinP (τ := Int) (fun k9594 =>
                              if ((v9565.toNat : Int) == 65) then
                                k9594 v9563
                              else
                                k9594 v9464.ASN
                            ) fun v9593 =>
                            k9592 ({ v9464 with ASN := v9593 })
                        ) fun v9591 =>
                        k9588 v9591
                    ) fun v9587 =>
                    k9534 (v9549, v9587, (mset v9465 v9559 true))
                ) fun (v9531, v9532, v9533) =>
                next9468 (v9531, (i64w (v9463 + 1)), v9532, v9533)
              else
                k9205 (v9462, v9464, v9465)
            ) fuel (v8809, 0, v7996, v7997)
          ) fun (v9202, v9203, v9204) =>
          k8800 (v9202, v9203, v9204)
        ) fun (v8797, v8798, v8799) =>
        next8000 (v8797, (i64w (v7995 + 1)), v8798, v8799)
      else
        K (v7994, v7996, v7997) ) fuel st) := by
  refine whileR_rel (fun st => 0 ≤ st.2.1 ∧ st.2.1 ≤ (ol.length : Int)) (fun st => ol.length - st.2.1.toNat) (OutQ K o0 ol) ?_ fuel st ⟨h0, h1⟩ (lt_fuel (by omega))
  rintro next ⟨ok, j, o, m⟩ ⟨hj0, hj1⟩ hn
  simp only at hj0 hj1 hn
  obtain ⟨j, rfl⟩ : ∃ k : Nat, j = (k : Int) := ⟨j.toNat, by omega⟩
  simp only [joinP_def, List.length_map, decide_eq_true_eq]
  by_cases hj : (j : Int) < (ol.length : Int)
  case neg =>
    simp only [hj, if_false, Bool.false_eq_true]
    refine ⟨ok, o, m, rfl, fun h => h, fun h s hs => ?_⟩
    simp only at h hs ⊢
    have : List.drop (j : Int).toNat ol = [] := List.drop_of_length_le (by simp; omega)
    rw [this]
    exact ⟨h, hs⟩
  simp only [hj, if_true]
  cases ok
  case false =>
    refine ⟨false, o, m, by simp, fun h => h, fun h => by simp at h⟩
  have hj' : j < ol.length := by omega
  have gf : geti (ol.map Prod.fst) (j : Int) = some ol[j].1 := by rw [geti_nat (by simp; omega)]; simp
  have gs : geti (ol.map Prod.snd) (j : Int) = some ol[j].2 := by rw [geti_nat (by simp; omega)]; simp
  have ej : i64w ((j : Int) + 1) = ((j + 1 : Nat) : Int) := by rw [i64w_id (by omega)]; omega
  have hd : ol.drop j = ol[j] :: ol.drop (j + 1) := (List.drop_eq_getElem_cons hj')
  have hpl : ol[j].2.length ≤ 100000 := hp _ (List.getElem_mem _)
  simp only [if_true, gf, gs, some_bind', ej, parts_eq _ hpl]
  generalize ol[j] = x at hd hpl
  obtain ⟨t, p⟩ := x
  simp only at hpl
  have ht : ((t.toNat : Int) == 2) = decide (t = 2) := by
    rw [Bool.eq_iff_iff]
    simp only [beq_iff_eq, decide_eq_true_eq, show (2 : Int) = ((2 : UInt8).toNat : Int) from rfl, Int.natCast_inj]
    exact UInt8.toNat_inj
  have hnx : ∀ (ok2 : Bool) (o2 : Open) (m2 : List (UInt8 × Bool)), (ok2 = true → t = 2 ∧ ∀ s, Rel o0 s o m → ∃ s', (tlv (p.length + 1) p).bind (inner s) = some s' ∧ Rel o0 s' o2 m2) → (ok2 = false → t ≠ 2 ∨ ∀ s, Rel o0 s o m → (tlv (p.length + 1) p).bind (inner s) = none) →
      OutQ K o0 ol (true, (j : Int), o, m) (next (ok2, ((j + 1 : Nat) : Int), o2, m2)) := by
    intro ok2 o2 m2 k1 k2
    obtain ⟨ok', o', m', q1, q2, q3⟩ := hn (ok2, ((j + 1 : Nat) : Int), o2, m2) ⟨by simp only; omega, by simp only; omega⟩ (by simp only; omega)
    refine ⟨ok', o', m', q1, fun h => absurd (show true = false from h) (by decide), fun _ s hs => ?_⟩
    simp only [Int.toNat_natCast, hd, outer] at q2 q3 ⊢
    cases hok : ok2
    · have := q2 hok
      rcases k2 hok with k | k
      · rw [if_neg k]; exact this
      · rw [k s hs]
        split
        · rename_i heq; exact this
        · rename_i heq; split at heq <;> cases heq
    · obtain ⟨k, k1⟩ := k1 hok
      obtain ⟨s', e1, e2⟩ := k1 s hs
      rw [if_pos k, e1]
      exact q3 hok s' e2
  cases hT : tlv (p.length + 1) p with
  | none =>
    have hI := innerBody (fun (a, b, c) => next (a, ((j + 1 : Nat) : Int), b, c)) o0 [] (by simp) (false, 0, o, m) (by simp) (by simp)
    simp only [joinP_def, List.map_nil, List.length_nil, List.length_map, decide_eq_true_eq, if_true, some_bind', Bool.false_eq_true, if_false] at hI
    simp only [Bool.false_eq_true, if_false, List.length_nil]
    obtain ⟨ok', o', m', q1, q2, q3⟩ := hI
    rw [q1]
    have : ok' = false := q2 rfl
    subst this
    exact hnx _ _ _ (fun h => by cases h) (fun _ => Or.inr fun s _ => by rw [hT]; rfl)
  | some pl =>
    have hlp : pl.length ≤ 100000 := Nat.le_trans (tlv_length hT) (by omega)
    simp only [if_true, ht]
    have hI := innerBody (fun (a, b, c) => next (a, ((j + 1 : Nat) : Int), b, c)) o0 pl hlp (decide (t = 2), 0, o, m) (by simp) (by simp)
    simp only [joinP_def, List.length_map, decide_eq_true_eq, if_true, some_bind', Bool.false_eq_true, if_false] at hI
    simp only [List.length_map, Bool.false_eq_true, if_false]
    obtain ⟨ok', o', m', q1, q2, q3⟩ := hI
    rw [q1]
    simp only [decide_eq_true_eq, decide_eq_false_iff_not, Int.toNat_zero, List.drop_zero] at q2 q3
    refine hnx _ _ _ (fun h => ?_) (fun h => ?_)
    · have t2 : t = 2 := by
        by_cases c : t = 2
        · exact c
        · rw [q2 c] at h; cases h
      refine ⟨t2, fun s hs => ?_⟩
      have := q3 t2 s hs
      rw [hT]
      simp only [Option.bind_some]
      cases hin : inner s pl with
      | none => rw [hin] at this; rw [this] at h; cases h
      | some s' => rw [hin] at this; exact ⟨s', rfl, this.2⟩
    · by_cases c : t = 2
      · right
        intro s hs
        have := q3 c s hs
        rw [hT]
        simp only [Option.bind_some]
        cases hin : inner s pl with
        | none => rfl
        | some s' => rw [hin] at this; rw [this.1] at h; cases h
      · exact Or.inl c

theorem refCaps_eq (o0 : Open) (b : List UInt8) (hb : b.length ≤ 100000) : ∃ r, ref32_capabilities o0 b = some r ∧ (match (tlv (b.length + 1) b).bind (outer ⟨none, none, none⟩) with
    | none => r.1 = false
    | some s => r = (true, s.num.isSome, mk o0 s)) := by
  unfold ref32_capabilities
  rw [parts_eq b hb, some_bind']
  cases hT : tlv (b.length + 1) b with
  | none =>
    obtain ⟨ok', o', m', q1, q2, q3⟩ := outerBody (fun (v4798, v4799, v4800) => Option.bind (some (Option.getD (mget v4800 (65 : UInt8)) false)) fun v9595 => some (v4798, v9595, v4799)) o0 [] (by simp) (by simp) (false, 0, o0, []) (by simp) (by simp)
    simp only [joinP_def, List.map_nil, List.length_nil, some_bind'] at q1
    simp only [joinP_def, List.length_nil, some_bind']
    refine ⟨(ok', _, o'), q1, ?_⟩
    exact q2 rfl
  | some ol =>
    obtain ⟨ok', o', m', q1, q2, q3⟩ := outerBody (fun (v4798, v4799, v4800) => Option.bind (some (Option.getD (mget v4800 (65 : UInt8)) false)) fun v9595 => some (v4798, v9595, v4799)) o0 ol (Nat.le_trans (tlv_length hT) (by omega)) (fun p hp => Nat.le_trans (tlv_parts hT p hp) (by omega)) (true, 0, o0, []) (by simp) (by simp)
    simp only [joinP_def, some_bind'] at q1
    simp only [joinP_def, some_bind']
    refine ⟨(ok', _, o'), q1, ?_⟩
    have := q3 rfl ⟨none, none, none⟩ ⟨rfl, rfl, rfl, rfl⟩
    simp only [Int.toNat_zero, List.drop_zero] at this
    cases ho : outer ⟨none, none, none⟩ ol with
    | none => rw [ho] at this; exact this
    | some s =>
      rw [ho] at this
      obtain ⟨rfl, rfl, h9, h64, h65⟩ := this
      simp only [h65]
end Go.AX.Q32
