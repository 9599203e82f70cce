/-
  Plain laws on open messages: both decoders answer alike.
-/
import Derived.Test.YtikcogmkchljaaaL32C
namespace Go.AX.Q32
open Go Go.AX

def noOpen : Open := ⟨0, 0, 0, 0, 0, false⟩
def found : St := ⟨none, none, none⟩

/-- what both decoders answer -/
def dec : List UInt8 → Open × Int
  | c0 :: c1 :: c2 :: c3 :: c4 :: c5 :: c6 :: c7 :: c8 :: c9 :: rest =>
    if c0 ≠ 4 then (noOpen, 36)
    else if (c9.toNat : Int) ≠ (rest.length : Int) then (noOpen, 5)
    else match (tlv (rest.length + 1) rest).bind (outer found) with
      | none => (noOpen, 5)
      | some s =>
        let o := mk ⟨val [c1, c2], val [c5, c6, c7, c8], val [c3, c4], -1, 0, false⟩ s
        if s.num.isSome = true ∧ val [c1, c2] ≠ o.ASN ∧ (val [c1, c2] ≠ 23456 ∨ o.ASN ≤ 65535) then (noOpen, 5)
        else if okO o then (o, 0) else (noOpen, 1)
  | _ => (noOpen, 4)

theorem ten (b : List UInt8) : b.length < 10 ∨ ∃ c0 c1 c2 c3 c4 c5 c6 c7 c8 c9 rest, b = c0 :: c1 :: c2 :: c3 :: c4 :: c5 :: c6 :: c7 :: c8 :: c9 :: rest := by
  rcases b with _ | ⟨c0, _ | ⟨c1, _ | ⟨c2, _ | ⟨c3, _ | ⟨c4, _ | ⟨c5, _ | ⟨c6, _ | ⟨c7, _ | ⟨c8, _ | ⟨c9, rest⟩⟩⟩⟩⟩⟩⟩⟩⟩⟩
  all_goals first | (left; simp; done) | (right; exact ⟨_, _, _, _, _, _, _, _, _, _, _, rfl⟩)

theorem dec_short {b : List UInt8} (h : b.length < 10) : dec b = (noOpen, 4) := by
  rcases b with _ | ⟨c0, _ | ⟨c1, _ | ⟨c2, _ | ⟨c3, _ | ⟨c4, _ | ⟨c5, _ | ⟨c6, _ | ⟨c7, _ | ⟨c8, _ | ⟨c9, rest⟩⟩⟩⟩⟩⟩⟩⟩⟩⟩
  all_goals first | rfl | (simp at h; omega)

theorem toNat_ne (c n : UInt8) : ((c.toNat : Int) ≠ (n.toNat : Int)) = (c ≠ n) := by
  simp only [ne_eq, Int.natCast_inj, eq_iff_iff]
  exact not_congr UInt8.toNat_inj

theorem bind_outer (o : Option (List (UInt8 × List UInt8))) (x : UInt8 × List UInt8) (s : St) : (o.map (x :: ·)).bind (outer s) = if x.1 = 2 then o.bind fun l => ((tlv (x.2.length + 1) x.2).bind (inner s)).bind fun s => outer s l else o.bind fun _ => none := by
  cases o
  · simp
  · simp only [Option.map_some, Option.bind_some, outer]

theorem refDecode_eq (b : List UInt8) (hb : b.length ≤ 100000) : ref32_Decode b = some (dec b) := by
  rcases ten b with h | ⟨c0, c1, c2, c3, c4, c5, c6, c7, c8, c9, rest, rfl⟩
  · rw [dec_short h]
    unfold ref32_Decode
    rw [if_pos (by simp; omega)]; rfl
  · simp only [List.length_cons] at hb
    unfold ref32_Decode
    rw [if_neg (by simp; omega)]
    have g0 : geti (c0 :: c1 :: c2 :: c3 :: c4 :: c5 :: c6 :: c7 :: c8 :: c9 :: rest) 0 = some c0 := geti_nat (i := 0) (by simp)
    have g9 : geti (c0 :: c1 :: c2 :: c3 :: c4 :: c5 :: c6 :: c7 :: c8 :: c9 :: rest) 9 = some c9 := geti_nat (i := 9) (by simp)
    have p1 : part (c0 :: c1 :: c2 :: c3 :: c4 :: c5 :: c6 :: c7 :: c8 :: c9 :: rest) 1 3 = some [c1, c2] := part_nat (a := 1) (b := 3) (by omega) (by simp)
    have p2 : part (c0 :: c1 :: c2 :: c3 :: c4 :: c5 :: c6 :: c7 :: c8 :: c9 :: rest) 3 5 = some [c3, c4] := part_nat (a := 3) (b := 5) (by omega) (by simp)
    have p3 : part (c0 :: c1 :: c2 :: c3 :: c4 :: c5 :: c6 :: c7 :: c8 :: c9 :: rest) 5 9 = some [c5, c6, c7, c8] := part_nat (a := 5) (b := 9) (by omega) (by simp)
    have p4 : part (c0 :: c1 :: c2 :: c3 :: c4 :: c5 :: c6 :: c7 :: c8 :: c9 :: rest) 10 ((c0 :: c1 :: c2 :: c3 :: c4 :: c5 :: c6 :: c7 :: c8 :: c9 :: rest).length : Int) = some rest := by
      have := part_nat (l := c0 :: c1 :: c2 :: c3 :: c4 :: c5 :: c6 :: c7 :: c8 :: c9 :: rest) (a := 10) (b := (c0 :: c1 :: c2 :: c3 :: c4 :: c5 :: c6 :: c7 :: c8 :: c9 :: rest).length) (by simp) (by omega)
      refine Eq.trans this ?_
      congr 1
      exact List.take_of_length_le (by simp)
    have e : i64w (((c0 :: c1 :: c2 :: c3 :: c4 :: c5 :: c6 :: c7 :: c8 :: c9 :: rest).length : Int) - 10) = (rest.length : Int) := by
      rw [i64w_id (by simp; omega)]; simp
      omega
    have n4 : ((c0.toNat : Int) ≠ 4) = (c0 ≠ 4) := toNat_ne c0 4
    simp only [g0, g9, p1, p2, p3, p4, e, n4, some_bind', value_eq, joinP_def, dec, decide_eq_true_eq, bne_iff_ne]
    split
    · rfl
    split
    · rfl
    obtain ⟨⟨ok, sn, o⟩, h1, h2⟩ := refCaps_eq ⟨val [c1, c2], val [c5, c6, c7, c8], val [c3, c4], -1, 0, false⟩ rest (by omega)
    rw [h1, some_bind']
    cases ht : (tlv (rest.length + 1) rest).bind (outer found) with
    | none =>
      simp only [found] at ht
      rw [ht] at h2
      simp only at h2
      subst h2
      simp [noOpen]
    | some s =>
      simp only [found] at ht
      rw [ht] at h2
      simp only [Prod.mk.injEq] at h2
      obtain ⟨rfl, rfl, rfl⟩ := h2
      simp only [refValid_eq, some_bind', Bool.not_true, Bool.false_eq_true, if_false]
      generalize mk ⟨val [c1, c2], val [c5, c6, c7, c8], val [c3, c4], -1, 0, false⟩ s = o
      by_cases x1 : s.num.isSome = true <;> by_cases x2 : val [c1, c2] = o.ASN <;> by_cases x3 : val [c1, c2] = 23456 <;> by_cases x4 : o.ASN ≤ 65535 <;> cases x5 : okO o <;> simp_all [noOpen]
      all_goals (first | done | (have x6 : ¬ o.ASN ≤ 65535 := by omega
                                 simp [x6]))

theorem opt {α : Type} (x : Option α) : x = none ∨ ∃ y, x = some y := by cases x <;> simp

theorem outerProg (K : session_reader × List (Int × Int) → Option (Open × Int)) (b : List UInt8) (m : List (Int × Int)) (hb : b.length ≤ 100000) :
    match (tlv (b.length + 1) b).bind (outer (abs m)) with
    | none => whileR (σ := session_reader × (List (Int × Int))) (ρ := Open × Int) (fun next209 (v205, v206) =>
            Option.bind (session_reader_more v205) fun (v210, v211) =>
            if v210 then
              Option.bind (session_reader_number v211 1) fun (v227, v228) =>
              Option.bind (session_reader_number v228 1) fun (v230, v231) =>
              Option.bind (session_reader_part v231 v230) fun (v233, v234) =>
              joinP (τ := Bool) (fun k237 =>
                if v234.bad then
                  k237 true
                else
                  k237 (v227 != 2)
              ) fun v236 =>
              if v236 then
                some ((⟨0, 0, 0, 0, 0, false⟩ : Open), 5)
              else
                Option.bind (session_reader_capabilities (⟨v233, false⟩ : session_reader) v206) fun (v238, v239) =>
                if v238.bad then
                  some ((⟨0, 0, 0, 0, 0, false⟩ : Open), 5)
                else
                  next209 (v234, v239)
            else
              K (v211, v206)
          ) fuel ((⟨b, false⟩ : session_reader), m) = some (noOpen, 5)
    | some s => ∃ st : session_reader × List (Int × Int), whileR (σ := session_reader × (List (Int × Int))) (ρ := Open × Int) (fun next209 (v205, v206) =>
            Option.bind (session_reader_more v205) fun (v210, v211) =>
            if v210 then
              Option.bind (session_reader_number v211 1) fun (v227, v228) =>
              Option.bind (session_reader_number v228 1) fun (v230, v231) =>
              Option.bind (session_reader_part v231 v230) fun (v233, v234) =>
              joinP (τ := Bool) (fun k237 =>
                if v234.bad then
                  k237 true
                else
                  k237 (v227 != 2)
              ) fun v236 =>
              if v236 then
                some ((⟨0, 0, 0, 0, 0, false⟩ : Open), 5)
              else
                Option.bind (session_reader_capabilities (⟨v233, false⟩ : session_reader) v206) fun (v238, v239) =>
                if v238.bad then
                  some ((⟨0, 0, 0, 0, 0, false⟩ : Open), 5)
                else
                  next209 (v234, v239)
            else
              K (v211, v206)
          ) fuel ((⟨b, false⟩ : session_reader), m) = K st ∧ st.1.bad = false ∧ abs st.2 = s := by
  generalize hx : ((⟨b, false⟩ : session_reader), m) = x
  have e1 : b = x.1.b := by rw [← hx]
  have e2 : m = x.2 := by rw [← hx]
  have e3 : x.1.bad = false := by rw [← hx]
  rw [e1, e2]
  rw [e1] at hb
  clear hx e1 e2
  refine whileR_rel (fun st => st.1.b.length ≤ 100000 ∧ st.1.bad = false) (fun st => st.1.b.length)
    (fun (st : session_reader × List (Int × Int)) r => match (tlv (st.1.b.length + 1) st.1.b).bind (outer (abs st.2)) with
      | none => r = some (noOpen, 5)
      | some s => ∃ st' : session_reader × List (Int × Int), r = K st' ∧ st'.1.bad = false ∧ abs st'.2 = s) ?_ fuel x ⟨hb, e3⟩ (lt_fuel (by omega))
  clear e3 hb x b m
  rintro next ⟨⟨b, bad⟩, m⟩ ⟨hP, hbad⟩ hn
  simp only at hP hbad hn ⊢
  subst hbad
  rw [more_eq, some_bind']
  cases b with
  | nil => simp only [tlv, outer, Option.bind_some]; exact ⟨_, by simp; rfl, rfl, rfl⟩
  | cons t b =>
    rw [if_pos (by simp)]
    cases b with
    | nil =>
      obtain ⟨c, r1, k, r2, p, r3, e1, e2, e3, e0, e4⟩ := one_read t
      simp only [joinP_def, e1, e2, e3, some_bind', e4, if_true]
      rfl
    | cons n rest =>
      obtain ⟨c, r1, k, r2, p, r3, e1, e2, e3, e4, e0, e5⟩ := tlv_read t n rest
      simp only [List.length_cons] at hP
      subst e4
      simp only [joinP_ite, e1, e2, e3, some_bind']
      by_cases hlt : rest.length < n.toNat
      · rw [if_pos hlt] at e5
        simp only [e5, if_true, tlv, hlt, Option.bind_none]
        rfl
      · rw [if_neg hlt] at e5
        obtain ⟨rfl, rfl⟩ := e5
        have htl : tlv ((t :: n :: rest).length + 1) (t :: n :: rest) = (tlv ((rest.drop n.toNat).length + 1) (rest.drop n.toNat)).map ((t, rest.take n.toNat) :: ·) := by
          simp only [List.length_cons, tlv, hlt, if_false]
          rw [tlv_fuel _ (by simp; omega)]
        have ht : ((t.toNat : Int) != 2) = decide (t ≠ 2) := by
          rw [Bool.eq_iff_iff]
          simp only [bne_iff_ne, decide_eq_true_eq]
          rw [← toNat_ne t 2]; rfl
        simp only [htl, bind_outer, Bool.false_eq_true, if_false, ht, decide_eq_true_eq]
        by_cases h2 : t = 2
        · have hne : ¬ (t ≠ 2) := fun h => h h2
          rw [if_neg hne, if_pos h2]
          obtain ⟨⟨r, m'⟩, g1, g2⟩ := caps_eq (rest.take n.toNat) m (by simp; omega)
          rw [g1, some_bind']
          have hnx := hn (⟨rest.drop n.toNat, false⟩, m') ⟨by simp; omega, rfl⟩ (by simp; omega)
          simp only at hnx g2 ⊢
          generalize hq : next (⟨rest.drop n.toNat, false⟩, m') = q at hnx ⊢
          cases hi : (tlv ((rest.take n.toNat).length + 1) (rest.take n.toNat)).bind (inner (abs m)) with
          | none =>
            rw [hi] at g2
            simp only at g2
            rw [if_pos g2]
            cases tlv ((rest.drop n.toNat).length + 1) (rest.drop n.toNat) <;> rfl
          | some s' =>
            rw [hi] at g2
            obtain ⟨g2, rfl⟩ := g2
            rw [if_neg (by simp [g2])]
            exact hnx
        · have hne : t ≠ 2 := h2
          rw [if_neg h2, if_pos hne]
          cases tlv ((rest.drop n.toNat).length + 1) (rest.drop n.toNat) <;> rfl

theorem decode_eq (b : List UInt8) (hb : b.length ≤ 100000) : session_Decode b = some (dec b) := by
  rcases ten b with h | ⟨c0, c1, c2, c3, c4, c5, c6, c7, c8, c9, rest, rfl⟩
  · rw [dec_short h]
    unfold session_Decode
    rw [if_pos (by simp; omega)]; rfl
  · simp only [List.length_cons] at hb
    unfold session_Decode
    rw [if_neg (by simp; omega)]
    have g0 : geti (c0 :: c1 :: c2 :: c3 :: c4 :: c5 :: c6 :: c7 :: c8 :: c9 :: rest) 0 = some c0 := geti_nat (i := 0) (by simp)
    have g9 : geti (c0 :: c1 :: c2 :: c3 :: c4 :: c5 :: c6 :: c7 :: c8 :: c9 :: rest) 9 = some c9 := geti_nat (i := 9) (by simp)
    have p1 : part (c0 :: c1 :: c2 :: c3 :: c4 :: c5 :: c6 :: c7 :: c8 :: c9 :: rest) 1 9 = some [c1, c2, c3, c4, c5, c6, c7, c8] := part_nat (a := 1) (b := 9) (by omega) (by simp)
    have p4 : part (c0 :: c1 :: c2 :: c3 :: c4 :: c5 :: c6 :: c7 :: c8 :: c9 :: rest) 10 ((c0 :: c1 :: c2 :: c3 :: c4 :: c5 :: c6 :: c7 :: c8 :: c9 :: rest).length : Int) = some rest := by
      have := part_nat (l := c0 :: c1 :: c2 :: c3 :: c4 :: c5 :: c6 :: c7 :: c8 :: c9 :: rest) (a := 10) (b := (c0 :: c1 :: c2 :: c3 :: c4 :: c5 :: c6 :: c7 :: c8 :: c9 :: rest).length) (by simp) (by omega)
      refine Eq.trans this ?_
      congr 1
      exact List.take_of_length_le (by simp)
    have e : i64w (((c0 :: c1 :: c2 :: c3 :: c4 :: c5 :: c6 :: c7 :: c8 :: c9 :: rest).length : Int) - 10) = (rest.length : Int) := by
      rw [i64w_id (by simp; omega)]; simp
      omega
    have n4 : ((c0.toNat : Int) ≠ 4) = (c0 ≠ 4) := toNat_ne c0 4
    have r1 : session_reader_number ⟨[c1, c2, c3, c4, c5, c6, c7, c8], false⟩ 2 = some (val [c1, c2], ⟨[c3, c4, c5, c6, c7, c8], false⟩) := rnumber_eq _ false 2
    have r2 : session_reader_number ⟨[c3, c4, c5, c6, c7, c8], false⟩ 2 = some (val [c3, c4], ⟨[c5, c6, c7, c8], false⟩) := rnumber_eq _ false 2
    have r3 : session_reader_number ⟨[c5, c6, c7, c8], false⟩ 4 = some (val [c5, c6, c7, c8], ⟨[], false⟩) := rnumber_eq _ false 4
    simp only [g0, g9, p1, p4, e, n4, r1, r2, r3, some_bind', dec, decide_eq_true_eq, bne_iff_ne]
    split
    · rfl
    split
    · rfl
    have hO := outerProg (fun (v138, v139) =>
        if v138.bad then
          some ((⟨0, 0, 0, 0, 0, false⟩ : Open), 5)
        else
          Option.bind (some (Option.getD (mget v139 65) 0)) fun v241 =>
          Option.bind (some (Option.isSome (mget v139 65))) fun v243 =>
          joinP (τ := Int) (fun k248 =>
            if v243 then
              joinP (τ := Bool) (fun k250 =>
                if (val [c1, c2] != v241) then
                  if (val [c1, c2] != 23456) then
                    k250 true
                  else
                    k250 (decide (v241 ≤ 65535))
                else
                  k250 false
              ) fun v249 =>
              if v249 then
                some ((⟨0, 0, 0, 0, 0, false⟩ : Open), 5)
              else
                k248 v241
            else
              k248 (val [c1, c2])
          ) fun v247 =>
          Option.bind (some (Option.getD (mget v139 9) 0)) fun v251 =>
          Option.bind (some (Option.isSome (mget v139 9))) fun v253 =>
          joinP (τ := Int) (fun k256 =>
            if v253 then
              k256 v251
            else
              k256 (-1)
          ) fun v255 =>
          Option.bind (some (Option.getD (mget v139 64) 0)) fun v257 =>
          Option.bind (some (Option.isSome (mget v139 64))) fun v259 =>
          joinP (τ := Open) (fun k262 =>
            if v259 then
              k262 (⟨v247, val [c5, c6, c7, c8], val [c3, c4], v255, (i64w ((BitVec.ofInt 64 v257 &&& BitVec.ofInt 64 4095).toNat : Int)), ((Int.fdiv v257 (2 ^ (min (Int.toNat 15) 64))) == 1)⟩ : Open)
            else
              k262 (⟨v247, val [c5, c6, c7, c8], val [c3, c4], v255, 0, false⟩ : Open)
          ) fun v261 =>
          Option.bind (session_Valid v261) fun v263 =>
          if (!v263) then
            some ((⟨0, 0, 0, 0, 0, false⟩ : Open), 1)
          else
            some (v261, 0)) rest [] (by omega)
    simp only [joinP_def, some_bind', decide_eq_true_eq, bne_iff_ne] at hO
    simp only [joinP_def, some_bind', decide_eq_true_eq, bne_iff_ne]
    have ha : abs [] = found := rfl
    rw [ha] at hO
    cases ht : (tlv (rest.length + 1) rest).bind (outer found) with
    | none => rw [ht] at hO; exact hO
    | some s =>
      rw [ht] at hO
      obtain ⟨⟨⟨rb, bad⟩, m⟩, q1, q2, rfl⟩ := hO
      simp only at q2
      subst q2
      refine q1.trans ?_
      simp only [valid_eq, some_bind', Bool.false_eq_true, if_false, abs, mk]
      have fin : ∀ (P : Prop) [Decidable P] (o : Open), (if P then some ((⟨0, 0, 0, 0, 0, false⟩ : Open), (5 : Int)) else if (!okO o) = true then some ((⟨0, 0, 0, 0, 0, false⟩ : Open), 1) else some (o, 0)) = some (if P then (noOpen, 5) else if okO o = true then (o, 0) else (noOpen, 1)) := by
        intro P _ o
        by_cases hP : P <;> cases ho : okO o <;> simp [hP, noOpen]
      have fin0 : ∀ (o : Open), (if (!okO o) = true then some ((⟨0, 0, 0, 0, 0, false⟩ : Open), (1 : Int)) else some (o, 0)) = some (if okO o = true then (o, 0) else (noOpen, 1)) := by
        intro o
        cases ho : okO o <;> simp [noOpen]
      rcases opt (mget m 65) with h65 | ⟨x, h65⟩
      · rcases opt (mget m 9) with h9 | ⟨y, h9⟩ <;> rcases opt (mget m 64) with h64 | ⟨z, h64⟩ <;> simp only [h65, h9, h64, Option.isSome_none, Option.isSome_some, Bool.false_eq_true, if_false, if_true, false_and, Option.getD_none, Option.getD_some, fin0]
      · simp only [h65, Option.isSome_some, if_true, true_and, Option.getD_some]
        by_cases y1 : val [c1, c2] = x <;> by_cases y2 : val [c1, c2] = 23456 <;> by_cases y3 : x ≤ 65535 <;> rcases opt (mget m 9) with h9 | ⟨y, h9⟩ <;> rcases opt (mget m 64) with h64 | ⟨z, h64⟩ <;>
          simp (config := { decide := true }) only [h9, h64, y1, y3, Option.isSome_none, Option.isSome_some, Bool.false_eq_true, if_false, if_true, false_and, Option.getD_none, Option.getD_some, fin0, ne_eq, not_true_eq_false, not_false_eq_true, true_and, and_true, or_true, true_or, or_false, and_false, false_or, noOpen] <;> (try simp (config := { decide := true }) only [y2, Option.isSome_none, Option.isSome_some, Bool.false_eq_true, if_false, if_true, false_and, Option.getD_none, Option.getD_some, fin0, ne_eq, not_true_eq_false, not_false_eq_true, true_and, and_true, or_true, true_or, or_false, and_false, false_or, noOpen])
end Go.AX.Q32
