/-
  Plain laws on open messages.
-/
import Derived.Test.YtikcogmkchljaaaAx20
import Derived.Test.YtikcogmkchljaaaQ32Sp
namespace Go.AX.Q32
open Go Go.AX

/-! decks -/
def gomod (v n : Int) : Int := if v.tmod n < 0 then v.tmod n + n else v.tmod n

theorem tmod_bounds (v : Int) {n : Int} (hn : 0 < n) : -n < v.tmod n ∧ v.tmod n < n := by
  have h1 := Int.tmod_lt_of_pos v hn
  refine ⟨?_, h1⟩
  rw [← Int.neg_lt_neg_iff, Int.neg_neg, ← Int.neg_tmod]
  exact Int.tmod_lt_of_pos _ hn

theorem gomod_range (v : Int) {n : Int} (hn : 0 < n) : 0 ≤ gomod v n ∧ gomod v n < n := by
  have := tmod_bounds v hn
  unfold gomod
  split <;> omega

theorem mod_eq (v n : Int) (hn : 0 < n) (hm : n ≤ 9223372036854775807) : mill_Mod v n = some (gomod v n) := by
  have h := tmod_bounds v hn
  have h0 : n ≠ 0 := by omega
  simp only [mill_Mod, chk, h0, ne_eq, not_false_eq_true, if_true, some_bind', joinP_def, gomod, decide_eq_true_eq]
  split
  · rw [i64w_id (by omega)]
  · rfl

structure Dk (l : List Int) (d : Deck) : Prop where
  L : d.L = l
  At : 0 ≤ d.At
  len : l.length ≤ 9223372036854775807

theorem next_ok {l : List Int} {d : Deck} (h : Dk l d) (n : Int) (hn : 0 < n := by decide) (hm : n ≤ 9223372036854775807 := by decide) :
    ∃ v d', mill_Deck_Next d n = some (v, d') ∧ 0 ≤ v ∧ v < n ∧ Dk l d' := by
  obtain ⟨rfl, h2, h3⟩ := h
  unfold mill_Deck_Next
  by_cases c : d.At ≥ (d.L.length : Int)
  · refine ⟨0, d, ?_, by omega, hn, rfl, h2, h3⟩
    simp [c]
  · have e1 : i64w (d.At + 1) = d.At + 1 := i64w_id (by omega)
    have e2 : i64w (d.At + 1 - 1) = d.At := by rw [i64w_id (by omega)]; omega
    obtain ⟨k, hk⟩ : ∃ k : Nat, d.At = (k : Int) := ⟨d.At.toNat, by omega⟩
    have hlt : k < d.L.length := by omega
    refine ⟨gomod d.L[k] n, ⟨d.L, d.At + 1⟩, ?_, (gomod_range _ hn).1, (gomod_range _ hn).2, rfl, by simp; omega, h3⟩
    simp only [c, decide_false, Bool.false_eq_true, if_false, e1, e2]
    rw [hk, geti_nat hlt]
    simp only [some_bind', mod_eq _ _ hn hm]

theorem geti_ok {α : Type} (l : List α) (i : Int) (h : 0 ≤ i) (h2 : i < l.length) : ∃ x, geti l i = some x ∧ x ∈ l := by
  obtain ⟨k, rfl⟩ : ∃ k : Nat, i = (k : Int) := ⟨i.toNat, by omega⟩
  exact ⟨l[k]'(by omega), geti_nat (by omega), List.getElem_mem _⟩

theorem asn_ok {l : List Int} {d : Deck} (h : Dk l d) : ∃ v d', mill_Deck_ASN d = some (v, d') ∧ Dk l d' ∧ 0 ≤ v ∧ v ≤ 4294967295 := by
  unfold mill_Deck_ASN
  obtain ⟨a, d1, e1, _, _, k1⟩ := next_ok h 10
  obtain ⟨b, d2, e2, b1, b2, k2⟩ := next_ok k1 6
  obtain ⟨c, d3, e3, c1, c2, k3⟩ := next_ok k1 5
  obtain ⟨x, g1, g2⟩ := geti_ok ([0, 1, 70000, 99, 4294967295, 300] : List Int) b b1 (by simp; omega)
  simp only [e1, e2, e3, some_bind', g1]
  split
  · refine ⟨_, _, rfl, k2, ?_⟩
    simp at g2
    omega
  · refine ⟨_, _, rfl, k3, ?_⟩
    rw [i64w_id (by omega)]; omega

/-! which opens are valid -/
def okO (o : Open) : Bool := decide (1 ≤ o.ASN ∧ o.ASN ≤ 4294967295 ∧ 1 ≤ o.ID ∧ o.ID ≤ 4294967295 ∧ (o.Hold = 0 ∨ 3 ≤ o.Hold ∧ o.Hold ≤ 65535) ∧ -1 ≤ o.Role ∧ o.Role ≤ 4 ∧ 0 ≤ o.Grace ∧ o.Grace ≤ 4095)

theorem within_eq (a b c : Int) : session_Valid_1 a b c = some (decide (b ≤ a ∧ a ≤ c)) := by
  simp only [session_Valid_1, joinP_def, ge_iff_le]
  by_cases h : b ≤ a <;> simp [h]

theorem valid_eq (o : Open) : session_Valid o = some (okO o) := by
  simp only [session_Valid, joinP_def, within_eq, some_bind', okO, beq_iff_eq, decide_eq_true_eq]
  repeat' split
  all_goals (congr 1; rw [Bool.eq_iff_iff]; simp; omega)

theorem refValid_eq (o : Open) : ref32_Valid o = some (okO o) := by
  simp only [ref32_Valid, joinP_def, okO, beq_iff_eq, decide_eq_true_eq, ge_iff_le]
  repeat' split
  all_goals (congr 1; rw [Bool.eq_iff_iff]; simp; omega)

/-! numbers as bytes -/
def be : Nat → Int → List UInt8
  | 0, _ => []
  | n + 1, v => toU8 (Int.fdiv v (2 ^ (8 * n))) :: be n v

theorem be_length (n : Nat) (v : Int) : (be n v).length = n := by induction n <;> simp_all [be]

theorem put_eq (b : List UInt8) (n : Nat) (v : Int) (hn : n ≤ 8) (hb : b.length ≤ 1000) : session_put b n v = some (b ++ be n v) := by
  simp only [session_put, joinP_def]
  rw [i64w_id (by omega)]
  refine (whileR_eq (fun s => ∃ m : Nat, s.1 = (m : Int) - 1 ∧ m ≤ 8 ∧ s.2.length + m ≤ 1008) (fun s => (s.1 + 1).toNat) (fun s => some (s.2 ++ be (s.1 + 1).toNat v)) ?_ fuel _ ⟨n, rfl, hn, by simp; omega⟩ (lt_fuel (by simp; omega))).trans ?_
  · rintro next ⟨_, acc⟩ ⟨m, rfl, h1, h2⟩ hnx
    simp only at h2 ⊢
    cases m with
    | zero => simp [be]
    | succ m =>
      have c : ((m + 1 : Nat) : Int) - 1 ≥ 0 := by omega
      have e : ((m + 1 : Nat) : Int) - 1 = (m : Int) := by omega
      simp only [e] at c ⊢
      simp only [c, decide_true, if_true]
      rw [i64w_id (by omega), i64w_id (by omega)]
      have hc : chk (0 ≤ 8 * (m : Int)) = some () := by
        unfold chk; rw [if_pos (by omega)]
      rw [hc, some_bind', apnd_some rfl (by simp; omega), some_bind', hnx _ ⟨m, by simp, by omega, by simp; omega⟩ (by simp)]
      have e2 : min (8 * (m : Int)).toNat 64 = 8 * m := by omega
      have e3 : ((m : Int) - 1 + 1).toNat = m := by omega
      have e4 : ((m : Int) + 1).toNat = m + 1 := by omega
      simp only [e2, e3, e4, be, List.append_assoc, List.cons_append, List.nil_append]
  · simp

theorem number_eq (v : Int) (n : Nat) (hn : n ≤ 8) : ref32_number v n = some (be n v) := by
  simp only [ref32_number, joinP_def]
  refine (whileR_eq (fun s => ∃ m : Nat, s.1 = (m : Int) ∧ m ≤ 8 ∧ s.2.length + m ≤ 8) (fun s => s.1.toNat) (fun s => some (s.2 ++ be s.1.toNat v)) ?_ fuel _ ⟨n, rfl, hn, by simp; omega⟩ (lt_fuel (by simp; omega))).trans ?_
  · rintro next ⟨_, acc⟩ ⟨m, rfl, h1, h2⟩ hnx
    simp only at h2 ⊢
    cases m with
    | zero => simp [be]
    | succ m =>
      have c : ((m + 1 : Nat) : Int) > 0 := by omega
      simp only [c, decide_true, if_true]
      have e : ((m + 1 : Nat) : Int) - 1 = (m : Int) := by omega
      rw [e, i64w_id (x := (m : Int)) (by omega), i64w_id (by omega), toU64_toNat (by omega)]
      rw [apnd_some rfl (by simp; omega), some_bind', hnx _ ⟨m, rfl, by omega, by simp; omega⟩ (by simp)]
      have e2 : min (8 * (m : Int)).toNat 64 = 8 * m := by omega
      have e3 : (m : Int).toNat = m := by omega
      have e4 : ((m + 1 : Nat) : Int).toNat = m + 1 := by omega
      simp only [e2, e3, e4, be, List.append_assoc, List.cons_append, List.nil_append]
  · simp

theorem grace_or {g : Int} (h : 0 ≤ g ∧ g ≤ 4095) : ((BitVec.ofInt 64 g ||| BitVec.ofInt 64 32768).toNat : Int) = g + 32768 := by
  obtain ⟨k, rfl⟩ : ∃ k : Nat, g = (k : Int) := ⟨g.toNat, by omega⟩
  have hk : k < 2 ^ 15 := by omega
  have e : BitVec.ofInt 64 (32768 : Int) = BitVec.ofNat 64 32768 := rfl
  rw [e, BitVec.ofInt_natCast, BitVec.toNat_or, BitVec.toNat_ofNat, BitVec.toNat_ofNat, Nat.mod_eq_of_lt (by omega), Nat.mod_eq_of_lt (by decide)]
  have := Nat.two_pow_add_eq_or_of_lt hk 1
  rw [Nat.or_comm]
  have e2 : 32768 ||| k = 32768 + k := by simpa using this.symm
  rw [e2]; omega

/-- the bytes of an open -/
def caps (o : Open) : List UInt8 :=
  (if o.Role = -1 then [] else [9, 1, toU8 o.Role]) ++ (if o.Grace ≠ 0 ∨ o.Again = true then [64, 2] ++ be 2 (if o.Again then o.Grace + 32768 else o.Grace) else []) ++ [65, 4] ++ be 4 o.ASN

theorem caps_length (o : Open) : (caps o).length ≤ 13 := by
  unfold caps
  simp only [List.length_append, be_length]
  split <;> split <;> simp [be_length]

def enc (o : Open) : List UInt8 :=
  [4] ++ be 2 (if o.ASN ≤ 65535 then o.ASN else 23456) ++ be 2 o.Hold ++ be 4 o.ID ++ [toU8 (((caps o).length : Int) + 2), 2, toU8 ((caps o).length : Int)] ++ caps o

theorem ap {l m : List UInt8} (h : l.length + m.length ≤ 1000000) : apnd (α := UInt8) 1 l m = some (l ++ m) := apnd_some rfl (by omega)
theorem p2 {b : List UInt8} {v : Int} (hb : b.length ≤ 1000) : session_put b 2 v = some (b ++ be 2 v) := put_eq b 2 v (by decide) hb
theorem p4 {b : List UInt8} {v : Int} (hb : b.length ≤ 1000) : session_put b 4 v = some (b ++ be 4 v) := put_eq b 4 v (by decide) hb
theorem be2_length (v : Int) : (be 2 v).length = 2 := rfl
theorem be4_length (v : Int) : (be 4 v).length = 4 := rfl

theorem encode_eq (o : Open) : session_Encode o = some (if okO o then (enc o, 0) else ([], 1)) := by
  simp only [session_Encode, valid_eq, some_bind']
  cases h : okO o
  · simp
  · have hv := of_decide_eq_true h
    have hw : i64w (((BitVec.ofInt 64 o.Grace ||| BitVec.ofInt 64 32768).toNat : Int)) = o.Grace + 32768 := by rw [grace_or ⟨by omega, by omega⟩, i64w_id (by omega)]
    have hl := caps_length o
    have a0 : apnd (α := UInt8) 1 [] [9, 1, toU8 o.Role] = some [9, 1, toU8 o.Role] := ap (by simp)
    simp only [Bool.not_true, Bool.false_eq_true, if_false, if_true, a0, some_bind', joinP_ite, hw]
    generalize e1 : (if (o.Role != -1) = true then [9, 1, toU8 o.Role] else []) = L1
    have n1 : L1.length ≤ 3 := by rw [← e1]; split <;> simp
    generalize e2 : (if (o.Grace != 0) = true then true else o.Again) = g
    generalize e3 : (if o.Again = true then o.Grace + 32768 else o.Grace) = v
    simp only [ap (l := L1) (m := [64, 2]) (by simp; omega), some_bind', p2 (b := L1 ++ [64, 2]) (v := v) (by simp; omega), joinP_ite]
    generalize e4 : (if g = true then L1 ++ [64, 2] ++ be 2 v else L1) = L2
    have n2 : L2.length ≤ 7 := by rw [← e4]; split <;> (try simp [be2_length]) <;> omega
    rw [ap (by simp; omega), some_bind', p4 (by simp; omega), some_bind']
    have hc : L2 ++ [65, 4] ++ be 4 o.ASN = caps o := by
      rw [← e4, ← e2, ← e1, ← e3]
      unfold caps
      by_cases c1 : o.Role = -1 <;> by_cases c2 : o.Grace = 0 <;> cases c3 : o.Again <;> simp [c1, c2, c3]
    rw [hc]
    simp only [decide_eq_true_eq]
    rw [p2 (by simp), some_bind', p2 (by simp [be2_length]), some_bind', p4 (by simp [be2_length]), some_bind', ap (by simp [be2_length, be4_length]), some_bind', ap (by simp [be2_length, be4_length]; omega), some_bind', i64w_id (by omega)]
    simp only [enc, Int.add_comm]

theorem refEncode_eq (o : Open) : ref32_Encode o = some (if okO o then (enc o, 0) else ([], 1)) := by
  simp only [ref32_Encode, refValid_eq, some_bind']
  cases h : okO o
  · simp
  · have hv := of_decide_eq_true h
    have hw : i64w (o.Grace + 32768) = o.Grace + 32768 := i64w_id (by omega)
    have hl := caps_length o
    have a0 : apnd (α := UInt8) 1 [] [9, 1, toU8 o.Role] = some [9, 1, toU8 o.Role] := ap (by simp)
    have n2 : ∀ v : Int, ref32_number v 2 = some (be 2 v) := fun v => number_eq v 2 (by decide)
    have n4 : ∀ v : Int, ref32_number v 4 = some (be 4 v) := fun v => number_eq v 4 (by decide)
    simp only [Bool.not_true, Bool.false_eq_true, if_false, if_true, a0, some_bind', joinP_ite, hw, n2, n4]
    generalize e1 : (if (o.Role != -1) = true then [9, 1, toU8 o.Role] else []) = L1
    have n1 : L1.length ≤ 3 := by rw [← e1]; split <;> simp
    generalize e2 : (if (o.Grace != 0) = true then true else o.Again) = g
    generalize e3 : (if o.Again = true then o.Grace + 32768 else o.Grace) = v
    simp only [ap (l := L1) (m := [64, 2]) (by simp; omega), some_bind', ap (l := L1 ++ [64, 2]) (m := be 2 v) (by simp [be2_length]; omega), joinP_ite]
    generalize e4 : (if g = true then L1 ++ [64, 2] ++ be 2 v else L1) = L2
    have n2 : L2.length ≤ 7 := by rw [← e4]; split <;> (try simp [be2_length]) <;> omega
    rw [ap (by simp; omega), some_bind', ap (by simp [be4_length]; omega), some_bind']
    have hc : L2 ++ [65, 4] ++ be 4 o.ASN = caps o := by
      rw [← e4, ← e2, ← e1, ← e3]
      unfold caps
      by_cases c1 : o.Role = -1 <;> by_cases c2 : o.Grace = 0 <;> cases c3 : o.Again <;> simp [c1, c2, c3]
    have ha : (if decide (o.ASN > 65535) = true then 23456 else o.ASN) = (if o.ASN ≤ 65535 then o.ASN else 23456) := by
      by_cases c : o.ASN ≤ 65535
      · have : ¬ o.ASN > 65535 := by omega
        simp [c, this]
      · have : o.ASN > 65535 := by omega
        simp [c, this]
    rw [hc, ha]
    rw [ap (by simp [be2_length]), some_bind', ap (by simp [be2_length]), some_bind', ap (by simp [be2_length, be4_length]), some_bind', ap (by simp [be2_length, be4_length]), some_bind', ap (by simp [be2_length, be4_length]; omega), some_bind', i64w_id (by omega)]
    simp only [enc]

theorem open_ok {l : List Int} {d : Deck} (h : Dk l d) (asn : Int) : ∃ o d', mill_Deck_Open d asn = some (o, d') ∧ Dk l d' ∧ o.ASN = asn ∧ 1 ≤ o.ID ∧ o.ID ≤ 1073741824 ∧ (o.Hold = 0 ∨ 3 ≤ o.Hold ∧ o.Hold ≤ 65535) ∧ -1 ≤ o.Role ∧ o.Role ≤ 4 ∧ 0 ≤ o.Grace ∧ o.Grace ≤ 4095 := by
  unfold mill_Deck_Open
  obtain ⟨a, d1, e1, a1, a2, k1⟩ := next_ok h 1073741824
  obtain ⟨b, d2, e2, b1, b2, k2⟩ := next_ok k1 5
  obtain ⟨x, g1, g2⟩ := geti_ok ([0, 3, 9, 90, 65535] : List Int) b b1 (by simp; omega)
  obtain ⟨c, d3, e3, c1, c2, k3⟩ := next_ok k2 6
  obtain ⟨e, d4, e4, f1, f2, k4⟩ := next_ok k3 5
  obtain ⟨y, g3, g4⟩ := geti_ok ([0, 0, 1, 60, 4095] : List Int) e f1 (by simp; omega)
  obtain ⟨f, d5, e5, _, _, k5⟩ := next_ok k4 3
  simp only [e1, e2, e3, e4, e5, some_bind', g1, g3]
  refine ⟨_, _, rfl, k5, rfl, ?_⟩
  simp only
  rw [i64w_id (by omega), i64w_id (by omega)]
  simp at g2 g4
  omega

theorem notify_eq (c : Int) : session_Notify c = ref32_Notify c := rfl

theorem awake_eq : law32_awake = some true := by
  simp only [law32_awake, encode_eq, some_bind', joinP_def, bs_toList, mk_toList]
  decide

theorem same_one (m : Message) : ref32_SameMessages [m] [m] = some true := by
  simp [ref32_SameMessages, joinP_def, forR, geti]

theorem sessionOpens (raw : Open) (l : List Int) (code : Int) (hl : l.length ≤ 9223372036854775807) : law32_SessionOpens raw l code = some true := by
  unfold law32_SessionOpens
  obtain ⟨a, d1, e1, k1, _⟩ := asn_ok (l := l) (d := ⟨l, 0⟩) ⟨rfl, by simp, hl⟩
  obtain ⟨o1, d2, e2, k2, _⟩ := open_ok k1 a
  obtain ⟨o2, d3, e3, k3, _⟩ := open_ok k2 101
  obtain ⟨o3, d4, e4, k4, _⟩ := open_ok k3 4294967295
  have hn : mill_New l = some ⟨l, 0⟩ := rfl
  have nf : ∀ c, ref32_Notify c = some ⟨3, [toU8 c, 0]⟩ := fun c => rfl
  simp only [hn, e1, e2, e3, e4, some_bind', joinP_def, forR, encode_eq, refEncode_eq, valid_eq, refValid_eq, awake_eq, notify_eq, nf, same_one]
  simp
end Go.AX.Q32
