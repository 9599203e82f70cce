/-
  Plain laws on open messages: what is encoded is decoded.
-/
import Derived.Test.YtikcogmkchljaaaL32E
namespace Go.AX.Q32
open Go Go.AX

/-- a number below a power of 256 comes back -/
theorem vstep_eq {v : Int} {x : UInt8} (h : 0 ≤ v ∧ v < 2 ^ 48) : vstep v x = v * 256 + (x.toNat : Int) := by
  have hx := x.toNat_lt
  obtain ⟨k, rfl⟩ : ∃ k : Nat, v = (k : Int) := ⟨v.toNat, by omega⟩
  have hk : k < 2 ^ 48 := by omega
  unfold vstep
  have e : (k : Int) * (2 ^ (min (Int.toNat 8) 64)) = ((k * 256 : Nat) : Int) := by
    simp
  rw [e, i64w_id (x := ((k * 256 : Nat) : Int)) (by omega), BitVec.ofInt_natCast, BitVec.ofInt_natCast, BitVec.toNat_or, BitVec.toNat_ofNat, BitVec.toNat_ofNat, Nat.mod_eq_of_lt (by omega), Nat.mod_eq_of_lt (by omega)]
  have := Nat.two_pow_add_eq_or_of_lt (i := 8) (b := x.toNat) hx k
  have e2 : k * 256 ||| x.toNat = k * 256 + x.toNat := by
    rw [Nat.mul_comm]; exact this.symm
  rw [e2, i64w_id (by omega)]
  omega

theorem u8_mod (v : Int) : ((toU8 v).toNat : Int) = v % 256 := by
  simp only [toU8, UInt8.toNat_ofNat']; simp; omega

theorem val_be2 {v : Int} (h : 0 ≤ v ∧ v ≤ 65535) : val (be 2 v) = v := by
  have e1 : (2 : Int) ^ (8 * 1) = 256 := rfl
  have e0 : (2 : Int) ^ (8 * 0) = 1 := rfl
  show vstep (vstep 0 (toU8 (Int.fdiv v (2 ^ (8 * 1))))) (toU8 (Int.fdiv v (2 ^ (8 * 0)))) = v
  rw [e1, e0, Int.fdiv_eq_ediv_of_nonneg _ (by decide), Int.fdiv_eq_ediv_of_nonneg _ (by decide)]
  rw [vstep_eq (v := 0) (by decide), u8_mod, vstep_eq (by omega), u8_mod]
  omega

theorem val_be4 {v : Int} (h : 0 ≤ v ∧ v ≤ 4294967295) : val (be 4 v) = v := by
  have e3 : (2 : Int) ^ (8 * 3) = 16777216 := rfl
  have e2 : (2 : Int) ^ (8 * 2) = 65536 := rfl
  have e1 : (2 : Int) ^ (8 * 1) = 256 := rfl
  have e0 : (2 : Int) ^ (8 * 0) = 1 := rfl
  show vstep (vstep (vstep (vstep 0 (toU8 (Int.fdiv v (2 ^ (8 * 3))))) (toU8 (Int.fdiv v (2 ^ (8 * 2))))) (toU8 (Int.fdiv v (2 ^ (8 * 1))))) (toU8 (Int.fdiv v (2 ^ (8 * 0)))) = v
  rw [e3, e2, e1, e0, Int.fdiv_eq_ediv_of_nonneg _ (by decide), Int.fdiv_eq_ediv_of_nonneg _ (by decide), Int.fdiv_eq_ediv_of_nonneg _ (by decide), Int.fdiv_eq_ediv_of_nonneg _ (by decide)]
  rw [vstep_eq (v := 0) (by decide), u8_mod, vstep_eq (v := 0 * 256 + v / 16777216 % 256) (by omega), u8_mod, vstep_eq (v := (0 * 256 + v / 16777216 % 256) * 256 + v / 65536 % 256) (by omega), u8_mod, vstep_eq (by omega), u8_mod]
  omega

theorem tlv_app {t n : UInt8} {p q : List UInt8} (h : n.toNat = p.length) : tlv ((t :: n :: (p ++ q)).length + 1) (t :: n :: (p ++ q)) = (tlv (q.length + 1) q).map ((t, p) :: ·) := by
  have e1 : (p ++ q).drop n.toNat = q := by rw [h]; simp
  have e2 : (p ++ q).take n.toNat = p := by rw [h]; simp
  simp only [List.length_cons, tlv]
  rw [if_neg (by simp; omega), e1, e2, tlv_fuel q (by simp; omega)]

/-- the parts of an open's capabilities -/
def parts (o : Open) : List (UInt8 × List UInt8) :=
  (if o.Role = -1 then [] else [(9, [toU8 o.Role])]) ++ (if o.Grace ≠ 0 ∨ o.Again = true then [(64, be 2 (if o.Again then o.Grace + 32768 else o.Grace))] else []) ++ [(65, be 4 o.ASN)]

theorem tlv_caps (o : Open) : tlv ((caps o).length + 1) (caps o) = some (parts o) := by
  have t0 : tlv (([] : List UInt8).length + 1) [] = some [] := rfl
  have t4 : tlv (([65, 4] ++ be 4 o.ASN).length + 1) ([65, 4] ++ be 4 o.ASN) = some [(65, be 4 o.ASN)] := by
    have := tlv_app (t := 65) (n := 4) (p := be 4 o.ASN) (q := []) rfl
    rw [List.append_nil, t0] at this
    exact this
  have t2 : ∀ v, tlv (([64, 2] ++ be 2 v ++ ([65, 4] ++ be 4 o.ASN)).length + 1) ([64, 2] ++ be 2 v ++ ([65, 4] ++ be 4 o.ASN)) = some [(64, be 2 v), (65, be 4 o.ASN)] := by
    intro v
    have := tlv_app (t := 64) (n := 2) (p := be 2 v) (q := [65, 4] ++ be 4 o.ASN) rfl
    rw [t4] at this
    exact this
  unfold caps parts
  by_cases c1 : o.Role = -1 <;> by_cases c2 : o.Grace ≠ 0 ∨ o.Again = true
  · rw [if_pos c1, if_pos c1, if_pos c2, if_pos c2]
    exact t2 _
  · rw [if_pos c1, if_pos c1, if_neg c2, if_neg c2]
    exact t4
  · rw [if_neg c1, if_neg c1, if_pos c2, if_pos c2]
    have := tlv_app (t := 9) (n := 1) (p := [toU8 o.Role]) (q := [64, 2] ++ be 2 (if o.Again = true then o.Grace + 32768 else o.Grace) ++ ([65, 4] ++ be 4 o.ASN)) rfl
    rw [t2] at this
    exact this
  · rw [if_neg c1, if_neg c1, if_neg c2, if_neg c2]
    have := tlv_app (t := 9) (n := 1) (p := [toU8 o.Role]) (q := [65, 4] ++ be 4 o.ASN) rfl
    rw [t4] at this
    exact this

def foundIn (o : Open) : St := ⟨if o.Role = -1 then none else some o.Role, if o.Grace ≠ 0 ∨ o.Again = true then some (if o.Again then o.Grace + 32768 else o.Grace) else none, some o.ASN⟩

theorem inner_parts (o : Open) (h : okO o = true) : inner found (parts o) = some (foundIn o) := by
  have hv := of_decide_eq_true h
  have v9 : val [toU8 o.Role] = if o.Role = -1 then val [toU8 o.Role] else o.Role := by
    split
    · rfl
    · rw [val_one, u8_mod]; omega
  have v64 : val (be 2 (if o.Again = true then o.Grace + 32768 else o.Grace)) = (if o.Again = true then o.Grace + 32768 else o.Grace) := by
    apply val_be2
    split <;> omega
  have v65 : val (be 4 o.ASN) = o.ASN := val_be4 (by omega)
  unfold parts foundIn
  by_cases c1 : o.Role = -1 <;> by_cases c2 : o.Grace ≠ 0 ∨ o.Again = true
  all_goals simp only [c1, c2, if_true, if_false, List.nil_append, List.cons_append, inner, capStep, found, be_length, Option.isSome_none, Bool.false_eq_true, false_or, ne_eq, not_true_eq_false, Option.bind_some, v64, v65, List.length_cons, List.length_nil, Nat.zero_add, show ¬ (64 : UInt8) = 9 by decide, show ¬ (65 : UInt8) = 9 by decide, show ¬ (65 : UInt8) = 64 by decide]
  all_goals (rw [v9, if_neg c1])

theorem dec_enc (o : Open) (h : okO o = true) : dec (enc o) = (o, 0) := by
  have hv := of_decide_eq_true h
  have hc := caps_length o
  have hl : ((toU8 ((caps o).length : Int)).toNat) = (caps o).length := by
    have := u8_mod ((caps o).length : Int)
    omega
  have e : enc o = 4 :: toU8 (Int.fdiv (if o.ASN ≤ 65535 then o.ASN else 23456) (2 ^ (8 * 1))) :: toU8 (Int.fdiv (if o.ASN ≤ 65535 then o.ASN else 23456) (2 ^ (8 * 0))) ::
      toU8 (Int.fdiv o.Hold (2 ^ (8 * 1))) :: toU8 (Int.fdiv o.Hold (2 ^ (8 * 0))) ::
      toU8 (Int.fdiv o.ID (2 ^ (8 * 3))) :: toU8 (Int.fdiv o.ID (2 ^ (8 * 2))) :: toU8 (Int.fdiv o.ID (2 ^ (8 * 1))) :: toU8 (Int.fdiv o.ID (2 ^ (8 * 0))) ::
      toU8 (((caps o).length : Int) + 2) :: 2 :: toU8 ((caps o).length : Int) :: (caps o ++ []) := by
    rw [List.append_nil]; rfl
  have va : val [toU8 (Int.fdiv (if o.ASN ≤ 65535 then o.ASN else 23456) (2 ^ (8 * 1))), toU8 (Int.fdiv (if o.ASN ≤ 65535 then o.ASN else 23456) (2 ^ (8 * 0)))] = (if o.ASN ≤ 65535 then o.ASN else 23456) := val_be2 (by split <;> omega)
  have vh : val [toU8 (Int.fdiv o.Hold (2 ^ (8 * 1))), toU8 (Int.fdiv o.Hold (2 ^ (8 * 0)))] = o.Hold := val_be2 (by omega)
  have vi : val [toU8 (Int.fdiv o.ID (2 ^ (8 * 3))), toU8 (Int.fdiv o.ID (2 ^ (8 * 2))), toU8 (Int.fdiv o.ID (2 ^ (8 * 1))), toU8 (Int.fdiv o.ID (2 ^ (8 * 0)))] = o.ID := val_be4 (by omega)
  have ht : (tlv ((2 :: toU8 ((caps o).length : Int) :: (caps o ++ [])).length + 1) (2 :: toU8 ((caps o).length : Int) :: (caps o ++ []))).bind (outer found) = some (foundIn o) := by
    rw [tlv_app hl]
    show (Option.map _ (some [])).bind (outer found) = _
    simp only [Option.map_some, Option.bind_some, outer, if_true, tlv_caps, inner_parts o h]
  rw [e]
  simp only [dec]
  rw [va, vh, vi, ht]
  rw [if_neg (by simp), if_neg (by rw [u8_mod]; simp; omega)]
  have hm : mk ⟨(if o.ASN ≤ 65535 then o.ASN else 23456), o.ID, o.Hold, -1, 0, false⟩ (foundIn o) = o := by
    obtain ⟨asn, id, hold, role, grace, again⟩ := o
    simp only at hv
    simp only [mk, foundIn, Option.getD_some, Open.mk.injEq, true_and]
    obtain ⟨g, rfl⟩ : ∃ g : Nat, grace = (g : Int) := ⟨grace.toNat, by omega⟩
    have hg : g < 2 ^ 12 := by omega
    refine ⟨?_, ?_, ?_⟩
    · split <;> simp_all
    · split
      · rename_i hr
        split at hr
        · cases hr
        · rename_i hh; simp at hh; omega
      · rename_i r hr
        split at hr
        · cases hr
          have e4 : BitVec.ofInt 64 (4095 : Int) = BitVec.ofNat 64 4095 := rfl
          cases again
          · simp only [Bool.false_eq_true, if_false]
            rw [e4, BitVec.ofInt_natCast, BitVec.toNat_and, BitVec.toNat_ofNat, BitVec.toNat_ofNat, Nat.mod_eq_of_lt (by omega), Nat.mod_eq_of_lt (by decide)]
            rw [show (4095 : Nat) = 2 ^ 12 - 1 from rfl, Nat.and_two_pow_sub_one_eq_mod, Nat.mod_eq_of_lt hg, i64w_id (by omega)]
          · simp only [if_true]
            rw [show (g : Int) + 32768 = ((g + 32768 : Nat) : Int) by omega, e4, BitVec.ofInt_natCast, BitVec.toNat_and, BitVec.toNat_ofNat, BitVec.toNat_ofNat, Nat.mod_eq_of_lt (by omega), Nat.mod_eq_of_lt (by decide)]
            rw [show (4095 : Nat) = 2 ^ 12 - 1 from rfl, Nat.and_two_pow_sub_one_eq_mod]
            have : (g + 32768) % 2 ^ 12 = g := by omega
            rw [this, i64w_id (by omega)]
        · cases hr
    · split
      · rename_i hr
        split at hr
        · cases hr
        · rename_i hh; simp at hh; simp [hh.2]
      · rename_i r hr
        split at hr
        · cases hr
          have e15 : (2 : Int) ^ (min (Int.toNat 15) 64) = 32768 := rfl
          rw [e15, Int.fdiv_eq_ediv_of_nonneg _ (by decide)]
          cases again
          · simp only [Bool.false_eq_true, if_false]
            rw [beq_eq_false_iff_ne]; omega
          · simp only [if_true]
            rw [beq_iff_eq]; omega
        · cases hr
  simp only [hm, h, if_true]
  rw [if_neg]
  rintro ⟨_, h1, h2⟩
  split at h1
  · exact h1 rfl
  · rename_i hb
    rw [if_neg hb] at h2
    omega

theorem sessionBack (l : List Int) (a : Int) (hl : l.length ≤ 9223372036854775807) : law32_SessionBack l a = some true := by
  unfold law32_SessionBack
  have hn : mill_New l = some ⟨l, 0⟩ := rfl
  have hg := gomod_range a (n := 4294967295) (by decide)
  have hi : i64w (1 + gomod a 4294967295) = 1 + gomod a 4294967295 := i64w_id (by omega)
  obtain ⟨o, d2, e2, k2, x⟩ := open_ok (l := l) (d := ⟨l, 0⟩) ⟨rfl, by simp, hl⟩ (1 + gomod a 4294967295)
  have ho : okO o = true := decide_eq_true (by omega)
  have hlen := enc_length o
  simp only [hn, mod_eq _ _ (show (0 : Int) < 4294967295 by decide) (show (4294967295 : Int) ≤ 9223372036854775807 by decide), some_bind', hi, e2, encode_eq, ho, if_true, decode_eq (enc o) (by omega), dec_enc o ho, awake_eq, eqd_refl]
  have : ((enc o).length : Int) ≤ 29 := by omega
  simp [this, joinP_def]
theorem sessionBackW (l : List Int) (a : Int) (h : l.length ≤ maxLen ∧ ∀ a ∈ l, I64 a) (_ : I64 a) : law32_SessionBack l a = some true := sessionBack l a h.1
end Go.AX.Q32
