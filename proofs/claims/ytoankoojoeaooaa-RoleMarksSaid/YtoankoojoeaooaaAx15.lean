/-
  AX, part 15: the table of the types, checked.
-/
import Derived.Test.YtoankoojoeaooaaAx14
namespace Go.AX

def zeroB : D → Value → Bool
  | .val (.int k n), .int k' n' => decide (k = k') && decide (n = n')
  | .val (.bool b), .bool b' => b == b'
  | .val (.string s), .string s' => Nat.beq s.data.toList.length 0 && Nat.beq s'.data.toList.length 0
  | .val (.pointer none), .pointer none => true
  | .val .nilFunc, .nilFunc => true
  | .val .nilIface, .nilIface => true
  | .val (.map none), .map none => true
  | .nil _, .slice none 0 0 => true
  | _, _ => false

theorem zeroB_ok {d : D} {v : Value} (h : zeroB d v = true) : zeroOk d v := by
  unfold zeroB at h
  split at h
  · simp only [Bool.and_eq_true, decide_eq_true_eq] at h
    obtain ⟨rfl, rfl⟩ := h
    exact ⟨rfl, rfl⟩
  · have h := eq_of_beq h
    subst h
    exact ⟨rfl, rfl⟩
  · rename_i s s'
    simp only [Bool.and_eq_true, beq_iff, List.length_eq_zero_iff] at h
    have e : s = s' := by
      cases s; cases s'
      congr
      apply Array.toList_inj.1
      rw [h.1, h.2]
    subst e
    exact ⟨rfl, rfl⟩
  all_goals first | exact ⟨rfl, rfl⟩ | rfl | simp at h

def zerosB : List D → List Value → Bool
  | [], [] => true
  | d :: ds, v :: vs => zeroB d v && zerosB ds vs
  | _, _ => false

theorem zerosB_ok : ∀ {ds : List D} {vs : List Value}, zerosB ds vs = true → ds.length = vs.length ∧ ∀ j (hj : j < ds.length) v, vs[j]? = some v → zeroOk ds[j] v
  | [], [], _ => ⟨rfl, fun j hj => by simp at hj⟩
  | d :: ds, v :: vs, h => by
    simp only [zerosB, Bool.and_eq_true] at h
    obtain ⟨h1, h2⟩ := zerosB_ok h.2
    refine ⟨by simp [h1], fun j hj u hu => ?_⟩
    cases j with
    | zero =>
      simp only [List.getElem?_cons_zero, Option.some.injEq] at hu
      subst hu
      exact zeroB_ok h.1
    | succ j => exact h2 j (by simpa using hj) u (by simpa using hu)
  | [], _ :: _, h => by simp [zerosB] at h
  | _ :: _, [], h => by simp [zerosB] at h

def fieldsB (P : Program) : List Field → List (Nat × Nat × Nat) → Bool
  | [], [] => true
  | f :: fs, (o, s, t) :: l => Nat.beq f.offset o && Nat.beq f.type t && (match P.info? f.type with
    | some i => Nat.beq i.size s
    | none => false) && !(f.name == "_") && fieldsB P fs l
  | _, _ => false

theorem fieldsB_ok {P : Program} : ∀ {F : List Field} {l : List (Nat × Nat × Nat)}, fieldsB P F l = true →
    F.map (fun f => (f.offset, (P.info? f.type).map (·.size), f.type)) = l.map (fun x => (x.1, some x.2.1, x.2.2)) ∧ ∀ f ∈ F, f.name ≠ "_"
  | [], [], _ => ⟨rfl, fun f hf => by simp at hf⟩
  | f :: fs, (o, s, t) :: l, h => by
    simp only [fieldsB, Bool.and_eq_true, beq_iff] at h
    obtain ⟨⟨⟨⟨h1, h2⟩, h3⟩, h4⟩, h5⟩ := h
    obtain ⟨g1, g2⟩ := fieldsB_ok h5
    refine ⟨?_, fun g hg => ?_⟩
    · simp only [List.map_cons, g1, List.cons.injEq, Prod.mk.injEq, and_true]
      refine ⟨h1, ?_, h2⟩
      split at h3
      · rename_i i hi
        rw [hi]
        simpa using h3
      · simp at h3
    · rcases List.mem_cons.1 hg with rfl | hg
      · simpa using h4
      · exact g2 g hg
  | [], _ :: _, h => by simp [fieldsB] at h
  | _ :: _, [], h => by simp [fieldsB] at h

def kindB (P : Program) (t : Nat) (k : TK) : Bool := match k, P.underlying t with
  | .bool, some .bool => true
  | .int k, some (.int k') => decide (k' = k)
  | .str, some .string => true
  | .ptr, some (.pointer _) => true
  | .fn, some (.func _ _ _) => true
  | .slice e, some (.slice e') => Nat.beq e' e
  | .arr n e, some (.array n' e') => Nat.beq n' n && Nat.beq e' e
  | .map k e, some (.map k' e') => Nat.beq k' k && Nat.beq e' e
  | .struct fs, some (.struct F) => !P.stoodInHeld t && !P.eqGuardType P.depth t && fieldsB P F.toList fs
  | .other, _ => true
  | _, _ => false

theorem kindB_ok {P : Program} {t : Nat} {k : TK} (h : kindB P t k = true) : KindOk P t k := by
  unfold kindB at h
  split at h <;> simp only [KindOk]
  · assumption
  · rename_i hu; rw [hu, of_decide_eq_true h]
  · assumption
  · exact ⟨_, by assumption⟩
  · exact ⟨_, _, _, by assumption⟩
  · rename_i hu; rw [hu, Nat.eq_of_beq_eq_true h]
  · rename_i hu
    simp only [Bool.and_eq_true, beq_iff] at h
    rw [hu, h.1, h.2]
  · rename_i hu
    simp only [Bool.and_eq_true, beq_iff] at h
    rw [hu, h.1, h.2]
  · rename_i fs F hu
    simp only [Bool.and_eq_true, Bool.not_eq_true'] at h
    exact ⟨h.1.1, h.1.2, F, hu, fieldsB_ok h.2⟩
  · simp at h

def aggB (k : TK) (z : Value) : Bool := match z, k.cls with
  | .agg _, some false => false
  | .agg _, _ => true
  | _, some true => false
  | _, _ => true

def tiB (P : Program) (t : Nat) (ti : TI) : Bool := match P.info? t with
  | some i => (match i.zero with
    | some z => Nat.beq i.size ti.size && Nat.beq i.bytes ti.bytes && Nat.beq ti.zero.length ti.size && zerosB ti.zero z.cells.toList && kindB P t ti.kind && aggB ti.kind z
    | none => false)
  | none => false

theorem tiB_ok {P : Program} {t : Nat} {ti : TI} (h : tiB P t ti = true) : TiOk P t ti := by
  unfold tiB at h
  split at h
  · rename_i i hi
    split at h
    · rename_i z hz
      simp only [Bool.and_eq_true, beq_iff] at h
      obtain ⟨⟨⟨⟨⟨h1, h2⟩, h3⟩, h4⟩, h5⟩, h6⟩ := h
      obtain ⟨g1, g2⟩ := zerosB_ok h4
      exact ⟨⟨i, z, hi, h1, h2, hz, by rw [← Array.length_toList, ← g1, h3], h3, fun j hj v hv => g2 j hj v (by simpa using hv)⟩, kindB_ok h5, fun i' z' hi' hz' => by
        rw [hi] at hi'
        obtain rfl := Option.some.inj hi'
        rw [hz] at hz'
        obtain rfl := Option.some.inj hz'
        refine ⟨fun hc => ?_, fun hc cs e => ?_⟩
        · cases z <;> first | exact ⟨_, rfl⟩ | (simp [aggB, hc] at h6)
        · subst e; simp [aggB, hc] at h6⟩
    · simp at h
  · simp at h

def tabB (P : Program) : TT → Bool
  | .tip => true
  | .node k v l r => (v.kind.cls.isNone || tiB P k v) && tabB P l && tabB P r

theorem tabB_ok {P : Program} : ∀ {T : TT}, tabB P T = true → TabOk P T
  | .tip, _ => fun t => .inl rfl
  | .node k v l r, h => fun t => by
    simp only [tabB, Bool.and_eq_true, Bool.or_eq_true] at h
    simp only [TT.get]
    cases hb : Nat.beq t k with
    | true =>
      have := Nat.eq_of_beq_eq_true hb
      subst this
      simp only
      rcases h.1.1 with h | h
      · exact .inl (by simpa using h)
      · exact .inr (tiB_ok h)
    | false =>
      simp only
      cases Nat.blt t k with
      | true => exact tabB_ok h.1.2 t
      | false => exact tabB_ok h.2 t

end Go.AX
