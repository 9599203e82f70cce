/-
  AX, part 19: the words of the plain forms of functions, and how a walk keeps step with a plain form.
-/
import Derived.Test.YtoankoojoeaooaaAx18
namespace Go.AX

/-! ## Plain words -/
/-- ways that meet: 'k' is what follows -/
def joinP {τ ρ : Type} (m : (τ → Option ρ) → Option ρ) (k : τ → Option ρ) : Option ρ := m k

def geti {α : Type} (l : List α) (i : Int) : Option α := if 0 ≤ i ∧ i < l.length then l[i.toNat]? else none
def seti {α : Type} (l : List α) (i : Int) (x : α) : Option (List α) := if 0 ≤ i ∧ i < l.length then some (l.set i.toNat x) else none
def apnd {α : Type} (b : Nat) (l m : List α) : Option (List α) := if (l.length + m.length) * b ≤ 2 ^ 47 ∧ l.length + m.length ≤ 2 ^ 47 then some (l ++ m) else none
def part {α : Type} (l : List α) (a b : Int) : Option (List α) := if 0 ≤ a ∧ a ≤ b ∧ b ≤ l.length then some ((l.drop a.toNat).take (b.toNat - a.toNat)) else none
def spart (s : ByteArray) (a b : Int) : Option ByteArray := if 0 ≤ a ∧ a ≤ b ∧ b ≤ s.size then some (s.extract a.toNat b.toNat) else none
def chk (p : Prop) [Decidable p] : Option Unit := if p then some () else none

abbrev i64w (x : Int) : Int := IntKind.i64.wrap x

def forR {α σ ρ : Type} (done : σ → Option ρ) (body : (σ → Option ρ) → α → Nat → σ → Option ρ) : List α → Nat → σ → Option ρ
  | [], _, s => done s
  | x :: t, i, s => body (forR done body t (i + 1)) x i s

def whileR {σ ρ : Type} (body : (σ → Option ρ) → σ → Option ρ) : Nat → σ → Option ρ
  | 0, _ => none
  | n + 1, s => body (whileR body n) s

/-- more rounds than any loop here takes -/
def fuel : Nat := 2 ^ 64

abbrev D.u8 (x : UInt8) : D := .val (.int .u8 (x.toNat : Int))
abbrev D.u16 (x : UInt16) : D := .val (.int .u16 (x.toNat : Int))
abbrev D.u32 (x : UInt32) : D := .val (.int .u32 (x.toNat : Int))
abbrev D.u64 (x : UInt64) : D := .val (.int .u64 (x.toNat : Int))
abbrev D.l {α : Type} (sz : Nat) (f : α → D) (l : List α) : D := .lst sz (l.map f)

/-! ## Keeping step -/
theorem bind_inv {α ρ : Type} {x : Option α} {f : α → Option ρ} {r : ρ} (h : x.bind f = some r) : ∃ a, x = some a ∧ f a = some r := by
  cases x with
  | none => cases h
  | some a => exact ⟨a, rfl, h⟩

theorem sel_if {b : Bool} {ρ : Type} {X Y : Option ρ} {r : ρ} {A B : Prop} (h1 : X = some r → A) (h2 : Y = some r → B) : (if b = true then X else Y) = some r → selK b A B := by
  intro h
  cases b
  · exact h2 h
  · exact h1 h

theorem sel_t {b : Bool} {A B : Prop} (hb : b = true) (h : A) : selK b A B := by subst hb; exact h
theorem sel_f {b : Bool} {A B : Prop} (hb : b = false) (h : B) : selK b A B := by subst hb; exact h

theorem geti_b {α β : Type} {f : α → β} {l : List α} {i : Int} {v : α} (h : geti l i = some v) : 0 ≤ i ∧ i < ((l.map f).length : Int) := by
  unfold geti at h
  split at h
  · rename_i hb; simpa using hb
  · cases h

theorem geti_b' {α β : Type} {f : α → β} {l : List α} {i : Int} {v : α} (h : geti l i = some v) : 0 ≤ i ∧ i < (((l.map f).length : Nat) : Int) := geti_b h

theorem geti_d {α : Type} {f : α → D} {l : List α} {i : Int} {v : α} (h : geti l i = some v) : (l.map f).getD i.toNat default = f v := by
  unfold geti at h
  split at h
  · rename_i hb; simp [h]
  · cases h

theorem geti_a {α : Type} {f : α → AV} {l : List α} {i : Int} {v : α} (h : geti l i = some v) : (l.map f)[i.toNat * 1]? = some (f v) := by
  unfold geti at h
  split at h
  · simp [h]
  · cases h

theorem geti_s {s : ByteArray} {i : Int} {v : UInt8} (h : geti s.toList i = some v) : 0 ≤ i ∧ i < (s.size : Int) := by
  have e : s.toList.length = s.size := by rw [ByteArray.toList_eq, Array.length_toList]; rfl
  unfold geti at h
  split at h
  · rename_i hb; rw [e] at hb; exact hb
  · cases h

theorem geti_sd {s : ByteArray} {i : Int} {v : UInt8} (h : geti s.toList i = some v) : s.toList.getD i.toNat 0 = v := by
  unfold geti at h
  split at h
  · simp [h]
  · cases h

/-- a string out of bytes -/
def bs (l : List UInt8) : ByteArray := ⟨l.toArray⟩

theorem seti_b {α β : Type} {f : α → β} {l l' : List α} {i : Int} {v : α} (h : seti l i v = some l') : 0 ≤ i ∧ i < ((l.map f).length : Int) := by
  unfold seti at h
  split at h
  · rename_i hb; simpa using hb
  · cases h

theorem seti_z {α : Type} {f : α → D} {l l' : List α} {i : Int} {v : α} (h : seti l i v = some l') : (l.map f).set i.toNat (f v) = l'.map f := by
  unfold seti at h
  split at h
  · cases h; rw [List.map_set]
  · cases h

theorem seti_len {α : Type} {l l' : List α} {i : Int} {v : α} (h : seti l i v = some l') : l'.length = l.length := by
  unfold seti at h
  split at h
  · cases h; simp
  · cases h

theorem apnd_e {α : Type} {b : Nat} {l m l' : List α} (h : apnd b l m = some l') : l' = l ++ m := by
  unfold apnd at h
  split at h
  · cases h; rfl
  · cases h

theorem apnd_b {α : Type} {b : Nat} {l m l' : List α} {f g : α → D} (h : apnd b l m = some l') : ((l.map f).length + (m.map g).length) * b ≤ 2 ^ 47 ∧ (l.map f).length + (m.map g).length ≤ 2 ^ 47 := by
  unfold apnd at h
  split at h
  · rename_i hb; simpa using hb
  · cases h

theorem apnd_b0 {α : Type} {b : Nat} {m l' : List α} {g : α → D} (h : apnd b [] m = some l') : (m.map g).length * b ≤ 2 ^ 47 ∧ (m.map g).length ≤ 2 ^ 47 := by
  simpa using apnd_b (f := g) (g := g) h

theorem apnd_z {α : Type} {b : Nat} {l m l' : List α} {f : α → D} (h : apnd b l m = some l') : l.map f ++ m.map f = l'.map f := by
  rw [apnd_e h, List.map_append]

theorem part_b {α : Type} {f : α → D} {l l' : List α} {a b : Int} (h : part l a b = some l') : 0 ≤ a ∧ a ≤ b ∧ b ≤ ((l.map f).length : Int) := by
  unfold part at h
  split at h
  · rename_i hb; simpa using hb
  · cases h
theorem part_b0 {α : Type} {f : α → D} {l l' : List α} {a : Int} (h : part l a l.length = some l') : 0 ≤ a ∧ a ≤ ((l.map f).length : Int) ∧ ((l.map f).length : Int) ≤ ((l.map f).length : Int) := by
  have := part_b (f := f) h
  simp at this ⊢
  exact this
theorem part_z {α : Type} {f : α → D} {l l' : List α} {a b : Int} (h : part l a b = some l') : ((l.map f).drop a.toNat).take (b.toNat - a.toNat) = l'.map f := by
  unfold part at h
  split at h
  · cases h; rw [List.map_take, List.map_drop]
  · cases h
theorem part_z0 {α : Type} {f : α → D} {l l' : List α} {a : Int} (h : part l a l.length = some l') : ((l.map f).drop a.toNat).take (((l.map f).length : Int).toNat - a.toNat) = l'.map f := by
  have := part_z (f := f) h
  simpa using this
theorem spart_inv {s s' : ByteArray} {a b : Int} (h : spart s a b = some s') : (0 ≤ a ∧ a ≤ b ∧ b ≤ (s.size : Int)) ∧ s.extract a.toNat b.toNat = s' := by
  unfold spart at h
  split at h
  · rename_i hb; cases h; exact ⟨hb, rfl⟩
  · cases h
theorem make_b {n c : Int} {b : Nat} {u : Unit} (h : chk (0 ≤ n ∧ n ≤ c ∧ c ≤ 1048576) = some u) (hb : b ≤ 65536) : 0 ≤ n ∧ n ≤ c ∧ c ≤ 1048576 ∧ b ≤ 65536 := by
  unfold chk at h
  split at h
  · rename_i q; exact ⟨q.1, q.2.1, q.2.2, hb⟩
  · cases h

/-! maps -/
def mget {K V : Type} [BEq K] : List (K × V) → K → Option V
  | [], _ => none
  | p :: l, k => if k == p.1 then some p.2 else mget l k
def mset {K V : Type} [BEq K] : List (K × V) → K → V → List (K × V)
  | [], k, v => [(k, v)]
  | p :: l, k, v => if k == p.1 then (k, v) :: l else p :: mset l k v
def entsD {K V : Type} (ek : K → D) (ev : V → D) (l : List (K × V)) : List (D × D) := l.map fun p => (ek p.1, ev p.2)

theorem mapGet_ok {K V : Type} [BEq K] {tk : TK} {ek : K → D} {ev : V → D} {l : List (K × V)} {k : K} (h : ∀ a b, keyEq tk (ek a) (ek b) = some (a == b)) : mapGet tk (ek k) (entsD ek ev l) = some ((mget l k).map ev) := by
  induction l with
  | nil => rfl
  | cons p l ih =>
    simp only [entsD, List.map_cons, mapGet, h, mget]
    cases k == p.1
    · simpa [entsD] using ih
    · simp
theorem mapSet_ok {K V : Type} [BEq K] {tk : TK} {ek : K → D} {ev : V → D} {l : List (K × V)} {k : K} {v : V} (h : ∀ a b, keyEq tk (ek a) (ek b) = some (a == b)) : mapSet tk (ek k) (ev v) (entsD ek ev l) = some (entsD ek ev (mset l k v)) := by
  induction l with
  | nil => rfl
  | cons p l ih =>
    simp only [entsD, List.map_cons, mapSet, h, mset]
    cases k == p.1
    · simp only [entsD] at ih
      simp [ih]
    · simp
theorem mget_d {V : Type} {f : V → D} {o : Option V} {z : V} {zD : D} (hz : zD = f z) : (o.map f).getD zD = f (o.getD z) := by
  cases o <;> simp [hz]
theorem mget_s {V : Type} {f : V → D} {o : Option V} : (o.map f).isSome = o.isSome := by
  cases o <;> rfl
theorem mget_dg {V : Type} {f : V → D} {o : Option V} {z v : V} {zD : D} (hz : zD = f z) (g : some (o.getD z) = some v) : (o.map f).getD zD = f v := by
  rw [mget_d hz, Option.some.inj g]
theorem mget_sg {V : Type} {f : V → D} {o : Option V} {b : Bool} (g : some o.isSome = some b) : (o.map f).isSome = b := by
  rw [mget_s, Option.some.inj g]
theorem keyEq_i (a b : Int) : keyEq (.int .i64) (D.i a) (D.i b) = some (a == b) := by simp [keyEq]
theorem keyEq_b (a b : Bool) : keyEq .bool (D.b a) (D.b b) = some (a == b) := rfl
theorem keyEq_s (a b : ByteArray) : keyEq .str (D.s a) (D.s b) = some (a == b) := rfl
theorem keyEq_u8 (a b : UInt8) : keyEq (.int .u8) (D.u8 a) (D.u8 b) = some (a == b) := by
  simp only [keyEq, if_true, Option.some.injEq]
  rw [Bool.eq_iff_iff]
  simp only [beq_iff_eq, Int.natCast_inj]
  exact UInt8.toNat_inj
theorem keyEq_u16 (a b : UInt16) : keyEq (.int .u16) (D.u16 a) (D.u16 b) = some (a == b) := by
  simp only [keyEq, if_true, Option.some.injEq]
  rw [Bool.eq_iff_iff]
  simp only [beq_iff_eq, Int.natCast_inj]
  exact UInt16.toNat_inj
theorem keyEq_u32 (a b : UInt32) : keyEq (.int .u32) (D.u32 a) (D.u32 b) = some (a == b) := by
  simp only [keyEq, if_true, Option.some.injEq]
  rw [Bool.eq_iff_iff]
  simp only [beq_iff_eq, Int.natCast_inj]
  exact UInt32.toNat_inj
theorem keyEq_u64 (a b : UInt64) : keyEq (.int .u64) (D.u64 a) (D.u64 b) = some (a == b) := by
  simp only [keyEq, if_true, Option.some.injEq]
  rw [Bool.eq_iff_iff]
  simp only [beq_iff_eq, Int.natCast_inj]
  exact UInt64.toNat_inj

theorem chk_inv {p : Prop} [Decidable p] {u : Unit} (h : chk p = some u) : p := by
  unfold chk at h
  split at h
  · assumption
  · cases h

theorem cut_join {τ ρ : Type} {np : Nat} {X : (ASt → Prop) → Prop} {K : ASt → Prop} {m : (τ → Option ρ) → Option ρ} {k : τ → Option ρ} {r : ρ} (St : τ → ASt)
    (h1 : ∀ k' : τ → Option ρ, m k' = some r → X (fun t => ∃ s, Weak np t s ∧ ∃ v, k' v = some r ∧ s = St v)) (h2 : ∀ v, k v = some r → K (St v)) : joinP m k = some r → CutP np X K :=
  fun h => .cut (fun s => ∃ v, k v = some r ∧ s = St v) (h1 k h) fun _ ⟨v, hv, hs⟩ => hs ▸ h2 v hv

def cw (s s' : ASt) : List AV → List D → Prop
  | [], [] => True
  | a :: l, y :: l' => (y.isAgg = false ∧ AvW s s' a (.d y)) ∧ cw s s' l l'
  | _, _ => False

theorem cw_len {s s' : ASt} : ∀ {cs : List AV} {ys : List D}, cw s s' cs ys → ys.length = cs.length
  | [], [], _ => rfl
  | _ :: _, _ :: _, h => by simp [cw_len h.2]

theorem cw_get {s s' : ASt} : ∀ {cs : List AV} {ys : List D}, cw s s' cs ys → ∀ i (hi : i < cs.length) (hi' : i < ys.length), ys[i].isAgg = false ∧ AvW s s' cs[i] (.d ys[i])
  | [], [], _, i, hi, _ => by simp at hi
  | _ :: _, _ :: _, h, 0, _, _ => h.1
  | _ :: _, _ :: _, h, i + 1, hi, hi' => cw_get h.2 i (by simpa using hi) (by simpa using hi')

theorem _root_.Go.AX.AvW.box {s s' : ASt} (r : Nat) (cs : List AV) (ys : List D) (sz : Nat) (h : s.ob.getD r none = some (.box cs)) (h' : s'.ob.getD r none = none) (hsz : sz = cs.length) (hp : 0 < cs.length) (hc : cw s s' cs ys) : AvW s s' (.own r 1) (.d (.lst sz [.agg ys])) :=
  .lstB r cs ys sz h h' hsz (cw_len hc) hp (fun i hi hi' => (cw_get hc i hi hi').2) fun i hi => (cw_get hc i (by rw [← cw_len hc]; exact hi) hi).1

theorem join_end {τ ρ : Type} {np : Nat} {t : ASt} {St : τ → ASt} {k : τ → Option ρ} {r : ρ} {v : τ} (hw : Weak np t (St v)) (h : k v = some r) : ∃ s, Weak np t s ∧ ∃ v, k v = some r ∧ s = St v :=
  ⟨_, hw, v, h, rfl⟩

/-- a loop over a list that does not change -/
theorem loop_for {np : Nat} {body : (AE → ASt → Prop) → ASt → Prop} {K : AE → ASt → Prop} {st : ASt} {α σ ρ : Type} {done : σ → Option ρ} {bd : (σ → Option ρ) → α → Nat → σ → Option ρ} {l : List α} {s0 : σ} {r : ρ}
    (slot sz : Nat) (enc : α → D) (hs : st.tm.getD slot .dead = .d (.lst sz (l.map enc))) (St : Nat → σ → ASt) (hw : Weak np st (St 0 s0))
    (hend : ∀ (s : σ) (K' : ASt → Prop), done s = some r → body (onL K K') (St l.length s))
    (hstep : ∀ (next : σ → Option ρ) (i : Nat) (x : α) (s : σ) (K' : ASt → Prop), i < l.length → (l.map enc).getD i default = enc x → IntKind.i64.wrap ((i : Int) + 1) = ((i + 1 : Nat) : Int) → bd next x i s = some r →
      (∀ t v, Weak np t (St (i + 1) v) → next v = some r → K' t) → body (onL K K') (St i s)) : forR done bd l 0 s0 = some r → LoopP np body K st := by
  intro h
  refine .mk fun hb _ => ?_
  have hl : l.length ≤ 9223372036854775807 := by simpa using hb slot sz _ hs
  refine ⟨fun s n => ∃ (i : Nat) (v : σ), n = l.length - i ∧ i ≤ l.length ∧ forR done bd (l.drop i) i v = some r ∧ s = St i v, ⟨St 0 s0, l.length, hw, 0, s0, by simp, by simp, by simpa using h, rfl⟩, ?_⟩
  rintro _ n ⟨i, v, hn, hi, hf, rfl⟩
  by_cases he : i = l.length
  · subst he
    simp only [List.drop_length, forR] at hf
    exact hend v _ hf
  · have hlt : i < l.length := by omega
    rw [List.drop_eq_getElem_cons hlt] at hf
    simp only [forR] at hf
    exact hstep _ i l[i] v _ hlt (by simp [hlt]) (i64_id (by omega) ⟨by omega, by omega⟩) hf
      fun t v' hw' hn' => ⟨_, l.length - (i + 1), by omega, hw', i + 1, v', rfl, by omega, hn', rfl⟩

/-- a loop over a row of this activation that does not change -/
theorem loop_own {np : Nat} {body : (AE → ASt → Prop) → ASt → Prop} {K : AE → ASt → Prop} {st : ASt} {α σ ρ : Type} {done : σ → Option ρ} {bd : (σ → Option ρ) → α → Nat → σ → Option ρ} {l : List α} {s0 : σ} {r : ρ}
    (slot e sz : Nat) (fz : Bool) (enc : α → D) (hs : st.ob.getD slot none = some (.row e sz (l.map enc) fz)) (St : Nat → σ → ASt) (hw : Weak np st (St 0 s0))
    (hend : ∀ (s : σ) (K' : ASt → Prop), done s = some r → body (onL K K') (St l.length s))
    (hstep : ∀ (next : σ → Option ρ) (i : Nat) (x : α) (s : σ) (K' : ASt → Prop), i < l.length → (l.map enc).getD i default = enc x → IntKind.i64.wrap ((i : Int) + 1) = ((i + 1 : Nat) : Int) → bd next x i s = some r →
      (∀ t v, Weak np t (St (i + 1) v) → next v = some r → K' t) → body (onL K K') (St i s)) : forR done bd l 0 s0 = some r → LoopP np body K st := by
  intro h
  refine .mk fun _ hb => ?_
  have hl : l.length ≤ 9223372036854775807 := by simpa using hb slot _ _ _ _ hs
  refine ⟨fun s n => ∃ (i : Nat) (v : σ), n = l.length - i ∧ i ≤ l.length ∧ forR done bd (l.drop i) i v = some r ∧ s = St i v, ⟨St 0 s0, l.length, hw, 0, s0, by simp, by simp, by simpa using h, rfl⟩, ?_⟩
  rintro _ n ⟨i, v, hn, hi, hf, rfl⟩
  by_cases he : i = l.length
  · subst he
    simp only [List.drop_length, forR] at hf
    exact hend v _ hf
  · have hlt : i < l.length := by omega
    rw [List.drop_eq_getElem_cons hlt] at hf
    simp only [forR] at hf
    exact hstep _ i l[i] v _ hlt (by simp [hlt]) (i64_id (by omega) ⟨by omega, by omega⟩) hf
      fun t v' hw' hn' => ⟨_, l.length - (i + 1), by omega, hw', i + 1, v', rfl, by omega, hn', rfl⟩

theorem lt_t {α : Type} {l : List α} {i : Nat} (h : i < l.length) : decide ((i : Int) < (l.length : Int)) = true := by simpa using h
theorem lt_f {α : Type} {l : List α} : decide ((l.length : Int) < (l.length : Int)) = false := by simp
theorem idx_b {α β : Type} {f : α → β} {l : List α} {i : Nat} (h : i < l.length) : 0 ≤ (i : Int) ∧ (i : Int) < ((l.map f).length : Int) := ⟨by omega, by simpa using h⟩

/-- any other loop -/
theorem loop_while {np : Nat} {body : (AE → ASt → Prop) → ASt → Prop} {K : AE → ASt → Prop} {st : ASt} {σ ρ : Type} {bd : (σ → Option ρ) → σ → Option ρ} {n : Nat} {s0 : σ} {r : ρ}
    (St : σ → ASt) (hw : Weak np st (St s0))
    (hstep : ∀ (next : σ → Option ρ) (s : σ) (K' : ASt → Prop), bd next s = some r → (∀ t v, Weak np t (St v) → next v = some r → K' t) → body (onL K K') (St s)) : whileR bd n s0 = some r → LoopP np body K st := by
  intro h
  refine .mk fun _ _ => ⟨fun s n => ∃ v, whileR bd n v = some r ∧ s = St v, ⟨St s0, n, hw, s0, h, rfl⟩, ?_⟩
  rintro _ m ⟨v, hf, rfl⟩
  cases m with
  | zero => cases hf
  | succ m => exact hstep _ v _ hf fun t v' hw' hn' => ⟨_, m, Nat.lt_succ_self m, hw', v', hn', rfl⟩

/-! ## The order of a region, looked at with masks -/
def maskOf (ps : List Nat) (acc : List Nat) : Nat := ps.foldl (fun m j => m ||| 2 ^ j ||| acc.getD (acc.length - 1 - j) 0) 0

def ancB : List Oper → List Nat → List Nat
  | [], acc => acc
  | o :: l, acc => ancB l (maskOf (preds o) acc :: acc)

def pairsB (ops : Array Oper) (o : Oper) (m : Nat) : List Oper → Bool
  | [] => true
  | q :: prev => (m.testBit prev.length || q.apart ops o) && pairsB ops o m prev

def drawB.go (ops : Array Oper) : List Oper → List Oper → List Nat → Bool
  | [], _, _ => true
  | o :: l, prev, masks => (preds o).all (fun j => Nat.blt j prev.length) && (match o.op with | .select _ _ => false | _ => true) && pairsB ops o (maskOf (preds o) masks) prev &&
      drawB.go ops l (o :: prev) (maskOf (preds o) masks :: masks)

def drawB (ops : Array Oper) : Bool := drawB.go ops ops.toList [] []

theorem ancs_append : ∀ (a b : List Oper) (acc : List (List Nat)), ancs (a ++ b) acc = ancs b (ancs a acc)
  | [], _, _ => rfl
  | o :: a, b, acc => ancs_append a b _

theorem ancs_suffix : ∀ (l : List Oper) (acc : List (List Nat)), ∃ p, ancs l acc = p ++ acc ∧ p.length = l.length
  | [], acc => ⟨[], rfl, rfl⟩
  | o :: l, acc => by
    obtain ⟨p, h1, h2⟩ := ancs_suffix l (((preds o).flatMap fun j => j :: acc.getD (acc.length - 1 - j) []) :: acc)
    exact ⟨p ++ [(preds o).flatMap fun j => j :: acc.getD (acc.length - 1 - j) []], by rw [ancs, h1]; simp, by simp [h2]⟩

/-- the masks say no more than the lists -/
def MaskR (masks : List Nat) (acc : List (List Nat)) : Prop := masks.length = acc.length ∧ ∀ k j, (masks.getD k 0).testBit j = true → j ∈ acc.getD k []

theorem maskOf_mem {masks : List Nat} {acc : List (List Nat)} (h : MaskR masks acc) (ps : List Nat) (j : Nat) (hj : (maskOf ps masks).testBit j = true) : j ∈ ps.flatMap fun j => j :: acc.getD (acc.length - 1 - j) [] := by
  have key : ∀ (ps : List Nat) (m : Nat), (ps.foldl (fun m j => m ||| 2 ^ j ||| masks.getD (masks.length - 1 - j) 0) m).testBit j = true →
      m.testBit j = true ∨ j ∈ ps.flatMap fun j => j :: acc.getD (acc.length - 1 - j) [] := by
    intro ps
    induction ps with
    | nil => intro m h; exact .inl h
    | cons p ps ih =>
      intro m hm
      simp only [List.foldl_cons] at hm
      rcases ih _ hm with g | g
      · simp only [Nat.testBit_or, Bool.or_eq_true, Nat.testBit_two_pow, decide_eq_true_eq] at g
        rcases g with (g | g) | g
        · exact .inl g
        · subst g; exact .inr (by simp)
        · rw [h.1] at g
          have := h.2 _ _ g
          exact .inr (by simp only [List.flatMap_cons, List.mem_append, List.mem_cons]; exact .inl (.inr this))
      · exact .inr (by simp only [List.flatMap_cons, List.mem_append]; exact .inr g)
  rcases key ps 0 hj with g | g
  · simp at g
  · exact g

theorem MaskR.cons {masks : List Nat} {acc : List (List Nat)} (h : MaskR masks acc) (ps : List Nat) : MaskR (maskOf ps masks :: masks) ((ps.flatMap fun j => j :: acc.getD (acc.length - 1 - j) []) :: acc) := by
  refine ⟨by simp [h.1], fun k j hk => ?_⟩
  cases k with
  | zero => exact maskOf_mem h ps j hk
  | succ k => exact h.2 k j hk

theorem ancB_R : ∀ (l : List Oper) {masks : List Nat} {acc : List (List Nat)}, MaskR masks acc → MaskR (ancB l masks) (ancs l acc)
  | [], _, _, h => h
  | o :: l, _, _, h => ancB_R l (h.cons (preds o))

theorem pairsB_ok {ops : Array Oper} {o : Oper} {m : Nat} : ∀ {prev : List Oper}, pairsB ops o m prev = true → ∀ j q, j < prev.length → prev.reverse[j]? = some q → m.testBit j = true ∨ q.apart ops o = true
  | [], _, j, q, hj, _ => by simp at hj
  | p :: prev, h, j, q, hj, hq => by
    simp only [pairsB, Bool.and_eq_true, Bool.or_eq_true] at h
    simp only [List.reverse_cons] at hq
    by_cases he : j = prev.length
    · subst he
      rw [List.getElem?_append_right (by simp)] at hq
      simp at hq
      subst hq
      exact h.1
    · have hlt : j < prev.length := by simp at hj; omega
      rw [List.getElem?_append_left (by simpa using hlt)] at hq
      exact pairsB_ok h.2 j q hlt hq

theorem drawGo_ok {ops : Array Oper} : ∀ (l prev : List Oper) (masks : List Nat), prev.reverse ++ l = ops.toList → MaskR masks (ancs prev.reverse []) → drawB.go ops l prev masks = true →
    ∀ i o, prev.length ≤ i → ops[i]? = some o → ((preds o).all (fun j => Nat.blt j i) && (match o.op with | .select _ _ => false | _ => true) &&
      (List.range i).all fun j => (ancOf ops i).contains j || (match ops[j]? with
        | none => false
        | some q => q.apart ops o)) = true
  | [], prev, masks, hl, _, _, i, o, hi, ho => by
    have : ops.toList.length = prev.length := by rw [← hl]; simp
    simp only [Array.length_toList] at this
    have := (Array.getElem?_eq_some_iff.1 ho).1
    omega
  | q :: l, prev, masks, hl, hR, h, i, o, hi, ho => by
    simp only [drawB.go, Bool.and_eq_true] at h
    obtain ⟨⟨⟨h1, h2⟩, h3⟩, h4⟩ := h
    by_cases he : i = prev.length
    · subst he
      have ho' : ops.toList[prev.length]? = some o := by simpa using ho
      rw [← hl, List.getElem?_append_right (by simp)] at ho'
      simp at ho'
      subst ho'
      have ha : ancOf ops prev.length = (preds q).flatMap fun j => j :: (ancs prev.reverse []).getD ((ancs prev.reverse []).length - 1 - j) [] := by
        unfold ancOf
        rw [← hl, ancs_append, ancs]
        obtain ⟨p, hp, hpl⟩ := ancs_suffix l (((preds q).flatMap fun j => j :: (ancs prev.reverse []).getD ((ancs prev.reverse []).length - 1 - j) []) :: ancs prev.reverse [])
        have hs : ops.size - 1 - prev.length = p.length := by
          have : ops.toList.length = prev.length + (l.length + 1) := by rw [← hl]; simp
          simp only [Array.length_toList] at this
          omega
        rw [hp, hs]
        simp
      simp only [Bool.and_eq_true]
      refine ⟨⟨h1, h2⟩, ?_⟩
      rw [List.all_eq_true]
      intro j hj
      have hj := List.mem_range.1 hj
      have hjs : ∃ p, ops[j]? = some p ∧ prev.reverse[j]? = some p := by
        have hlt : j < prev.reverse.length := by simpa using hj
        refine ⟨prev.reverse[j], ?_, List.getElem?_eq_getElem hlt⟩
        have : ops.toList[j]? = some prev.reverse[j] := by rw [← hl, List.getElem?_append_left hlt, List.getElem?_eq_getElem hlt]
        simpa using this
      obtain ⟨p, hp1, hp2⟩ := hjs
      rw [Bool.or_eq_true]
      rcases pairsB_ok h3 j p hj hp2 with g | g
      · left
        rw [ha]
        simpa using maskOf_mem hR (preds q) j g
      · right
        rw [hp1]
        exact g
    · refine drawGo_ok l (q :: prev) _ (by simpa using hl) ?_ h4 i o (by simp; omega) ho
      rw [List.reverse_cons, ancs_append]
      exact hR.cons (preds q)

theorem drawB_ok {ops : Array Oper} (h : drawB ops = true) : drawOK ops = true := by
  unfold drawOK
  rw [List.all_eq_true]
  intro i hi
  have hi := List.mem_range.1 hi
  have := drawGo_ok ops.toList [] [] (by simp) ⟨rfl, fun k j hk => by simp at hk⟩ h i ops[i] (by simp) (by simp [hi])
  simp only [hi, getElem?_pos]
  exact this

def confB.conf (M : List Nat) (n i : Nat) (fp : List Nat) (rw : Bool) : Nat → List (List Nat × Bool) → Bool
  | _, [] => true
  | j, (fp', rw') :: l => ((!rw && !rw') || (M.getD (n - 1 - j) 0).testBit i || fp.all fun r => !fp'.contains r) && confB.conf M n i fp rw (j + 1) l

def confB.go (M : List Nat) (n : Nat) : Nat → List (List Nat × Bool) → Bool
  | _, [] => true
  | i, (fp, rw) :: l => confB.conf M n i fp rw (i + 1) l && confB.go M n (i + 1) l

def confB (ops : Array Oper) (evs : List (List Nat × Bool)) : Bool := confB.go (ancB ops.toList []) ops.size 0 evs

theorem confB_ok {ops : Array Oper} {evs : List (List Nat × Bool)} (h : confB ops evs = true) : confOK ops 0 evs = true := by
  have hR := ancB_R ops.toList (masks := []) (acc := []) ⟨rfl, fun k j hk => by simp at hk⟩
  have c : ∀ (l : List (List Nat × Bool)) (i : Nat) (fp : List Nat) (rw : Bool) (j : Nat), confB.conf (ancB ops.toList []) ops.size i fp rw j l = true → confOK.conf ops i fp rw j l = true := by
    intro l
    induction l with
    | nil => intro i fp rw j _; rfl
    | cons x l ih =>
      intro i fp rw j hc
      obtain ⟨fp', rw'⟩ := x
      simp only [confB.conf, Bool.and_eq_true] at hc
      simp only [confOK.conf, Bool.and_eq_true]
      refine ⟨?_, ih _ _ _ _ hc.2⟩
      have hc1 := hc.1
      rw [Bool.or_eq_true, Bool.or_eq_true] at hc1 ⊢
      rcases hc1 with (g | g) | g
      · exact .inl (.inl g)
      · exact .inl (.inr (by simpa [ancOf] using hR.2 _ _ g))
      · exact .inr g
  have g : ∀ (l : List (List Nat × Bool)) (i : Nat), confB.go (ancB ops.toList []) ops.size i l = true → confOK ops i l = true := by
    intro l
    induction l with
    | nil => intro i _; rfl
    | cons x l ih =>
      intro i hc
      obtain ⟨fp, rw⟩ := x
      simp only [confB.go, Bool.and_eq_true] at hc
      simp only [confOK, Bool.and_eq_true]
      exact ⟨c _ _ _ _ _ hc.1, ih _ hc.2⟩
  exact g _ _ h

theorem dOB {ops : Array Oper} {K : Prop} (h : drawB ops = true) (k : K) : drawOK ops = true ∧ K := ⟨drawB_ok h, k⟩
theorem cOB {ops : Array Oper} {e : List (List Nat × Bool)} {K : Prop} (h : confB ops e = true) (k : K) : confOK ops 0 e = true ∧ K := ⟨confB_ok h, k⟩

/-! what numbers become -/
theorem i64_of_u8 (x : UInt8) : IntKind.i64.wrap (x.toNat : Int) = (x.toNat : Int) := by
  have := x.toNat_lt
  exact i64_id rfl ⟨by omega, by omega⟩
theorem i64_of_u16 (x : UInt16) : IntKind.i64.wrap (x.toNat : Int) = (x.toNat : Int) := by
  have := x.toNat_lt
  exact i64_id rfl ⟨by omega, by omega⟩
theorem i64_of_u32 (x : UInt32) : IntKind.i64.wrap (x.toNat : Int) = (x.toNat : Int) := by
  have := x.toNat_lt
  exact i64_id rfl ⟨by omega, by omega⟩

def toU8 (x : Int) : UInt8 := UInt8.ofNat (x % 256).toNat
def toU16 (x : Int) : UInt16 := UInt16.ofNat (x % 65536).toNat
def toU32 (x : Int) : UInt32 := UInt32.ofNat (x % 4294967296).toNat
def toU64 (x : Int) : UInt64 := UInt64.ofNat (x % 18446744073709551616).toNat

theorem u8_wrap (x : Int) : IntKind.u8.wrap x = ((toU8 x).toNat : Int) := by
  have e : (2 ^ IntKind.u8.bits : Int) = 256 := by decide
  simp only [IntKind.wrap, IntKind.signed, e, toU8, UInt8.toNat_ofNat']
  simp
  omega
theorem u16_wrap (x : Int) : IntKind.u16.wrap x = ((toU16 x).toNat : Int) := by
  have e : (2 ^ IntKind.u16.bits : Int) = 65536 := by decide
  simp only [IntKind.wrap, IntKind.signed, e, toU16, UInt16.toNat_ofNat']
  simp
  omega
theorem u32_wrap (x : Int) : IntKind.u32.wrap x = ((toU32 x).toNat : Int) := by
  have e : (2 ^ IntKind.u32.bits : Int) = 4294967296 := by decide
  simp only [IntKind.wrap, IntKind.signed, e, toU32, UInt32.toNat_ofNat']
  simp
  omega
theorem u64_wrap (x : Int) : IntKind.u64.wrap x = ((toU64 x).toNat : Int) := by
  have e : (2 ^ IntKind.u64.bits : Int) = 18446744073709551616 := by decide
  simp only [IntKind.wrap, IntKind.signed, e, toU64, UInt64.toNat_ofNat']
  simp
  omega

theorem toU8_toNat {n : Int} (h : 0 ≤ n ∧ n < 256) : ((toU8 n).toNat : Int) = n := by
  simp only [toU8, UInt8.toNat_ofNat']; simp; omega
theorem toU16_toNat {n : Int} (h : 0 ≤ n ∧ n < 65536) : ((toU16 n).toNat : Int) = n := by
  simp only [toU16, UInt16.toNat_ofNat']; simp; omega
theorem toU32_toNat {n : Int} (h : 0 ≤ n ∧ n < 4294967296) : ((toU32 n).toNat : Int) = n := by
  simp only [toU32, UInt32.toNat_ofNat']; simp; omega
theorem toU64_toNat {n : Int} (h : 0 ≤ n ∧ n < 18446744073709551616) : ((toU64 n).toNat : Int) = n := by
  simp only [toU64, UInt64.toNat_ofNat']; simp; omega

theorem fdiv_range {n m : Nat} (s : Nat) (h : n < m) : 0 ≤ (n : Int).fdiv (2 ^ s) ∧ (n : Int).fdiv (2 ^ s) < m := by
  have e : (2 ^ s : Int) = ((2 ^ s : Nat) : Int) := by simp
  rw [e, Int.fdiv_eq_ediv_of_nonneg _ (Int.natCast_nonneg _), ← Int.natCast_ediv]
  have := Nat.div_le_self n (2 ^ s)
  generalize n / 2 ^ s = q at *
  omega
theorem u8_shr (x : UInt8) (s : Nat) : (x.toNat : Int).fdiv (2 ^ s) = ((toU8 ((x.toNat : Int).fdiv (2 ^ s))).toNat : Int) := (toU8_toNat (fdiv_range s x.toNat_lt)).symm
theorem u16_shr (x : UInt16) (s : Nat) : (x.toNat : Int).fdiv (2 ^ s) = ((toU16 ((x.toNat : Int).fdiv (2 ^ s))).toNat : Int) := (toU16_toNat (fdiv_range s x.toNat_lt)).symm
theorem u32_shr (x : UInt32) (s : Nat) : (x.toNat : Int).fdiv (2 ^ s) = ((toU32 ((x.toNat : Int).fdiv (2 ^ s))).toNat : Int) := (toU32_toNat (fdiv_range s x.toNat_lt)).symm
theorem u64_shr (x : UInt64) (s : Nat) : (x.toNat : Int).fdiv (2 ^ s) = ((toU64 ((x.toNat : Int).fdiv (2 ^ s))).toNat : Int) := (toU64_toNat (fdiv_range s x.toNat_lt)).symm
theorem tmod_range {n m : Nat} (s : Nat) (h : n < m) : 0 ≤ (n : Int).tmod s ∧ (n : Int).tmod s < m := by
  rw [← Int.ofNat_tmod]
  have := Nat.mod_le n s
  omega
theorem u8_rem (x y : UInt8) : (x.toNat : Int).tmod y.toNat = ((toU8 ((x.toNat : Int).tmod y.toNat)).toNat : Int) := (toU8_toNat (tmod_range _ x.toNat_lt)).symm
theorem u16_rem (x y : UInt16) : (x.toNat : Int).tmod y.toNat = ((toU16 ((x.toNat : Int).tmod y.toNat)).toNat : Int) := (toU16_toNat (tmod_range _ x.toNat_lt)).symm
theorem u32_rem (x y : UInt32) : (x.toNat : Int).tmod y.toNat = ((toU32 ((x.toNat : Int).tmod y.toNat)).toNat : Int) := (toU32_toNat (tmod_range _ x.toNat_lt)).symm
theorem u64_rem (x y : UInt64) : (x.toNat : Int).tmod y.toNat = ((toU64 ((x.toNat : Int).tmod y.toNat)).toNat : Int) := (toU64_toNat (tmod_range _ x.toNat_lt)).symm
end Go.AX
