/-
  AX, part 18: what comes in: from a reading to data.
-/
import Derived.Test.YtoankoojoeaooaaAx17
import Derived.Deep.Slices
import Derived.SizedLaws
namespace Go.AX
open Go.RowKit Go.Deep Go.ChangeShapes Go.WideShapes

section
variable {H : Type} {enc : TypeId × Value → H} {P : Program} {w : World}

/-- the cells 'cs' hold the data 'ds' -/
def RepI (w : World) (ds : List D) (cs : List Value) : Prop :=
  ds.length = cs.length ∧ (∀ d ∈ ds, d.isAgg = false) ∧ ∀ j (hj : j < ds.length) v, cs[j]? = some v → RepD (Old w) w ds[j] v

/-- no string and no slice in it is longer than the form's reach -/
def Wt (P : Program) (t : Nat) (d : DataW H) : Prop := (d.weights P t).all (· ≤ reachBytes) = true

theorem weightsAll_mem {e : Nat} : ∀ {l : List (DataW H)} {d : DataW H}, d ∈ l → ∀ n ∈ d.weights P e, n ∈ DataW.weightsAll P e l
  | x :: l, d, hd, n, hn => by
    simp only [DataW.weightsAll, List.mem_append]
    rcases List.mem_cons.1 hd with rfl | hd
    · exact .inl hn
    · exact .inr (weightsAll_mem hd n hn)

theorem Wt.slice {t e : Nat} {el sp : List (DataW H)} (ht : P.underlying t = some (.slice e)) (h : Wt P t (.slice el sp)) : (el.length + sp.length) * P.bytesOf e ≤ reachBytes ∧ ∀ d ∈ el, Wt P e d := by
  have h := List.all_eq_true.1 h
  simp only [DataW.weights, ht, List.mem_cons, List.mem_append] at h
  refine ⟨by simpa using h _ (.inl rfl), fun d hd => List.all_eq_true.2 fun n hn => h n (.inr (.inl (weightsAll_mem hd n hn)))⟩

theorem Wt.string {t : Nat} {b : List UInt8} (h : Wt (H := H) P t (.lit (.string b))) : b.length ≤ reachBytes := by
  have h := List.all_eq_true.1 h
  simp only [DataW.weights] at h
  simpa using h _ (List.mem_singleton.2 rfl)

theorem Wt.agg {t : Nat} {F : Array Field} {ds : List (DataW H)} (ht : P.underlying t = some (.struct F)) (h : Wt P t (.agg ds)) {i : Nat} {f : Field} {d : DataW H} (hf : F[i]? = some f) (hd : ds[i]? = some d) : Wt P f.type d := by
  have h := List.all_eq_true.1 h
  simp only [DataW.weights, ht] at h
  exact List.all_eq_true.2 fun n hn => h n (DataW.weights_mem_each (ts := F.toList.map (·.type)) (j := i) (by simp [hf]) hd n hn)

/-- whatever of type 't' is read: its cells hold what some 'a' stands for -/
def Reads (enc : TypeId × Value → H) (P : Program) (w : World) (t : Nat) {α : Type} (cells : α → List D) (ok : α → Prop) : Prop :=
  ∀ fuel cs x, DataW.trod enc P w 0 (fun _ => true) true fuel t cs = some x → Wt P t x.1 → ∃ a, ok a ∧ RepI w (cells a) cs

theorem RepI.one {d : D} {v : Value} (hd : d.isAgg = false) (h : RepD (Old w) w d v) : RepI w [d] [v] :=
  ⟨rfl, fun x hx => by simp only [List.mem_singleton] at hx; rw [hx]; exact hd, fun j hj u hu => by
    have : j = 0 := by simpa using hj
    subst this
    simp only [List.getElem?_cons_zero, Option.some.injEq] at hu
    subst hu
    exact h⟩

theorem RepI.append {ds es : List D} {cs ks : List Value} (h : RepI w ds cs) (k : RepI w es ks) : RepI w (ds ++ es) (cs ++ ks) := by
  obtain ⟨h1, h2, h3⟩ := h
  obtain ⟨k1, k2, k3⟩ := k
  refine ⟨by simp [h1, k1], fun d hd => ?_, fun j hj v hv => ?_⟩
  · rcases List.mem_append.1 hd with hd | hd
    · exact h2 d hd
    · exact k2 d hd
  · rw [List.getElem_append]
    split
    · rename_i hlt
      rw [List.getElem?_append_left (by omega)] at hv
      exact h3 j hlt v hv
    · rename_i hge
      rw [List.getElem?_append_right (by omega), ← h1] at hv
      exact k3 (j - ds.length) (by simp at hj; omega) v hv

theorem Reads.map {t : Nat} {α β : Type} {cells : α → List D} {ok : α → Prop} (h : Reads enc P w t cells ok) {cells' : β → List D} {ok' : β → Prop} (g : α → β) (hc : ∀ a, cells' (g a) = cells a) (hk : ∀ a, ok a → ok' (g a)) : Reads enc P w t cells' ok' := by
  intro fuel cs x hx hw
  obtain ⟨a, h1, h2⟩ := h fuel cs x hx hw
  exact ⟨g a, hk a h1, by rw [hc]; exact h2⟩

theorem reads_int {t : Nat} {k : IntKind} (ht : P.underlying t = some (.int k)) : Reads enc P w t (fun n : Int => [.val (.int k n)]) (fun n => (Lit.int k n).wf = true) := by
  intro fuel cs x h _
  obtain ⟨n, rfl, _, hw⟩ := DataW.trod_int ht h
  exact ⟨n, hw, RepI.one rfl (.val _ rfl)⟩

theorem reads_bool {t : Nat} (ht : P.underlying t = some .bool) : Reads enc P w t (fun b : Bool => [.val (.bool b)]) (fun _ => True) := by
  intro fuel cs x h _
  obtain ⟨b, rfl, _⟩ := DataW.trod_bool ht h
  exact ⟨b, trivial, RepI.one rfl (.val _ rfl)⟩

theorem reads_string {t : Nat} (ht : P.underlying t = some .string) : Reads enc P w t (fun s : ByteArray => [.val (.string s)]) (fun s => s.size ≤ maxLen ∧ s.size ≤ reachBytes) := by
  intro fuel cs x h hw
  obtain ⟨s, rfl, rfl, hs⟩ := DataW.trod_string ht h
  have := Wt.string hw
  rw [Array.length_toList] at this
  exact ⟨s, ⟨hs, this⟩, RepI.one rfl (.val _ rfl)⟩

/-- a slice: its elements one by one -/
theorem reads_slice {t e sz by' : Nat} {α : Type} {el : α → D} {ok : α → Prop} (ht : P.underlying t = some (.slice e)) (hsz : P.cellsOf e = sz) (hpos : 0 < sz) (hby : P.bytesOf e = by') (h : Reads enc P w e (fun a => (el a).cells) ok) :
    Reads enc P w t (fun l : List α => [.lst sz (l.map el)]) (fun l => l.length ≤ maxLen ∧ l.length * by' ≤ reachBytes ∧ ∀ a ∈ l, ok a) := by
  intro fuel cs x hx hw
  rcases open_slice ht hx with ⟨rfl, _⟩ | ⟨a, len, cap, m, n, D, Pl, rfl, _, hlc, hm, hmm, rfl, hel⟩
  · exact ⟨[], ⟨by simp, by simp, by simp⟩, RepI.one rfl (.lst0 _ _ _)⟩
  · obtain ⟨hw1, hw2⟩ := Wt.slice ht hw
    have hw1 : len * by' ≤ reachBytes := by
      refine Nat.le_trans ?_ hw1
      rw [hby]
      exact Nat.mul_le_mul_right _ (by simp)
    have hmm : m = cap := hmm.trans (if_pos rfl)
    subst hmm
    rw [hsz] at hel
    have one : ∀ i, i < len → ∃ q : α × List Value, ok q.1 ∧ RepI w (el q.1).cells q.2 ∧ w.cells? 0 (a.add (i * sz)) sz = some q.2 := by
      intro i hi
      obtain ⟨cs', h1, h2⟩ := hel i (by omega)
      obtain ⟨b, h3, h4⟩ := h n cs' _ h2 (hw2 _ (List.mem_map.2 ⟨i, List.mem_range.2 hi, rfl⟩))
      exact ⟨(b, cs'), h3, h4, h1⟩
    by_cases h0 : len = 0
    · subst h0
      exact ⟨[], ⟨by simp, by simp, by simp⟩, RepI.one rfl (.lst0 _ _ _)⟩
    · obtain ⟨q0, _⟩ := one 0 (by omega)
      haveI : Inhabited (α × List Value) := ⟨q0⟩
      obtain ⟨f, hf⟩ := choose_lt one
      have hspot : a.spot = none := by
        obtain ⟨_, _, h3⟩ := hf 0 (by omega)
        obtain ⟨_, hl, hc⟩ := World.cells?_some h3
        have := hc 0 hpos
        rw [Nat.zero_mul] at this
        have e : (a.add 0).add 0 = a := by simp [Addr.add]
        rw [e] at this
        have hlt : 0 < (f 0).2.length := by omega
        rw [List.getElem?_eq_getElem hlt] at this
        unfold World.cell? at this
        split at this
        · cases hs : a.spot with
          | none => rfl
          | some s => simp [hs] at this
        · simp at this
      obtain ⟨b, o, sp⟩ := a
      simp only at hspot
      subst hspot
      have hadd : ∀ i j, ((⟨b, o, none⟩ : Addr).add i).add j = ⟨b, o + i + j, none⟩ := by
        intro i j
        rw [Addr.add_none, Addr.add_none]
      have hcell : ∀ i j, i < len → j < sz → ∃ v, (f i).2[j]? = some v ∧ cellAt w b (o + i * sz + j) = some v := by
        intro i j hi hj
        obtain ⟨_, _, h3⟩ := hf i hi
        obtain ⟨_, hl, hc⟩ := World.cells?_some h3
        have := hc j hj
        rw [hadd] at this
        have hlt : j < (f i).2.length := by omega
        exact ⟨(f i).2[j], List.getElem?_eq_getElem hlt, by rw [List.getElem?_eq_getElem hlt] at this; exact this⟩
      have hlenq : ∀ i, i < len → (el (f i).1).cells.length = sz := by
        intro i hi
        obtain ⟨_, h2, h3⟩ := hf i hi
        obtain ⟨_, hl, _⟩ := World.cells?_some h3
        rw [h2.1, hl]
      refine ⟨(List.range len).map fun i => (f i).1, ⟨by simp; omega, by simpa using hw1, fun a ha => ?_⟩, RepI.one rfl ?_⟩
      · obtain ⟨i, hi, rfl⟩ := List.mem_map.1 ha
        exact (hf i (List.mem_range.1 hi)).1
      · have hL : (((List.range len).map fun i => (f i).1).map el).length = len := by simp
        have := RepD.lst (S := Old w) (w := w) sz (((List.range len).map fun i => (f i).1).map el) b o m (fun i j => ((f i).2[j]?).getD undef) (by rw [hL]; exact Nat.le_trans hlc hm) (by rw [hL]; exact hlc) (fun i hi => ?_) (fun i j hi hj => ?_) (fun i hi j hj => ?_) (fun i hi j hj => ?_)
        · rw [hL] at this
          exact this
        · rw [hL] at hi
          simpa using hlenq i hi
        · rw [hL] at hi
          obtain ⟨v, h1, h2⟩ := hcell i j hi hj
          exact ⟨⟨v, h2⟩, by rw [h2, h1]; rfl⟩
        · rw [hL] at hi
          obtain ⟨_, h2, _⟩ := hf i hi
          exact h2.2.1 _ (by simp)
        · rw [hL] at hi
          obtain ⟨_, h2, _⟩ := hf i hi
          simp only [List.getElem_map, List.getElem_range] at hj ⊢
          have hj' : j < sz := by rw [hlenq i hi] at hj; exact hj
          obtain ⟨v, h1, _⟩ := hcell i j hi hj'
          rw [h1]
          exact h2.2.2 j hj v h1

/-! a struct: its fields one behind the other -/
def Chop (enc : TypeId × Value → H) (P : Program) (w : World) : List (Nat × Nat) → List Value → Prop
  | [], cs => cs = []
  | (t, sz) :: fs, cs => sz ≤ cs.length ∧ (∃ fuel x, DataW.trod enc P w 0 (fun _ => true) true fuel t (cs.take sz) = some x ∧ Wt P t x.1) ∧ Chop enc P w fs (cs.drop sz)

def ReadsF (enc : TypeId × Value → H) (P : Program) (w : World) (fs : List (Nat × Nat)) {α : Type} (cells : α → List D) (ok : α → Prop) : Prop :=
  ∀ cs, Chop enc P w fs cs → ∃ a, ok a ∧ RepI w (cells a) cs

theorem readsF_nil : ReadsF enc P w [] (fun _ : Unit => []) (fun _ => True) := by
  intro cs h
  cases h
  exact ⟨(), trivial, rfl, fun d hd => by simp at hd, fun j hj => by simp at hj⟩

theorem readsF_cons {t sz : Nat} {fs : List (Nat × Nat)} {α β : Type} {ca : α → List D} {oa : α → Prop} {cb : β → List D} {ob : β → Prop} (ha : Reads enc P w t ca oa) (hb : ReadsF enc P w fs cb ob) :
    ReadsF enc P w ((t, sz) :: fs) (fun x : α × β => ca x.1 ++ cb x.2) (fun x => oa x.1 ∧ ob x.2) := by
  rintro cs ⟨_, ⟨fuel, x, hx, hw⟩, hc⟩
  obtain ⟨a, h1, h2⟩ := ha fuel _ _ hx hw
  obtain ⟨b, h3, h4⟩ := hb _ hc
  exact ⟨(a, b), ⟨h1, h3⟩, by have := h2.append h4; rwa [List.take_append_drop] at this⟩

/-- the fields lie one behind the other, from 'o' on, and fill the row -/
def contigB (P : Program) : Nat → List Field → List (Nat × Nat) → Nat → Bool
  | o, [], [], n => Nat.beq o n
  | o, f :: F, (t, sz) :: fs, n => Nat.beq f.offset o && Nat.beq f.type t && Nat.beq (P.cellsOf f.type) sz && Nat.ble (o + sz) n && contigB P (o + sz) F fs n
  | _, _, _, _ => false

theorem chop_of {n : Nat} {cs : List Value} (hl : cs.length = n) : ∀ (F : List Field) (fs : List (Nat × Nat)) (o : Nat), contigB P o F fs n = true →
    (∀ f ∈ F, ∃ fuel x, DataW.trod enc P w 0 (fun _ => true) true fuel f.type ((cs.drop f.offset).take (P.cellsOf f.type)) = some x ∧ Wt P f.type x.1) → Chop enc P w fs (cs.drop o)
  | [], [], o, h, _ => by
    have := Nat.eq_of_beq_eq_true h
    simp only [Chop]
    exact List.drop_eq_nil_of_le (by omega)
  | f :: F, (t, sz) :: fs, o, h, hf => by
    simp only [contigB, Bool.and_eq_true, beq_iff] at h
    obtain ⟨⟨⟨⟨h1, h2⟩, h3⟩, h4⟩, h5⟩ := h
    have h4 := Nat.le_of_ble_eq_true h4
    obtain ⟨fuel, x, hx, hw⟩ := hf f (by simp)
    rw [h1, h3, h2] at hx
    rw [h2] at hw
    refine ⟨by simp; omega, ⟨fuel, x, hx, hw⟩, ?_⟩
    rw [List.drop_drop]
    exact chop_of hl F fs (o + sz) h5 fun g hg => hf g (by simp [hg])
  | [], _ :: _, _, h, _ => by simp [contigB] at h
  | _ :: _, [], _, h, _ => by simp [contigB] at h

theorem reads_struct {t : Nat} {F : Array Field} {fs : List (Nat × Nat)} {α : Type} {cells : α → List D} {ok : α → Prop} (ht : P.underlying t = some (.struct F)) (hc : contigB P 0 F.toList fs (P.cellsOf t) = true) (h : ReadsF enc P w fs cells ok) :
    Reads enc P w t cells ok := by
  intro fuel cs x hx hw
  obtain ⟨xs, n, _, rfl, hl, hlen, hf⟩ := DataW.trod_struct ht hx
  refine h cs ?_
  refine (chop_of (enc := enc) (w := w) hl F.toList fs 0 hc fun f hfm => ?_ : Chop enc P w fs (cs.drop 0))
  · obtain ⟨i, hi, rfl⟩ := List.getElem_of_mem hfm
    simp only [Array.length_toList] at hi
    have := hf i F[i] (by simp [hi])
    rw [List.getElem?_eq_getElem (by omega)] at this
    exact ⟨n, _, by simpa using this, by simpa using Wt.agg ht hw (i := i) (f := F[i]) (by simp [hi]) (d := xs[i].1) (by rw [List.getElem?_map, List.getElem?_eq_getElem (by omega)]; rfl)⟩

/-! an argument -/
theorem RepI.val {d : D} {v : Value} (h : RepI w [d] [v]) : RepD (Old w) w d v := h.2.2 0 (by simp) v (by simp)

theorem RepI.agg {ds : List D} {cs : Array Value} (h : RepI w ds cs.toList) : RepD (Old w) w (.agg ds) (.agg cs) := by
  obtain ⟨h1, h2, h3⟩ := h
  refine .agg ds cs (fun i => cs.getD i undef) (by simpa using h1.symm) (fun i hi => ?_) (fun i hi => h2 _ (by simp)) fun i hi => h3 i hi _ ?_
  · have : i < cs.size := by have := h1; simp at this; omega
    simp [this]
  · have : i < cs.size := by have := h1; simp at this; omega
    simp [this]

/-- a slice that came in -/
theorem open_sliceA {t : Nat} {α : Type} {cells : α → D} {ok : α → Prop} (h : Reads enc P w t (fun a => [cells a]) ok) {a : Option Addr} {len cap : Nat} {d : DataW H} {p : List MemPlace}
    (hv : DataW.Trod enc P w 0 (fun _ => true) true t (.slice a len cap) d p) (hw : Wt P t d) : ∃ x, ok x ∧ RepD (Old w) w (cells x) (.slice a len cap) := by
  obtain ⟨fuel, hf⟩ := hv
  obtain ⟨x, h1, h2⟩ := h fuel _ _ hf hw
  exact ⟨x, h1, RepI.val (by simpa [Value.cells] using h2)⟩

theorem open_aggA {t : Nat} {α : Type} {cells : α → List D} {ok : α → Prop} (h : Reads enc P w t cells ok) {cs : Array Value} {d : DataW H} {p : List MemPlace}
    (hv : DataW.Trod enc P w 0 (fun _ => true) true t (.agg cs) d p) (hw : Wt P t d) : ∃ x, ok x ∧ RepD (Old w) w (.agg (cells x)) (.agg cs) := by
  obtain ⟨fuel, hf⟩ := hv
  obtain ⟨x, h1, h2⟩ := h fuel _ _ hf hw
  exact ⟨x, h1, RepI.agg (by simpa [Value.cells] using h2)⟩
end
end Go.AX
